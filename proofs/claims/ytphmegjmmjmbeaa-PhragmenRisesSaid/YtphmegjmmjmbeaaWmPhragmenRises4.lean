/- Walks and their mathematics, merged. No conditions beyond those written. -/
import Derived.Test.YtphmegjmmjmbeaaWmPhragmenRises3
/- Elections: Elect walked. -/
namespace Go.Proofs.Wk
open Go.RowKit
set_option maxRecDepth 100000
set_option maxHeartbeats 8000000
attribute [local irreducible] Pw OpG
set_option linter.unusedVariables false
set_option linter.unusedSimpArgs false
structure Ea where
  os : List On
  zo : Option Addr × Nat
  sh : List Shr
  zs : Option Addr × Nat
theorem gv_form {ss : Gr} {os : List On} (h : gOk ss (cellsO os) os.length 3) (hl : os.length ≤ 1000) : ∃ z : Option Addr × Nat, gv ss os.length = .slice z.1 os.length z.2 ∧ ∀ w : World, (∀ b ∈ gL ss (cellsO os) 38, w.heap[b.g]? = some b.o) → AllO os w → OS os z w := by
  obtain _ | ⟨g, cap, ex⟩ := ss
  · have h0 : os = [] := List.eq_nil_of_length_eq_zero h.1
    subst h0
    exact ⟨(none, 0), rfl, fun w _ _ => Rows.nil _ _ _ _ _⟩
  · exact ⟨(some ⟨g, 0, none⟩, cap), rfl, fun w hw ha => rows_of_row (ex := ex) (hw ⟨g, row (cellsO os ++ ex) 38⟩ (List.mem_singleton.2 rfl)) (fun y _ => rfl) ha h.2.1 (by simp only [maxLen]; omega) (by omega)⟩
theorem ElectN_ct (s : Sn) (k : Int) (hW : snW s) (hF : formB s = true) (hn : s.vs ≠ []) (h0 : 0 ≤ k) (h8 : k ≤ 8) :
    Ct Try.prog 10 #[snV s, .int .i64 k] (snF s) (fun y : Ea => .tuple #[.slice y.zo.1 y.os.length y.zo.2, ssV y.sh y.zs, .int .i64 0])
      (fun y => y.os.map (fun o => (o.at_, o.a, o.b)) = (electE s.vs s.cs k.toNat).se.map seatQ ∧ y.sh.map shK = shTo s.vs s.cs (electE s.vs s.cs k.toNat) s.vs.length) (fun y W => OS y.os y.zo W ∧ SS y.sh y.zs W) := by
  obtain ⟨l1, l2, l3, l4⟩ := formB_all hF
  have hV := vok_of hW hF
  obtain ⟨vs, zv, cs, zc⟩ := s
  dsimp only at hn l1 l2 l3 hV
  refine Ct.start Try.func10 rfl rfl (slots_of rfl slots2) (fun D w0 => Pw.facts sn2 ?_)
  try refine Pw.run ?_
  refine Pw.list (Pw.box rfl rfl rfl rfl (fun g2 => freeHead ?_))
  repeat (first | refine Pw.runs ?_ | refine Pw.list (Pw.box rfl rfl rfl rfl (fun _ => ?_)) | refine Pw.list (Pw.alloc rfl rfl rfl rfl rfl (fun _ => ?_)))
  refine Pw.list (Pw.call (gFormed_ct ⟨vs, zv, cs, zc⟩ hW) rfl rfl rfl (by kernel_rfl) rfl rfl (fun w h => ⟨(hv w h), (hv w h)⟩) ?_)
  intro _ _
  rw [hF]
  repeat (first | refine Pw.runs ?_ | refine Pw.list (Pw.box rfl rfl rfl rfl (fun _ => ?_)) | refine Pw.list (Pw.alloc rfl rfl rfl rfl rfl (fun _ => ?_)))
  refine Pw.re (d := 15) (v' := .bool false) rfl (congrArg Value.bool (decide_eq_false (by omega))) ?_
  repeat (first | refine Pw.runs ?_ | refine Pw.list (Pw.box rfl rfl rfl rfl (fun _ => ?_)) | refine Pw.list (Pw.alloc rfl rfl rfl rfl rfl (fun _ => ?_)))
  refine Pw.re (d := 18) (v' := .bool false) rfl (congrArg Value.bool (decide_eq_false (by omega))) ?_
  repeat (first | refine Pw.runs ?_ | refine Pw.list (Pw.box rfl rfl rfl rfl (fun _ => ?_)) | refine Pw.list (Pw.alloc rfl rfl rfl rfl rfl (fun _ => ?_)))
  refine Pw.list (Pw.callB (L0 := []) (newRunner_ct vs zv cs zc hV hn l1 l2 (pk_of hF)) rfl rfl rfl rfl (by kernel_rfl) rfl rfl (fun w h => ⟨(hv w h), (hv w h)⟩) ?_)
  rintro ⟨gr, ga, gl, capl, ge, cape, ex, exe, m, za, x⟩ ⟨hx, hm⟩
  dsimp only at hx hm ⊢
  rw [List.append_nil]
  repeat (first | refine Pw.runs ?_ | refine Pw.list (Pw.box rfl rfl rfl rfl (fun _ => ?_)) | refine Pw.list (Pw.alloc rfl rfl rfl rfl rfl (fun _ => ?_)))
  refine Pw.loopJ (σ := Nat × Est × Rp) (fun t => t.1 ≤ k.toNat ∧ EOk vs (1 + 3 * t.1) t.2.1 ∧ RpOk t.2.1 t.2.2 ∧ t.2.1.se.length = t.1 ∧ runE vs cs (k.toNat - t.1) t.2.1 = electE vs cs k.toNat ∧ t.2.2.es.map Prod.fst = x.es.map Prod.fst)
    (fun t => ⟨[(1, .int .i64 k), (7, .pointer (some ⟨gr, 0, none⟩))], rL vs.length zv cs zc gr ga gl capl ge cape ex m t.2.1.D t.2.2, [rF t.2.1.D t.2.2, gF vs zv cs zc za ge (x.es.map Prod.fst) exe]⟩) (fun t => k.toNat - t.1) (0, begE vs, x) ⟨Nat.zero_le _, beg_ok vs, hx, rfl, rfl, rfl⟩ (by
    intro X h
    dsimp only at h
    refine Pw.enter ?_ ?_ X h
    · exact ⟨rfl, rfl, trivial⟩
    · exact fun w h => allCons (fact0 h).1 (allCons (fact0 h).2 allNil)) ?_
  rintro ⟨r, S, y⟩ ⟨hr, hS, hy, hse, hrun, heg⟩
  dsimp only at hr hS hy hse hrun heg ⊢
  have hol : y.os.length = r := by have := congrArg List.length hy.os; rw [List.length_map, List.length_map] at this; omega
  obtain ⟨⟨A, cA⟩, hgv, _⟩ := gv_form hy.ss (by omega)
  repeat (first | refine Pw.runs ?_ | refine Pw.list (Pw.box rfl rfl rfl rfl (fun _ => ?_)) | refine Pw.list (Pw.alloc rfl rfl rfl rfl rfl (fun _ => ?_)))
  refine Pw.re (d := 24) (v' := .slice A y.os.length cA) rfl hgv ?_
  repeat (first | refine Pw.runs ?_ | refine Pw.list (Pw.box rfl rfl rfl rfl (fun _ => ?_)) | refine Pw.list (Pw.alloc rfl rfl rfl rfl rfl (fun _ => ?_)))
  by_cases hk : (y.os.length : Int) < k
  · refine Pw.re (d := 28) (v' := .bool true) rfl (congrArg Value.bool (decide_eq_true hk)) ?_
    repeat (first | refine Pw.runs ?_ | refine Pw.list (Pw.box rfl rfl rfl rfl (fun _ => ?_)) | refine Pw.list (Pw.alloc rfl rfl rfl rfl rfl (fun _ => ?_)))
    refine Pw.list (Pw.callB (L0 := []) (round_ct vs zv cs zc gr ga gl capl ge cape ex exe m za (1 + 3 * r) S y hV hS (by omega) hy l1 l2 (ris_nn l3) hm (by omega)) (List.append_nil _).symm rfl rfl rfl (by kernel_rfl) rfl rfl (fun w h => ⟨fact0 h, by rw [heg]; exact fact1 h⟩) ?_)
    rintro y2 ⟨hy2, heg2⟩
    rw [List.append_nil]
    have hkr : k.toNat - r = (k.toNat - (r + 1)) + 1 := by omega
    cases hrn : rnd vs cs S with
    | none =>
      rw [hrn] at hy2
      refine Pw.re (d := 30) (v' := .bool false) rfl rfl ?_
      repeat (first | refine Pw.runs ?_ | refine Pw.list (Pw.box rfl rfl rfl rfl (fun _ => ?_)) | refine Pw.list (Pw.alloc rfl rfl rfl rfl rfl (fun _ => ?_)))
      have hE : S = electE vs cs k.toNat := by rw [← hrun, hkr]; unfold runE; rw [hrn]
      refine Pw.eqL (List.append_nil _).symm (Pw.freeL ?_)
      refine Pw.facts (G' := [fun W => W.heap[gr]? = some (row (rB vs.length zv cs zc ga S.D y2.zd gl capl (.slice (some ⟨ge, 0, none⟩) vs.length cape) (gv y2.ss y2.os.length)) 75), fun W => ∀ b ∈ rL vs.length zv cs zc gr ga gl capl ge cape ex m S.D y2, W.heap[b.g]? = some b.o, rF S.D y2, gF vs zv cs zc za ge (x.es.map Prod.fst) exe]) (fun w h => allCons (fact0 h _ (List.mem_cons_self ..)) (allCons (fact0 h) (allCons (fact1 h) (allCons (fact3 h) allNil)))) ?_
      refine Pw.drawnG mixed rfl rfl ?_
      refine Pw.takeP 0 (nb 9 1) rfl rfl rfl rfl (by kernel_rfl) np sf ?_
      refine Pw.takeP 1 (nb 9 3) rfl rfl rfl rfl (by kernel_rfl) np sf ?_
      refine Pw.takeP 2 (nb 9 7) rfl rfl rfl rfl (by kernel_rfl) np sf ?_
      refine Pw.takeF 3 (nb 9 15) rfl rfl inferInstance rfl rfl rfl (by kernel_rfl) np sf ?_
      refine Pw.takeP 4 (nb 9 31) rfl rfl rfl rfl (by kernel_rfl) np sf ?_
      refine Pw.one 5 (nb 9 63) rfl (by kernel_rfl) ?_
      -- call Op.call { callee := Callee.value (Operand.func 28), args := #[Operand.tmp 36], argTypes := #[69] }
      refine Pw.call (shares_ct vs zv cs zc gr ga gl capl ge cape ex exe (gv y2.ss y2.os.length) (1 + 3 * r) S y2.zd y2.ns y2.es hV hS (by omega) hy2.ns hy2.es l1 l2) rfl rfl rfl (by kernel_rfl) rfl rfl (fun w h => ⟨fact0 h, fact1 h _ (.tail _ (.head _)), fun e he => fact1 h _ (.tail _ (.tail _ (.tail _ (List.mem_append_right _ (List.mem_map_of_mem he))))), (fact2 h).1, (fact2 h).2.1, (fact2 h).2.2.2, (fact3 h).1, (fact3 h).2.1, by rw [heg2, heg]; exact (fact3 h).2.2.2⟩) ?_
      rintro ⟨sh, zs⟩ hsh
      refine Pw.held sf ?_
      refine Pw.takeP 6 (nb 9 127) rfl rfl rfl rfl (by kernel_rfl) np sf ?_
      refine Pw.takeP 7 (nb 9 255) rfl rfl rfl rfl (by kernel_rfl) np sf ?_
      refine Pw.takeP 8 (nb 9 511) rfl rfl rfl rfl (by kernel_rfl) np sf ?_
      refine Pw.done (by kernel_rfl) ?_
      repeat (first | refine Pw.runs ?_ | refine Pw.list (Pw.box rfl rfl rfl rfl (fun _ => ?_)) | refine Pw.list (Pw.alloc rfl rfl rfl rfl rfl (fun _ => ?_)))
      obtain ⟨z, hz1, hz2⟩ := gv_form hy2.ss (by have := congrArg List.length hy2.os; rw [List.length_map, List.length_map] at this; have h9 : (none.getD S : Est).se.length = r := hse; omega)
      exact Pw.ret_ (x := ⟨y2.os, z, sh, zs⟩) (.tmp rfl (.tmp rfl (.tmp rfl .nil))) (by rw [hz1]; rfl) ⟨by rw [← hE]; exact hy2.os, by rw [← hE]; exact hsh⟩ (fun w h => ⟨hz2 w (fun b hb => fact2 h b (.tail _ (.tail _ (.tail _ (List.mem_append_left _ hb))))) (fact3 h).2.2.1, fact0 h⟩)
    | some S2 =>
      rw [hrn] at hy2
      refine Pw.re (d := 30) (v' := .bool true) rfl rfl ?_
      repeat (first | refine Pw.runs ?_ | refine Pw.list (Pw.box rfl rfl rfl rfl (fun _ => ?_)) | refine Pw.list (Pw.alloc rfl rfl rfl rfl rfl (fun _ => ?_)))
      exact Pw.again (r + 1, S2, y2) ⟨by show r + 1 ≤ k.toNat; omega, (rnd_ok hV hS hrn : EOk vs (1 + 3 * r + 3) S2), hy2, by
        show S2.se.length = r + 1
        unfold rnd at hrn
        cases hb : best vs S cs with
        | none => rw [hb] at hrn; cases hrn
        | some b =>
          rw [hb] at hrn
          rw [← Option.some.inj hrn]
          show (S.se ++ [_]).length = r + 1
          simp [hse], by
        show runE vs cs (k.toNat - (r + 1)) S2 = _
        rw [← hrun, hkr]
        show _ = (match rnd vs cs S with | none => S | some S' => runE vs cs _ S')
        rw [hrn], heg2.trans heg⟩ (by show k.toNat - (r + 1) < k.toNat - r; omega) ⟨rfl, rfl, trivial⟩ rfl (fun w h => allCons (fact0 h) (allCons (fact2 h) allNil))
  · refine Pw.re (d := 28) (v' := .bool false) rfl (congrArg Value.bool (decide_eq_false hk)) ?_
    repeat (first | refine Pw.runs ?_ | refine Pw.list (Pw.box rfl rfl rfl rfl (fun _ => ?_)) | refine Pw.list (Pw.alloc rfl rfl rfl rfl rfl (fun _ => ?_)))
    have hE : S = electE vs cs k.toNat := by rw [← hrun, show k.toNat - r = 0 by omega]; rfl
    refine Pw.eqL (List.append_nil _).symm (Pw.freeL ?_)
    refine Pw.facts (G' := [fun W => W.heap[gr]? = some (row (rB vs.length zv cs zc ga S.D y.zd gl capl (.slice (some ⟨ge, 0, none⟩) vs.length cape) (gv y.ss y.os.length)) 75), fun W => ∀ b ∈ rL vs.length zv cs zc gr ga gl capl ge cape ex m S.D y, W.heap[b.g]? = some b.o, rF S.D y, gF vs zv cs zc za ge (x.es.map Prod.fst) exe]) (fun w h => allCons (fact0 h _ (List.mem_cons_self ..)) (allCons (fact0 h) (allCons (fact1 h) (allCons (fact2 h) allNil)))) ?_
    refine Pw.drawnG mixed rfl rfl ?_
    refine Pw.takeP 0 (nb 9 1) rfl rfl rfl rfl (by kernel_rfl) np sf ?_
    refine Pw.takeP 1 (nb 9 3) rfl rfl rfl rfl (by kernel_rfl) np sf ?_
    refine Pw.takeP 2 (nb 9 7) rfl rfl rfl rfl (by kernel_rfl) np sf ?_
    refine Pw.takeF 3 (nb 9 15) rfl rfl inferInstance rfl rfl rfl (by kernel_rfl) np sf ?_
    refine Pw.takeP 4 (nb 9 31) rfl rfl rfl rfl (by kernel_rfl) np sf ?_
    refine Pw.one 5 (nb 9 63) rfl (by kernel_rfl) ?_
    -- call Op.call { callee := Callee.value (Operand.func 28), args := #[Operand.tmp 36], argTypes := #[69] }
    refine Pw.call (shares_ct vs zv cs zc gr ga gl capl ge cape ex exe (gv y.ss y.os.length) (1 + 3 * r) S y.zd y.ns y.es hV hS (by omega) hy.ns hy.es l1 l2) rfl rfl rfl (by kernel_rfl) rfl rfl (fun w h => ⟨fact0 h, fact1 h _ (.tail _ (.head _)), fun e he => fact1 h _ (.tail _ (.tail _ (.tail _ (List.mem_append_right _ (List.mem_map_of_mem he))))), (fact2 h).1, (fact2 h).2.1, (fact2 h).2.2.2, (fact3 h).1, (fact3 h).2.1, by rw [heg]; exact (fact3 h).2.2.2⟩) ?_
    rintro ⟨sh, zs⟩ hsh
    refine Pw.held sf ?_
    refine Pw.takeP 6 (nb 9 127) rfl rfl rfl rfl (by kernel_rfl) np sf ?_
    refine Pw.takeP 7 (nb 9 255) rfl rfl rfl rfl (by kernel_rfl) np sf ?_
    refine Pw.takeP 8 (nb 9 511) rfl rfl rfl rfl (by kernel_rfl) np sf ?_
    refine Pw.done (by kernel_rfl) ?_
    repeat (first | refine Pw.runs ?_ | refine Pw.list (Pw.box rfl rfl rfl rfl (fun _ => ?_)) | refine Pw.list (Pw.alloc rfl rfl rfl rfl rfl (fun _ => ?_)))
    obtain ⟨z, hz1, hz2⟩ := gv_form hy.ss (by have := congrArg List.length hy.os; rw [List.length_map, List.length_map] at this; omega)
    exact Pw.ret_ (x := ⟨y.os, z, sh, zs⟩) (.tmp rfl (.tmp rfl (.tmp rfl .nil))) (by rw [hz1]; rfl) ⟨by rw [← hE]; exact hy.os, by rw [← hE]; exact hsh⟩ (fun w h => ⟨hz2 w (fun b hb => fact2 h b (.tail _ (.tail _ (.tail _ (List.mem_append_left _ hb))))) (fact3 h).2.2.1, fact0 h⟩)
end Go.Proofs.Wk
/- Elections: Elect of no voters; Elect of any snapshot. -/
namespace Go.Proofs.Wk
open Go.RowKit
set_option maxRecDepth 100000
set_option maxHeartbeats 8000000
attribute [local irreducible] Pw OpG
set_option linter.unusedVariables false
set_option linter.unusedSimpArgs false
abbrev r0L (zv : Option Addr × Nat) (cs : List Int) (zc : Option Addr × Nat) (gr ga : Nat) (zd : Option Addr × Nat) : List Blk :=
  [⟨gr, row [.slice zv.1 0 zv.2, sl cs zc, .map (some ga), sl (natL 1) zd, .slice none 0 0, .slice none 0 0, .slice none 0 0] 75⟩, ⟨ga, mapO []⟩]
theorem newRunner0_ct (zv : Option Addr × Nat) (cs : List Int) (zc : Option Addr × Nat) :
    CtB Try.prog 26 #[snV ⟨[], zv, cs, zc⟩] [] (snF ⟨[], zv, cs, zc⟩) (fun y : Nat × Nat × (Option Addr × Nat) => .pointer (some ⟨y.1, 0, none⟩)) Tt
      (fun y => r0L zv cs zc y.1 y.2.1 y.2.2) (fun y W => S1 (natL 1) y.2.2 W) := by
  obtain ⟨Av, cv⟩ := zv
  obtain ⟨Ac, cc⟩ := zc
  refine CtB.start Try.func26 rfl rfl (slots_of rfl slots1) (fun D0 w0 => Pw.facts sn2 ?_)
  try refine Pw.run ?_
  refine Pw.list (Pw.box rfl rfl rfl rfl (fun g1 => freeHead ?_))
  repeat (first | refine Pw.runs ?_ | refine Pw.list (Pw.box rfl rfl rfl rfl (fun _ => ?_)) | refine Pw.list (Pw.alloc rfl rfl rfl rfl rfl (fun _ => ?_)))
  refine Pw.joinQ (σ := Nat × Nat × (Option Addr × Nat)) (fun _ => True) (fun t => ⟨[(1, .pointer (some ⟨g1, 0, none⟩)), (3, .pointer (some ⟨t.1, 0, none⟩))], r0L (Av, cv) cs (Ac, cc) t.1 t.2.1 t.2.2, [S1 (natL 1) t.2.2, fun W => W.heap[g1]? = some (row [.slice Av 0 cv, sl cs (Ac, cc)] 25)]⟩) ?_ ?_
  · skip
    refine Pw.drawnG mixed rfl rfl ?_
    refine Pw.takeF 0 (nb 6 1) rfl rfl inferInstance rfl rfl rfl (by kernel_rfl) np sf ?_
    refine Pw.two 1 2 (nb 6 3) (nb 6 5) rfl rfl (by kernel_rfl) ?_ ?_
    · skip
      refine Pw.makeMap rfl rfl (fun ga => ?_)
      refine Pw.held sf ?_
      refine Pw.one 2 (nb 6 7) rfl (by kernel_rfl) ?_
      refine Pw.call (Of_ct 1) rfl rfl rfl (by kernel_rfl) rfl rfl (fun w h => trivial) ?_
      intro zd _
      rw [ofN_natL (by omega) (by omega)]
      refine Pw.held sf ?_
      refine Pw.takeBuild 3 (nb 6 15) rfl rfl rfl rfl rfl (by kernel_rfl) np sf ?_
      refine Pw.one 4 (nb 6 31) rfl (by kernel_rfl) ?_
      refine Pw.box rfl rfl rfl rfl (fun gr => ?_)
      refine Pw.held sf ?_
      refine Pw.takeP 5 (nb 6 63) rfl rfl rfl rfl (by kernel_rfl) np sf ?_
      refine Pw.done (by kernel_rfl) ?_
      exact Pw.then_ (Pw.arrive (gr, ga, zd) trivial ⟨rfl, rfl, trivial⟩ rfl (fun w h => allCons (hv w h) (allCons (Blks.h (L := []) (g := g1) w (fun b hb => by cases hb) h) allNil)))
    · skip
      refine Pw.call (Of_ct 1) rfl rfl rfl (by kernel_rfl) rfl rfl (fun w h => trivial) ?_
      intro zd _
      rw [ofN_natL (by omega) (by omega)]
      refine Pw.held sf ?_
      refine Pw.one 1 (nb 6 7) rfl (by kernel_rfl) ?_
      refine Pw.makeMap rfl rfl (fun ga => ?_)
      refine Pw.held sf ?_
      refine Pw.takeBuild 3 (nb 6 15) rfl rfl rfl rfl rfl (by kernel_rfl) np sf ?_
      refine Pw.one 4 (nb 6 31) rfl (by kernel_rfl) ?_
      refine Pw.box rfl rfl rfl rfl (fun gr => ?_)
      refine Pw.held sf ?_
      refine Pw.takeP 5 (nb 6 63) rfl rfl rfl rfl (by kernel_rfl) np sf ?_
      refine Pw.done (by kernel_rfl) ?_
      exact Pw.then_ (Pw.arrive (gr, ga, zd) trivial ⟨rfl, rfl, trivial⟩ rfl (fun w h => allCons (hv w h) (allCons (Blks.h (L := []) (g := g1) w (fun b hb => by cases hb) h) allNil)))
  rintro ⟨gr, ga, zd⟩ _
  dsimp only
  repeat (first | refine Pw.runs ?_ | refine Pw.list (Pw.box rfl rfl rfl rfl (fun _ => ?_)) | refine Pw.list (Pw.alloc rfl rfl rfl rfl rfl (fun _ => ?_)))
  refine Pw.rounds 2 (Pw.round ?_)
  repeat (first | refine Pw.runs ?_ | refine Pw.list (Pw.box rfl rfl rfl rfl (fun _ => ?_)) | refine Pw.list (Pw.alloc rfl rfl rfl rfl rfl (fun _ => ?_)))
  exact Pw.retB (x := (gr, ga, zd)) (List.Sublist.refl _) (.tmp rfl .nil) rfl trivial (fun w h => (hv w h))
theorem round0_ct (zv : Option Addr × Nat) (cs : List Int) (zc : Option Addr × Nat) (gr ga : Nat) (zd : Option Addr × Nat) (hcn : cs.length ≤ 32) :
    CtB Try.prog 27 #[.pointer (some ⟨gr, 0, none⟩)] (r0L zv cs zc gr ga zd) (I1 cs zc) (fun _ : Unit => .bool false) Tt (fun _ => r0L zv cs zc gr ga zd) (fun _ _ => True) := by
  obtain ⟨Ac, cc⟩ := zc
  refine CtB.start Try.func27 rfl rfl (slots_of rfl slots1) (fun D0 w0 => ?_)
  repeat (first | refine Pw.runs ?_ | refine Pw.list (Pw.box rfl rfl rfl rfl (fun _ => ?_)) | refine Pw.list (Pw.alloc rfl rfl rfl rfl rfl (fun _ => ?_)))
  refine Pw.loopJ (σ := Nat) (fun j => j ≤ cs.length) (fun j => ⟨[(0, .pointer (some ⟨gr, 0, none⟩)), (3, .int .i64 (-1)), (21, .slice Ac cs.length cc), (22, .int .i64 cs.length), (23, .int .i64 j)], r0L zv cs (Ac, cc) gr ga zd, [I1 cs (Ac, cc)]⟩) (fun j => cs.length - j) 0 (Nat.zero_le _) (Pw.enter ⟨rfl, rfl, rfl, rfl, rfl, trivial⟩ (fun w h => h)) ?_
  rintro j hj
  dsimp only at hj ⊢
  try refine Pw.run ?_
  refine Pw.condD rfl (fun cj => ?_) (fun cj => ?_)
  · obtain ⟨c, hc, hcm⟩ := get_at (show j < cs.length by omega)
    try refine Pw.run ?_
    refine Pw.list (Pw.index rfl rfl rfl rfl (Int.natCast_nonneg j) cj (fun w h => (hv w h : I1 cs (Ac, cc) w).has (Int.natCast_nonneg j) cj) rfl rfl ?_)
    rintro ad rfl
    refine Pw.list (Pw.load1 rfl rfl (fun w hs => (hv w hs.all : I1 cs (some ad, cc) w).cell (Int.natCast_nonneg j) cj) rfl rfl ?_)
    rw [get_rd hc]
    refine Pw.list (Pw.alloc rfl rfl rfl rfl rfl (fun g7 => ?_))
    repeat (first | refine Pw.runs ?_ | refine Pw.list (Pw.box rfl rfl rfl rfl (fun _ => ?_)) | refine Pw.list (Pw.alloc rfl rfl rfl rfl rfl (fun _ => ?_)))
    refine freeHead ?_
    refine Pw.drawnH (g := gr) inferInstance mixed rfl rfl ?_
    refine Pw.takeP 0 (nb 16 1) rfl rfl rfl rfl (by kernel_rfl) np so ?_
    refine Pw.takeP 1 (nb 16 3) rfl rfl rfl rfl (by kernel_rfl) np so ?_
    refine Pw.takeP 2 (nb 16 7) rfl rfl rfl rfl (by kernel_rfl) np so ?_
    refine Pw.takeF 3 (nb 16 15) rfl rfl inferInstance rfl rfl rfl (by kernel_rfl) np so ?_
    refine Pw.takeF 4 (nb 16 31) rfl rfl inferInstance rfl rfl rfl (by kernel_rfl) np so ?_
    refine Pw.one 5 (nb 16 63) rfl (by kernel_rfl) ?_
    refine Pw.lookupF (m := []) rfl rfl rfl rfl rfl rfl (fun w hs => hs.own ⟨ga, mapO []⟩ (.tail _ (.head _))) rfl rfl ?_
    refine Pw.re (d := 32) (v' := .slice none 0 0) rfl rfl ?_
    refine Pw.held so ?_
    refine Pw.takeP 6 (nb 16 127) rfl rfl rfl rfl (by kernel_rfl) np so ?_
    refine Pw.takeP 7 (nb 16 255) rfl rfl rfl rfl (by kernel_rfl) np so ?_
    refine Pw.takeP 8 (nb 16 511) rfl rfl rfl rfl (by kernel_rfl) np so ?_
    refine Pw.re (d := 35) (v' := .bool true) rfl rfl ?_
    refine Pw.takeO 9 (nb 16 1023) rfl rfl rfl (by kernel_rfl) np so ?_
    refine Pw.takeO 10 (nb 16 2047) rfl rfl rfl (by kernel_rfl) np so ?_
    refine Pw.takeO 11 (nb 16 4095) rfl rfl rfl (by kernel_rfl) np so ?_
    refine Pw.takeO 12 (nb 16 8191) rfl rfl rfl (by kernel_rfl) np so ?_
    refine Pw.takeO 13 (nb 16 16383) rfl rfl rfl (by kernel_rfl) np so ?_
    refine Pw.takeO 14 (nb 16 32767) rfl rfl rfl (by kernel_rfl) np so ?_
    refine Pw.takeP 15 (nb 16 65535) rfl rfl rfl rfl (by kernel_rfl) np so ?_
    refine Pw.done (by kernel_rfl) ?_
    skip
    repeat (first | refine Pw.runs ?_ | refine Pw.list (Pw.box rfl rfl rfl rfl (fun _ => ?_)) | refine Pw.list (Pw.alloc rfl rfl rfl rfl rfl (fun _ => ?_)))
    refine Pw.re (d := 23) (v' := .int .i64 ((j + 1 : Nat) : Int)) rfl (congrArg (Value.int .i64) (i64s (n := 100000) (by omega) (by omega))) ?_
    exact Pw.again (j + 1) (by show j + 1 ≤ cs.length; omega) (by show cs.length - (j + 1) < cs.length - j; omega) ⟨rfl, rfl, rfl, rfl, rfl, trivial⟩ rfl (fun w h => allTail h)
  · repeat (first | refine Pw.runs ?_ | refine Pw.list (Pw.box rfl rfl rfl rfl (fun _ => ?_)) | refine Pw.list (Pw.alloc rfl rfl rfl rfl rfl (fun _ => ?_)))
    exact Pw.retB (x := ()) (List.Sublist.refl _) (.tmp rfl .nil) rfl trivial (fun w h => trivial)
theorem shares0_ct (zv : Option Addr × Nat) (cs : List Int) (zc : Option Addr × Nat) (gr ga : Nat) (zd : Option Addr × Nat) :
    Ct Try.prog 28 #[.pointer (some ⟨gr, 0, none⟩)] (fun W => W.heap[gr]? = some (row [.slice zv.1 0 zv.2, sl cs zc, .map (some ga), sl (natL 1) zd, .slice none 0 0, .slice none 0 0, .slice none 0 0] 75)) (fun _ : Unit => .slice none 0 0) Tt (fun _ _ => True) := by
  refine Ct.start Try.func28 rfl rfl (slots_of rfl slots1) (fun D0 w0 => ?_)
  repeat (first | refine Pw.runs ?_ | refine Pw.list (Pw.box rfl rfl rfl rfl (fun _ => ?_)) | refine Pw.list (Pw.alloc rfl rfl rfl rfl rfl (fun _ => ?_)))
  refine Pw.rounds 2 (Pw.round ?_)
  repeat (first | refine Pw.runs ?_ | refine Pw.list (Pw.box rfl rfl rfl rfl (fun _ => ?_)) | refine Pw.list (Pw.alloc rfl rfl rfl rfl rfl (fun _ => ?_)))
  exact Pw.ret_ (x := ()) (.tmp rfl .nil) rfl trivial (fun w h => trivial)
theorem rnd_nil (cs : List Int) (S : Est) : rnd [] cs S = none := by
  have key : ∀ l : List Int, l.foldl (seek [] S) none = none := by
    intro l
    induction l with
    | nil => rfl
    | cons c l ih =>
      rw [List.foldl_cons]
      exact ih
  unfold rnd best
  rw [key]; rfl
theorem elect_nil (cs : List Int) (k : Nat) : electE [] cs k = begE [] := by
  unfold electE
  cases k with
  | zero => rfl
  | succ k => unfold runE; rw [rnd_nil]
/-- What Elect answers. -/
def eaOk (s : Sn) (k : Int) (y : Ea) : Prop := y.os.map (fun o => (o.at_, o.a, o.b)) = (electE s.vs s.cs k.toNat).se.map seatQ ∧ y.sh.map shK = shTo s.vs s.cs (electE s.vs s.cs k.toNat) s.vs.length
theorem Elect0_ct (s : Sn) (k : Int) (hW : snW s) (hF : formB s = true) (hn : s.vs = []) (h0 : 0 ≤ k) (h8 : k ≤ 8) :
    Ct Try.prog 10 #[snV s, .int .i64 k] (snF s) (fun y : Ea => .tuple #[.slice y.zo.1 y.os.length y.zo.2, ssV y.sh y.zs, .int .i64 0])
      (eaOk s k) (fun y W => OS y.os y.zo W ∧ SS y.sh y.zs W) := by
  obtain ⟨l1, l2, l3, l4⟩ := formB_all hF
  obtain ⟨vs, zv, cs, zc⟩ := s
  dsimp only at hn l1 l2 l3
  subst hn
  refine Ct.start Try.func10 rfl rfl (slots_of rfl slots2) (fun D w0 => Pw.facts sn2 ?_)
  try refine Pw.run ?_
  refine Pw.list (Pw.box rfl rfl rfl rfl (fun g2 => freeHead ?_))
  repeat (first | refine Pw.runs ?_ | refine Pw.list (Pw.box rfl rfl rfl rfl (fun _ => ?_)) | refine Pw.list (Pw.alloc rfl rfl rfl rfl rfl (fun _ => ?_)))
  refine Pw.list (Pw.call (gFormed_ct ⟨[], zv, cs, zc⟩ hW) rfl rfl rfl (by kernel_rfl) rfl rfl (fun w h => ⟨(hv w h), (hv w h)⟩) ?_)
  intro _ _
  rw [hF]
  repeat (first | refine Pw.runs ?_ | refine Pw.list (Pw.box rfl rfl rfl rfl (fun _ => ?_)) | refine Pw.list (Pw.alloc rfl rfl rfl rfl rfl (fun _ => ?_)))
  refine Pw.re (d := 15) (v' := .bool false) rfl (congrArg Value.bool (decide_eq_false (by omega))) ?_
  repeat (first | refine Pw.runs ?_ | refine Pw.list (Pw.box rfl rfl rfl rfl (fun _ => ?_)) | refine Pw.list (Pw.alloc rfl rfl rfl rfl rfl (fun _ => ?_)))
  refine Pw.re (d := 18) (v' := .bool false) rfl (congrArg Value.bool (decide_eq_false (by omega))) ?_
  repeat (first | refine Pw.runs ?_ | refine Pw.list (Pw.box rfl rfl rfl rfl (fun _ => ?_)) | refine Pw.list (Pw.alloc rfl rfl rfl rfl rfl (fun _ => ?_)))
  refine Pw.list (Pw.callB (L0 := []) (newRunner0_ct zv cs zc) rfl rfl rfl rfl (by kernel_rfl) rfl rfl (fun w h => ⟨(hv w h), (hv w h)⟩) ?_)
  rintro ⟨gr, ga, zd⟩ _
  rw [List.append_nil]
  repeat (first | refine Pw.runs ?_ | refine Pw.list (Pw.box rfl rfl rfl rfl (fun _ => ?_)) | refine Pw.list (Pw.alloc rfl rfl rfl rfl rfl (fun _ => ?_)))
  refine Pw.rounds 2 (Pw.round ?_)
  repeat (first | refine Pw.runs ?_ | refine Pw.list (Pw.box rfl rfl rfl rfl (fun _ => ?_)) | refine Pw.list (Pw.alloc rfl rfl rfl rfl rfl (fun _ => ?_)))
  by_cases hk : (0 : Int) < k
  · refine Pw.re (d := 28) (v' := .bool true) rfl (congrArg Value.bool (decide_eq_true hk)) ?_
    repeat (first | refine Pw.runs ?_ | refine Pw.list (Pw.box rfl rfl rfl rfl (fun _ => ?_)) | refine Pw.list (Pw.alloc rfl rfl rfl rfl rfl (fun _ => ?_)))
    refine Pw.list (Pw.callB (L0 := []) (round0_ct zv cs zc gr ga zd l2) (List.append_nil _).symm rfl rfl rfl (by kernel_rfl) rfl rfl (fun w h => (hv w h)) ?_)
    rintro _ _
    rw [List.append_nil]
    repeat (first | refine Pw.runs ?_ | refine Pw.list (Pw.box rfl rfl rfl rfl (fun _ => ?_)) | refine Pw.list (Pw.alloc rfl rfl rfl rfl rfl (fun _ => ?_)))
    refine freeHead ?_
    refine Pw.drawnG mixed rfl rfl ?_
    refine Pw.takeP 0 (nb 9 1) rfl rfl rfl rfl (by kernel_rfl) np sf ?_
    refine Pw.takeP 1 (nb 9 3) rfl rfl rfl rfl (by kernel_rfl) np sf ?_
    refine Pw.takeP 2 (nb 9 7) rfl rfl rfl rfl (by kernel_rfl) np sf ?_
    refine Pw.takeF 3 (nb 9 15) rfl rfl inferInstance rfl rfl rfl (by kernel_rfl) np sf ?_
    refine Pw.takeP 4 (nb 9 31) rfl rfl rfl rfl (by kernel_rfl) np sf ?_
    refine Pw.one 5 (nb 9 63) rfl (by kernel_rfl) ?_
    -- call Op.call { callee := Callee.value (Operand.func 28), args := #[Operand.tmp 36], argTypes := #[69] }
    refine Pw.call (shares0_ct zv cs zc gr ga zd) rfl rfl rfl (by kernel_rfl) rfl rfl (fun w h => (fx h)) ?_
    intro _ _
    refine Pw.held sf ?_
    refine Pw.takeP 6 (nb 9 127) rfl rfl rfl rfl (by kernel_rfl) np sf ?_
    refine Pw.takeP 7 (nb 9 255) rfl rfl rfl rfl (by kernel_rfl) np sf ?_
    refine Pw.takeP 8 (nb 9 511) rfl rfl rfl rfl (by kernel_rfl) np sf ?_
    refine Pw.done (by kernel_rfl) ?_
    repeat (first | refine Pw.runs ?_ | refine Pw.list (Pw.box rfl rfl rfl rfl (fun _ => ?_)) | refine Pw.list (Pw.alloc rfl rfl rfl rfl rfl (fun _ => ?_)))
    exact Pw.ret_ (x := ⟨[], (none, 0), [], (none, 0)⟩) (.tmp rfl (.tmp rfl (.tmp rfl .nil))) rfl ⟨by rw [elect_nil]; rfl, by rw [elect_nil]; rfl⟩ (fun w h => ⟨Rows.nil _ _ _ _ _, Rows.nil _ _ _ _ _⟩)
  · refine Pw.re (d := 28) (v' := .bool false) rfl (congrArg Value.bool (decide_eq_false hk)) ?_
    repeat (first | refine Pw.runs ?_ | refine Pw.list (Pw.box rfl rfl rfl rfl (fun _ => ?_)) | refine Pw.list (Pw.alloc rfl rfl rfl rfl rfl (fun _ => ?_)))
    refine freeHead ?_
    refine Pw.drawnG mixed rfl rfl ?_
    refine Pw.takeP 0 (nb 9 1) rfl rfl rfl rfl (by kernel_rfl) np sf ?_
    refine Pw.takeP 1 (nb 9 3) rfl rfl rfl rfl (by kernel_rfl) np sf ?_
    refine Pw.takeP 2 (nb 9 7) rfl rfl rfl rfl (by kernel_rfl) np sf ?_
    refine Pw.takeF 3 (nb 9 15) rfl rfl inferInstance rfl rfl rfl (by kernel_rfl) np sf ?_
    refine Pw.takeP 4 (nb 9 31) rfl rfl rfl rfl (by kernel_rfl) np sf ?_
    refine Pw.one 5 (nb 9 63) rfl (by kernel_rfl) ?_
    -- call Op.call { callee := Callee.value (Operand.func 28), args := #[Operand.tmp 36], argTypes := #[69] }
    refine Pw.call (shares0_ct zv cs zc gr ga zd) rfl rfl rfl (by kernel_rfl) rfl rfl (fun w h => (fx h)) ?_
    intro _ _
    refine Pw.held sf ?_
    refine Pw.takeP 6 (nb 9 127) rfl rfl rfl rfl (by kernel_rfl) np sf ?_
    refine Pw.takeP 7 (nb 9 255) rfl rfl rfl rfl (by kernel_rfl) np sf ?_
    refine Pw.takeP 8 (nb 9 511) rfl rfl rfl rfl (by kernel_rfl) np sf ?_
    refine Pw.done (by kernel_rfl) ?_
    repeat (first | refine Pw.runs ?_ | refine Pw.list (Pw.box rfl rfl rfl rfl (fun _ => ?_)) | refine Pw.list (Pw.alloc rfl rfl rfl rfl rfl (fun _ => ?_)))
    exact Pw.ret_ (x := ⟨[], (none, 0), [], (none, 0)⟩) (.tmp rfl (.tmp rfl (.tmp rfl .nil))) rfl ⟨by rw [elect_nil]; rfl, by rw [elect_nil]; rfl⟩ (fun w h => ⟨Rows.nil _ _ _ _ _, Rows.nil _ _ _ _ _⟩)
/-- Of any formed snapshot. -/
theorem ElectF_ct (s : Sn) (k : Int) (hW : snW s) (hF : formB s = true) (h0 : 0 ≤ k) (h8 : k ≤ 8) :
    Ct Try.prog 10 #[snV s, .int .i64 k] (snF s) (fun y : Ea => .tuple #[.slice y.zo.1 y.os.length y.zo.2, ssV y.sh y.zs, .int .i64 0])
      (eaOk s k) (fun y W => OS y.os y.zo W ∧ SS y.sh y.zs W) := by
  by_cases hn : s.vs = []
  · exact Elect0_ct s k hW hF hn h0 h8
  · exact ElectN_ct s k hW hF hn h0 h8
end Go.Proofs.Wk
/- Elections: a voter more that gives nothing (plain). -/
namespace Go.Proofs.Wk
open Go.RowKit
set_option linter.unusedVariables false
set_option linter.unusedSimpArgs false
theorem sumL_congr {f g : Nat → Int} {l : List Nat} (h : ∀ i ∈ l, f i = g i) : sumL f l = sumL g l := by
  unfold sumL; rw [List.map_congr_left h]
theorem ap_lt {vs : List Vtr} {c : Int} : ∀ i ∈ ap vs c, i < vs.length := fun i hi => (ap_mem.1 hi).1
theorem run_ok {vs : List Vtr} (hV : VOk vs) {cs : List Int} : ∀ (k a : Nat) (S : Est), EOk vs a S → EOk vs (a + 3 * k) (runE vs cs k S)
  | 0, a, S, h => h
  | k + 1, a, S, h => by
    unfold runE
    cases hr : rnd vs cs S with
    | none =>
      have up : ∀ {x : Int}, x < pw a → x < pw (a + 3 * (k + 1)) := fun hx => lt_pw_le hx (by omega)
      exact ⟨h.d0, up h.d1, h.ll, fun x hx => ⟨(h.l0 x hx).1, up (h.l0 x hx).2⟩, h.el, fun i l hl => ⟨fun x hx => by
        obtain ⟨q1, q2, q3, q4⟩ := (h.e0 i l hl).1 x hx
        exact ⟨q1, up q2, q3, up q4⟩, (h.e0 i l hl).2⟩, fun x hx => by
        obtain ⟨q1, q2, q3, q4⟩ := h.s0 x hx
        exact ⟨q1, up q2, q3, up q4⟩, h.k0⟩
    | some S' =>
      have := run_ok hV (cs := cs) k (a + 3) S' (rnd_ok hV h hr)
      rwa [show a + 3 + 3 * k = a + 3 * (k + 1) by omega] at this
theorem elect_ok {vs : List Vtr} (hV : VOk vs) (cs : List Int) (k : Nat) : EOk vs (1 + 3 * k) (electE vs cs k) := run_ok hV k 1 _ (beg_ok vs)
end Go.Proofs.Wk
/- Money: sums. -/
namespace Go.Proofs.Wk
open Go.RowKit
set_option maxRecDepth 100000
set_option maxHeartbeats 1000000
attribute [local irreducible] Pw OpG
set_option linter.unusedVariables false
set_option linter.unusedSimpArgs false
def U64 (n : Int) : Prop := 0 ≤ n ∧ n ≤ 18446744073709551615
def lsum : List Int → Int
  | [] => 0
  | n :: r => n + lsum r
theorem lsum_append (a b : List Int) : lsum (a ++ b) = lsum a + lsum b := by
  induction a with
  | nil => simp [lsum]
  | cons x r ih => simp only [List.cons_append, lsum, ih]; omega
theorem lsum_snoc (a : List Int) (n : Int) : lsum (a ++ [n]) = lsum a + n := by rw [lsum_append]; simp [lsum]
theorem lsum_nonneg {l : List Int} (h : ∀ n ∈ l, U64 n) : 0 ≤ lsum l := by
  induction l with
  | nil => simp [lsum]
  | cons x r ih =>
    have h1 := (h x (List.mem_cons_self ..)).1
    have h2 := ih (fun v hv => h v (List.mem_cons_of_mem _ hv))
    simp only [lsum]; omega
theorem lsum_take_le {l : List Int} (h : ∀ n ∈ l, U64 n) (k : Nat) : lsum (l.take k) ≤ lsum l := by
  have e : l = l.take k ++ l.drop k := (List.take_append_drop k l).symm
  have h2 := lsum_nonneg (l := l.drop k) (fun n hn => h n (List.mem_of_mem_drop hn))
  have h3 : lsum l = lsum (l.take k) + lsum (l.drop k) := by rw [← lsum_append, List.take_append_drop]
  omega
def sumM (l : List Int) : Int × Int := if lsum l ≤ 18446744073709551615 then (lsum l, 0) else (0, 3)
abbrev U1 (l : List Int) (x : Option Addr × Nat) : World → Prop := Ints .u64 l x.1 x.2
def addR (a b : Int) : Int × Int := if a + b ≤ 18446744073709551615 then (a + b, 0) else (0, 3)
theorem rAdd_ct (a b : Int) (ha : U64 a) (hb : U64 b) : Ct Try.prog 46 #[.int .u64 a, .int .u64 b] (fun _ => True) (fun _ : Unit => .tuple #[.int .u64 (addR a b).1, .int .i64 (addR a b).2]) Tt (fun _ _ => True) := by
  unfold U64 at ha hb
  refine Ct.start Try.func46 rfl rfl (slots_of rfl slots2) (fun D w0 => ?_)
  repeat (first | refine Pw.runs ?_ | refine Pw.list (Pw.box rfl rfl rfl rfl (fun _ => ?_)) | refine Pw.list (Pw.alloc rfl rfl rfl rfl rfl (fun _ => ?_)))
  refine Pw.condD rfl (fun c => ?_) (fun c => ?_)
  · rw [wu64] at c
    repeat (first | refine Pw.runs ?_ | refine Pw.list (Pw.box rfl rfl rfl rfl (fun _ => ?_)) | refine Pw.list (Pw.alloc rfl rfl rfl rfl rfl (fun _ => ?_)))
    exact Pw.ret_ (x := ()) (.tmp rfl (.tmp rfl .nil)) (by unfold addR; rw [if_neg (by omega)]; rfl) trivial (fun w h => by trivial)
  · rw [wu64] at c
    repeat (first | refine Pw.runs ?_ | refine Pw.list (Pw.box rfl rfl rfl rfl (fun _ => ?_)) | refine Pw.list (Pw.alloc rfl rfl rfl rfl rfl (fun _ => ?_)))
    refine Pw.re (d := 4) (v' := .int .u64 (a + b)) rfl (congrArg (Value.int .u64) (wu (by omega) (by omega))) ?_
    exact Pw.ret_ (x := ()) (.tmp rfl (.tmp rfl .nil)) (by unfold addR; rw [if_pos (by omega)]; rfl) trivial (fun w h => by trivial)
theorem rSum_ct (l : List Int) (x : Option Addr × Nat) (hb : ∀ n ∈ l, U64 n) : Ct Try.prog 24 #[sl l x] (U1 l x) (fun _ : Unit => .tuple #[.int .u64 (sumM l).1, .int .i64 (sumM l).2]) Tt (fun _ _ => True) := by
  obtain ⟨A, c⟩ := x
  refine Ct.start Try.func24 rfl rfl (slots_of rfl slots1) (fun D w0 => ?_)
  refine Pw.use (p := l.length ≤ maxLen) (fun w h => (fact0 h).top) (fun htop => ?_)
  have htop := top63 htop
  try refine Pw.run ?_
  refine Pw.loopJ (σ := Nat) (fun i => i ≤ l.length ∧ lsum (l.take i) ≤ 18446744073709551615) (fun i => ⟨[(0, .slice A l.length c), (4, .int .u64 (lsum (l.take i))), (9, .int .i64 l.length), (10, .int .i64 i)], [], [Ints .u64 l A c]⟩) (fun i => l.length - i) 0 ⟨Nat.zero_le _, by simp [lsum]⟩ (Pw.enter ⟨rfl, rfl, rfl, rfl, trivial⟩ (fun _ h => h)) ?_
  rintro i ⟨hi, hs⟩
  dsimp only at hi hs ⊢
  try refine Pw.run ?_
  refine Pw.condD rfl (fun c3 => ?_) (fun c3 => ?_)
  · obtain ⟨y, hy, hm⟩ := get_at (show i < l.length by omega)
    have hyb := hb y hm
    have h0 := lsum_nonneg (l := l.take i) (fun n hn => hb n (List.mem_of_mem_take hn))
    have e1 : lsum (l.take (i + 1)) = lsum (l.take i) + y := by rw [take_snoc hy, lsum_snoc]
    try refine Pw.run ?_
    refine Pw.list (Pw.index rfl rfl rfl rfl (Int.natCast_nonneg i) c3 (fun w h => (fact0 h).has (Int.natCast_nonneg i) c3) rfl rfl ?_)
    rintro ad rfl
    refine Pw.list (Pw.load1 rfl rfl (fun w hs => by first | exact (fact0 hs.all).cell (by first | assumption | omega) (by first | assumption | omega) | exact (fact1 hs.all).cell (by first | assumption | omega) (by first | assumption | omega) | exact (fact2 hs.all).cell (by first | assumption | omega) (by first | assumption | omega) | exact (fact3 hs.all).cell (by first | assumption | omega) (by first | assumption | omega)) rfl rfl ?_)
    rw [get_rd hy]
    try refine Pw.run ?_
    refine Pw.list (Pw.call (rAdd_ct (lsum (l.take i)) y ⟨h0, hs⟩ hyb) rfl rfl rfl (by kernel_rfl) rfl rfl (fun w h => trivial) ?_)
    intro _ _
    by_cases h1 : lsum (l.take i) + y ≤ 18446744073709551615
    · have ea : addR (lsum (l.take i)) y = (lsum (l.take (i + 1)), 0) := by unfold addR; rw [if_pos h1, e1]
      rw [ea]
      repeat (first | refine Pw.runs ?_ | refine Pw.list (Pw.box rfl rfl rfl rfl (fun _ => ?_)) | refine Pw.list (Pw.alloc rfl rfl rfl rfl rfl (fun _ => ?_)))
      refine Pw.re (d := 10) (v' := .int .i64 ((i + 1 : Nat) : Int)) rfl (congrArg (Value.int .i64) (i64s (by omega) htop)) ?_
      exact Pw.again (i + 1) ⟨by omega, by omega⟩ (by show l.length - (i + 1) < l.length - i; omega) ⟨rfl, rfl, rfl, rfl, trivial⟩ rfl (fun w h => allTail h)
    · have ea : addR (lsum (l.take i)) y = (0, 3) := by unfold addR; rw [if_neg h1]
      rw [ea]
      have h2 := lsum_take_le hb (i + 1)
      repeat (first | refine Pw.runs ?_ | refine Pw.list (Pw.box rfl rfl rfl rfl (fun _ => ?_)) | refine Pw.list (Pw.alloc rfl rfl rfl rfl rfl (fun _ => ?_)))
      exact Pw.ret_ (x := ()) (.tmp rfl (.tmp rfl .nil)) (by unfold sumM; rw [if_neg (by omega)]; rfl) trivial (fun w h => by trivial)
  · try refine Pw.run ?_
    rw [List.take_of_length_le (by omega)] at hs ⊢
    exact Pw.ret_ (x := ()) (.tmp rfl (.tmp rfl .nil)) (by unfold sumM; rw [if_pos hs]; rfl) trivial (fun w h => by trivial)
end Go.Proofs.Wk
/- Walks of layer 10 (graph): approvers, supported, seats, total. -/
namespace Go.Proofs.Wk
open Go.RowKit
set_option maxRecDepth 100000
set_option maxHeartbeats 1000000
attribute [local irreducible] Pw OpG
set_option linter.unusedVariables false
set_option linter.unusedSimpArgs false
def apP (s : Sn) (c : Int) (i : Nat) : List Int := ((s.vs.take i).filter (fun v => apB s v.id c)).map Vtr.id
theorem apP_yes {s : Sn} {c : Int} {i : Nat} {v : Vtr} (hv : s.vs[i]? = some v) (h : apB s v.id c = true) : apP s c (i + 1) = apP s c i ++ [v.id] := by
  unfold apP; rw [take_snoc hv, List.filter_append, List.map_append]; simp [h]
theorem apP_no {s : Sn} {c : Int} {i : Nat} {v : Vtr} (hv : s.vs[i]? = some v) (h : apB s v.id c = false) : apP s c (i + 1) = apP s c i := by
  unfold apP; rw [take_snoc hv, List.filter_append, List.map_append]; simp [h]
theorem apP_len (s : Sn) (c : Int) (i : Nat) : (apP s c i).length ≤ i := by
  unfold apP; rw [List.length_map]; exact Nat.le_trans (List.length_filter_le ..) (by rw [List.length_take]; omega)
theorem apP_all {s : Sn} {c : Int} {i : Nat} (h : s.vs.length ≤ i) : apP s c i = apL s c := by unfold apP apL; rw [List.take_of_length_le h]
def suP (s : Sn) (i : Nat) : List Int := (s.cs.take i).filter (fun c => decide (0 < (apL s c).length))
theorem suP_yes {s : Sn} {i : Nat} {c : Int} (hv : s.cs[i]? = some c) (h : 0 < (apL s c).length) : suP s (i + 1) = suP s i ++ [c] := by
  unfold suP; rw [take_snoc hv, List.filter_append]; simp [h]
theorem suP_no {s : Sn} {i : Nat} {c : Int} (hv : s.cs[i]? = some c) (h : ¬ 0 < (apL s c).length) : suP s (i + 1) = suP s i := by
  unfold suP; rw [take_snoc hv, List.filter_append]; simp [h]
theorem suP_len (s : Sn) (i : Nat) : (suP s i).length ≤ i := by
  unfold suP; exact Nat.le_trans (List.length_filter_le ..) (by rw [List.length_take]; omega)
theorem suP_all {s : Sn} {i : Nat} (h : s.cs.length ≤ i) : suP s i = suL s := by unfold suP suL; rw [List.take_of_length_le h]
theorem formB_spec {s : Sn} (h : formB s = true) : s.vs.length ≤ 32 ∧ s.cs.length ≤ 32 ∧ risB s.cs = true ∧ ∀ j, j < s.vs.length → vOk s.vs j = true := by
  unfold formB at h
  simp only [Bool.and_eq_true, decide_eq_true_eq] at h
  exact ⟨h.1, h.2.1, h.2.2.1, allB_iff.1 h.2.2.2⟩
end Go.Proofs.Wk
/- The document's snapshots: rising, Formed. -/
namespace Go.Proofs.Wk
open Go.RowKit
set_option maxRecDepth 100000
set_option maxHeartbeats 4000000
attribute [local irreducible] Pw OpG
set_option linter.unusedVariables false
set_option linter.unusedSimpArgs false
theorem rrising_ct (l : List Int) (x : Option Addr × Nat) : Ct Try.prog 23 #[sl l x] (I1 l x) (fun _ : Unit => .bool (risB l)) Tt (fun _ _ => True) := by
  obtain ⟨A, c⟩ := x
  refine Ct.start Try.func23 rfl rfl (slots_of rfl slots1) (fun D w0 => ?_)
  refine Pw.use (p := l.length ≤ maxLen) (fun w h => (fact0 h).top) (fun htop => ?_)
  have htop := top63 htop
  try refine Pw.run ?_
  refine Pw.loopJ (σ := Nat) (fun i => i ≤ l.length ∧ ∀ j, j < i → okAt l j = true) (fun i => ⟨[(0, .slice A l.length c), (5, .int .i64 l.length), (6, .int .i64 i)], [], [Ints .i64 l A c]⟩) (fun i => l.length - i) 0 ⟨Nat.zero_le _, fun j hj => absurd hj (Nat.not_lt_zero j)⟩ (Pw.enter ⟨rfl, rfl, rfl, trivial⟩ (fun _ h => h)) ?_
  rintro i ⟨hi, hj⟩
  dsimp only at hi hj ⊢
  try refine Pw.run ?_
  refine Pw.condD rfl (fun c3 => ?_) (fun c3 => ?_)
  · have hi0 : (0 : Int) ≤ (i : Int) := Int.natCast_nonneg i
    have hi2 : i < l.length := by omega
    refine Pw.use (p := A.isSome = true) (fun w h => (hv w h : Ints .i64 l A c w).has hi0 c3) (fun hA => ?_)
    obtain ⟨ad, rfl⟩ := Option.isSome_iff_exists.1 hA
    repeat (first | refine Pw.runs ?_ | refine Pw.list (Pw.box rfl rfl rfl rfl (fun _ => ?_)) | refine Pw.list (Pw.alloc rfl rfl rfl rfl rfl (fun _ => ?_)))
    refine Pw.drawnG mixed rfl rfl ?_
    refine Pw.takeP 0 (nb 28 1) rfl rfl rfl rfl (by kernel_rfl) np sf ?_
    refine Pw.takeP 1 (nb 28 3) rfl rfl rfl rfl (by kernel_rfl) np sf ?_
    refine Pw.takeIx 2 (nb 28 7) rfl rfl rfl rfl rfl (by first | assumption | omega) (by first | assumption | omega) rfl rfl (by kernel_rfl) np sf ?_
    refine Pw.takeLd 3 (nb 28 15) rfl rfl rfl (fun w hS => by first | exact own_cell (fact0 hS) (by first | assumption | omega) (by first | assumption | omega) | exact own_cellX (fact0 hS) (by first | assumption | omega) (by first | assumption | omega) | exact (fact0 hS).cell (by first | assumption | omega) (by first | assumption | omega) | exact (fact1 hS).cell (by first | assumption | omega) (by first | assumption | omega) | exact (fact2 hS).cell (by first | assumption | omega) (by first | assumption | omega) | exact (fact3 hS).cell (by first | assumption | omega) (by first | assumption | omega)) rfl rfl (by kernel_rfl) np sf ?_
    refine Pw.takeP 4 (nb 28 31) rfl rfl rfl rfl (by kernel_rfl) np sf ?_
    refine Pw.takeP 5 (nb 28 63) rfl rfl rfl rfl (by kernel_rfl) np sf ?_
    refine Pw.split 14 rfl (fun c4 => ?_) (fun c4 => ?_)
    · skip
      refine Pw.takeO 6 (nb 28 127) rfl rfl rfl (by kernel_rfl) np sf ?_
      refine Pw.takeO 7 (nb 28 255) rfl rfl rfl (by kernel_rfl) np sf ?_
      refine Pw.takeO 8 (nb 28 511) rfl rfl rfl (by kernel_rfl) np sf ?_
      refine Pw.takeO 9 (nb 28 1023) rfl rfl rfl (by kernel_rfl) np sf ?_
      refine Pw.takeO 10 (nb 28 2047) rfl rfl rfl (by kernel_rfl) np sf ?_
      refine Pw.takeP 11 (nb 28 4095) rfl rfl rfl rfl (by kernel_rfl) np sf ?_
      refine Pw.takeP 12 (nb 28 8191) rfl rfl rfl rfl (by kernel_rfl) np sf ?_
      refine Pw.takeO 13 (nb 28 16383) rfl rfl rfl (by kernel_rfl) np sf ?_
      refine Pw.takeO 14 (nb 28 32767) rfl rfl rfl (by kernel_rfl) np sf ?_
      refine Pw.takeO 15 (nb 28 65535) rfl rfl rfl (by kernel_rfl) np sf ?_
      refine Pw.takeO 16 (nb 28 131071) rfl rfl rfl (by kernel_rfl) np sf ?_
      refine Pw.takeO 17 (nb 28 262143) rfl rfl rfl (by kernel_rfl) np sf ?_
      refine Pw.takeO 18 (nb 28 524287) rfl rfl rfl (by kernel_rfl) np sf ?_
      refine Pw.takeO 19 (nb 28 1048575) rfl rfl rfl (by kernel_rfl) np sf ?_
      refine Pw.takeO 20 (nb 28 2097151) rfl rfl rfl (by kernel_rfl) np sf ?_
      refine Pw.takeO 21 (nb 28 4194303) rfl rfl rfl (by kernel_rfl) np sf ?_
      refine Pw.takeO 22 (nb 28 8388607) rfl rfl rfl (by kernel_rfl) np sf ?_
      refine Pw.takeO 23 (nb 28 16777215) rfl rfl rfl (by kernel_rfl) np sf ?_
      refine Pw.takeO 24 (nb 28 33554431) rfl rfl rfl (by kernel_rfl) np sf ?_
      refine Pw.takeO 25 (nb 28 67108863) rfl rfl rfl (by kernel_rfl) np sf ?_
      refine Pw.takeO 26 (nb 28 134217727) rfl rfl rfl (by kernel_rfl) np sf ?_
      refine Pw.takeP 27 (nb 28 268435455) rfl rfl rfl rfl (by kernel_rfl) np sf ?_
      refine Pw.done (by kernel_rfl) ?_
      repeat (first | refine Pw.runs ?_ | refine Pw.list (Pw.box rfl rfl rfl rfl (fun _ => ?_)) | refine Pw.list (Pw.alloc rfl rfl rfl rfl rfl (fun _ => ?_)))
      exact Pw.ret_ (x := ()) (.tmp rfl .nil) (congrArg Value.bool (allB_false hi2 (okAt_no (by omega))).symm) trivial (fun w h => by trivial)
    refine Pw.takeP 6 (nb 28 127) rfl rfl rfl rfl (by kernel_rfl) np sf ?_
    refine Pw.takeP 7 (nb 28 255) rfl rfl rfl rfl (by kernel_rfl) np sf ?_
    refine Pw.takeIx 8 (nb 28 511) rfl rfl rfl rfl rfl (by first | assumption | omega) (by first | assumption | omega) rfl rfl (by kernel_rfl) np sf ?_
    refine Pw.takeLd 9 (nb 28 1023) rfl rfl rfl (fun w hS => by first | exact own_cell (fact0 hS) (by first | assumption | omega) (by first | assumption | omega) | exact own_cellX (fact0 hS) (by first | assumption | omega) (by first | assumption | omega) | exact (fact0 hS).cell (by first | assumption | omega) (by first | assumption | omega) | exact (fact1 hS).cell (by first | assumption | omega) (by first | assumption | omega) | exact (fact2 hS).cell (by first | assumption | omega) (by first | assumption | omega) | exact (fact3 hS).cell (by first | assumption | omega) (by first | assumption | omega)) rfl rfl (by kernel_rfl) np sf ?_
    refine Pw.takeP 10 (nb 28 2047) rfl rfl rfl rfl (by kernel_rfl) np sf ?_
    refine Pw.takeP 11 (nb 28 4095) rfl rfl rfl rfl (by kernel_rfl) np sf ?_
    refine Pw.takeP 12 (nb 28 8191) rfl rfl rfl rfl (by kernel_rfl) np sf ?_
    refine Pw.split 21 rfl (fun c5 => ?_) (fun c5 => ?_)
    · skip
      refine Pw.takeO 13 (nb 28 16383) rfl rfl rfl (by kernel_rfl) np sf ?_
      refine Pw.takeO 14 (nb 28 32767) rfl rfl rfl (by kernel_rfl) np sf ?_
      refine Pw.takeO 15 (nb 28 65535) rfl rfl rfl (by kernel_rfl) np sf ?_
      refine Pw.takeO 16 (nb 28 131071) rfl rfl rfl (by kernel_rfl) np sf ?_
      refine Pw.takeO 17 (nb 28 262143) rfl rfl rfl (by kernel_rfl) np sf ?_
      refine Pw.takeO 18 (nb 28 524287) rfl rfl rfl (by kernel_rfl) np sf ?_
      refine Pw.takeO 19 (nb 28 1048575) rfl rfl rfl (by kernel_rfl) np sf ?_
      refine Pw.takeO 20 (nb 28 2097151) rfl rfl rfl (by kernel_rfl) np sf ?_
      refine Pw.takeO 21 (nb 28 4194303) rfl rfl rfl (by kernel_rfl) np sf ?_
      refine Pw.takeO 22 (nb 28 8388607) rfl rfl rfl (by kernel_rfl) np sf ?_
      refine Pw.takeO 23 (nb 28 16777215) rfl rfl rfl (by kernel_rfl) np sf ?_
      refine Pw.takeO 24 (nb 28 33554431) rfl rfl rfl (by kernel_rfl) np sf ?_
      refine Pw.takeO 25 (nb 28 67108863) rfl rfl rfl (by kernel_rfl) np sf ?_
      refine Pw.takeO 26 (nb 28 134217727) rfl rfl rfl (by kernel_rfl) np sf ?_
      refine Pw.takeP 27 (nb 28 268435455) rfl rfl rfl rfl (by kernel_rfl) np sf ?_
      refine Pw.done (by kernel_rfl) ?_
      repeat (first | refine Pw.runs ?_ | refine Pw.list (Pw.box rfl rfl rfl rfl (fun _ => ?_)) | refine Pw.list (Pw.alloc rfl rfl rfl rfl rfl (fun _ => ?_)))
      exact Pw.ret_ (x := ()) (.tmp rfl .nil) (congrArg Value.bool (allB_false hi2 (okAt_no (by omega))).symm) trivial (fun w h => by trivial)
    refine Pw.takeP 13 (nb 28 16383) rfl rfl rfl rfl (by kernel_rfl) np sf ?_
    refine Pw.takeP 14 (nb 28 32767) rfl rfl rfl rfl (by kernel_rfl) np sf ?_
    refine Pw.takeP 15 (nb 28 65535) rfl rfl rfl rfl (by kernel_rfl) np sf ?_
    refine Pw.split 24 rfl (fun c6 => ?_) (fun c6 => ?_)
    · skip
      refine Pw.takeP 16 (nb 28 131071) rfl rfl rfl rfl (by kernel_rfl) np sf ?_
      refine Pw.takeP 17 (nb 28 262143) rfl rfl rfl rfl (by kernel_rfl) np sf ?_
      refine Pw.takeP 18 (nb 28 524287) rfl rfl rfl rfl (by kernel_rfl) np sf ?_
      refine Pw.re (d := 27) (v' := .int .i64 ((i : Int) - 1)) rfl (congrArg (Value.int .i64) (wi64 (by omega) (by omega))) ?_
      have hi3 : (0 : Int) ≤ (i : Int) - 1 := by omega
      have hi4 : (i : Int) - 1 < (l.length : Int) := by omega
      refine Pw.takeIx 19 (nb 28 1048575) rfl rfl rfl rfl rfl (by first | assumption | omega) (by first | assumption | omega) rfl rfl (by kernel_rfl) np sf ?_
      refine Pw.takeLd 20 (nb 28 2097151) rfl rfl rfl (fun w hS => by first | exact own_cell (fact0 hS) (by first | assumption | omega) (by first | assumption | omega) | exact own_cellX (fact0 hS) (by first | assumption | omega) (by first | assumption | omega) | exact (fact0 hS).cell (by first | assumption | omega) (by first | assumption | omega) | exact (fact1 hS).cell (by first | assumption | omega) (by first | assumption | omega) | exact (fact2 hS).cell (by first | assumption | omega) (by first | assumption | omega) | exact (fact3 hS).cell (by first | assumption | omega) (by first | assumption | omega)) rfl rfl (by kernel_rfl) np sf ?_
      refine Pw.takeP 21 (nb 28 4194303) rfl rfl rfl rfl (by kernel_rfl) np sf ?_
      refine Pw.takeP 22 (nb 28 8388607) rfl rfl rfl rfl (by kernel_rfl) np sf ?_
      refine Pw.takeIx 23 (nb 28 16777215) rfl rfl rfl rfl rfl (by first | assumption | omega) (by first | assumption | omega) rfl rfl (by kernel_rfl) np sf ?_
      refine Pw.takeLd 24 (nb 28 33554431) rfl rfl rfl (fun w hS => by first | exact own_cell (fact0 hS) (by first | assumption | omega) (by first | assumption | omega) | exact own_cellX (fact0 hS) (by first | assumption | omega) (by first | assumption | omega) | exact (fact0 hS).cell (by first | assumption | omega) (by first | assumption | omega) | exact (fact1 hS).cell (by first | assumption | omega) (by first | assumption | omega) | exact (fact2 hS).cell (by first | assumption | omega) (by first | assumption | omega) | exact (fact3 hS).cell (by first | assumption | omega) (by first | assumption | omega)) rfl rfl (by kernel_rfl) np sf ?_
      refine Pw.takeP 25 (nb 28 67108863) rfl rfl rfl rfl (by kernel_rfl) np sf ?_
      refine Pw.takeP 26 (nb 28 134217727) rfl rfl rfl rfl (by kernel_rfl) np sf ?_
      refine Pw.takeP 27 (nb 28 268435455) rfl rfl rfl rfl (by kernel_rfl) np sf ?_
      refine Pw.done (by kernel_rfl) ?_
      repeat (first | refine Pw.runs ?_ | refine Pw.list (Pw.box rfl rfl rfl rfl (fun _ => ?_)) | refine Pw.list (Pw.alloc rfl rfl rfl rfl rfl (fun _ => ?_)))
      refine Pw.condD rfl (fun c7 => ?_) (fun c7 => ?_)
      · repeat (first | refine Pw.runs ?_ | refine Pw.list (Pw.box rfl rfl rfl rfl (fun _ => ?_)) | refine Pw.list (Pw.alloc rfl rfl rfl rfl rfl (fun _ => ?_)))
        exact Pw.ret_ (x := ()) (.tmp rfl .nil) (congrArg Value.bool (allB_false hi2 (okAt_no (by omega))).symm) trivial (fun w h => by trivial)
      repeat (first | refine Pw.runs ?_ | refine Pw.list (Pw.box rfl rfl rfl rfl (fun _ => ?_)) | refine Pw.list (Pw.alloc rfl rfl rfl rfl rfl (fun _ => ?_)))
      refine Pw.re (d := 6) (v' := .int .i64 ((i + 1 : Nat) : Int)) rfl (congrArg (Value.int .i64) (i64s (by omega) htop)) ?_
      exact Pw.again (i + 1) ⟨by omega, fun j h => by
        rcases Nat.lt_or_ge j i with h' | h'
        · exact hj j h'
        · obtain rfl : j = i := by omega
          exact okAt_iff.2 (by omega)⟩ (by show l.length - (i + 1) < l.length - i; omega) ⟨rfl, rfl, rfl, trivial⟩ rfl (fun w h => h)
    · skip
      refine Pw.takeO 16 (nb 28 131071) rfl rfl rfl (by kernel_rfl) np sf ?_
      refine Pw.takeO 17 (nb 28 262143) rfl rfl rfl (by kernel_rfl) np sf ?_
      refine Pw.takeO 18 (nb 28 524287) rfl rfl rfl (by kernel_rfl) np sf ?_
      refine Pw.takeO 19 (nb 28 1048575) rfl rfl rfl (by kernel_rfl) np sf ?_
      refine Pw.takeO 20 (nb 28 2097151) rfl rfl rfl (by kernel_rfl) np sf ?_
      refine Pw.takeO 21 (nb 28 4194303) rfl rfl rfl (by kernel_rfl) np sf ?_
      refine Pw.takeO 22 (nb 28 8388607) rfl rfl rfl (by kernel_rfl) np sf ?_
      refine Pw.takeO 23 (nb 28 16777215) rfl rfl rfl (by kernel_rfl) np sf ?_
      refine Pw.takeO 24 (nb 28 33554431) rfl rfl rfl (by kernel_rfl) np sf ?_
      refine Pw.takeO 25 (nb 28 67108863) rfl rfl rfl (by kernel_rfl) np sf ?_
      refine Pw.takeP 26 (nb 28 134217727) rfl rfl rfl rfl (by kernel_rfl) np sf ?_
      refine Pw.takeP 27 (nb 28 268435455) rfl rfl rfl rfl (by kernel_rfl) np sf ?_
      refine Pw.done (by kernel_rfl) ?_
      repeat (first | refine Pw.runs ?_ | refine Pw.list (Pw.box rfl rfl rfl rfl (fun _ => ?_)) | refine Pw.list (Pw.alloc rfl rfl rfl rfl rfl (fun _ => ?_)))
      refine Pw.re (d := 6) (v' := .int .i64 ((i + 1 : Nat) : Int)) rfl (congrArg (Value.int .i64) (i64s (by omega) htop)) ?_
      exact Pw.again (i + 1) ⟨by omega, fun j h => by
        rcases Nat.lt_or_ge j i with h' | h'
        · exact hj j h'
        · obtain rfl : j = i := by omega
          exact okAt_iff.2 (by omega)⟩ (by show l.length - (i + 1) < l.length - i; omega) ⟨rfl, rfl, rfl, trivial⟩ rfl (fun w h => h)
  · try refine Pw.run ?_
    exact Pw.ret_ (x := ()) (.tmp rfl .nil) (congrArg Value.bool (allB_true (fun j h => hj j (by omega))).symm) trivial (fun w h => by trivial)
def stL (vs : List Vtr) : List Int := vs.map Vtr.st
theorem stL_snoc {vs : List Vtr} {i : Nat} {v : Vtr} (h : vs[i]? = some v) : stL (vs.take (i + 1)) = stL (vs.take i) ++ [v.st] := by unfold stL; rw [take_snoc h, List.map_append]; rfl
theorem lsum_st (vs : List Vtr) : lsum (stL vs) = sumSt vs := by
  induction vs with
  | nil => rfl
  | cons v r ih => show v.st + lsum (stL r) = v.st + sumSt r; rw [ih]
/-- What is asked of a voter, but for the sum. -/
def vOk1 (vs : List Vtr) (i : Nat) : Prop := ∀ v, vs[i]? = some v → ¬ v.id ∈ idsOf (vs.take i) ∧ 0 ≤ v.id ∧ v.id ≤ 2147483647 ∧ v.pk.length ≤ 8 ∧ risB v.pk = true
theorem vOk_of1 {vs : List Vtr} (h0 : ∀ v ∈ vs, 0 ≤ v.st) (hs : sumSt vs ≤ 18446744073709551615) {i : Nat} (hi : i < vs.length) (h : vOk1 vs i) : vOk vs i = true := by
  have hv : vs[i]? = some vs[i] := List.getElem?_eq_getElem hi
  refine (vOk_iff hv).2 ⟨?_, h _ hv⟩
  rw [← sumSt_snoc, ← take_snoc hv]
  have e : sumSt vs = sumSt (vs.take (i + 1)) + sumSt (vs.drop (i + 1)) := by
    rw [← lsum_st, ← lsum_st, ← lsum_st, ← lsum_append]
    unfold stL
    rw [← List.map_append, List.take_append_drop]
  have h2 := sumSt_nonneg (l := vs.drop (i + 1)) (fun v hv => h0 v (List.mem_of_mem_drop hv))
  omega
theorem formB_sum {s : Sn} (h : formB s = true) : sumSt s.vs ≤ 18446744073709551615 := by
  obtain ⟨_, _, _, h4⟩ := formB_spec h
  cases hn : s.vs.length with
  | zero => rw [List.eq_nil_of_length_eq_zero hn]; decide
  | succ n =>
    have hv : s.vs[n]? = some s.vs[n] := List.getElem?_eq_getElem (by omega)
    have h5 := ((vOk_iff hv).1 (h4 n (by omega))).1
    rw [← sumSt_snoc, ← take_snoc hv, ← hn, List.take_length] at h5
    exact h5
theorem dFormed_ct (s : Sn) (hW : snW s) : Ct Try.prog 9 #[snV s] (snF s) (fun _ : Unit => .bool (formB s)) Tt (fun _ _ => True) := by
  obtain ⟨vs, ⟨A, c⟩, cs, zc⟩ := s
  refine Ct.start Try.func9 rfl rfl (slots_of rfl slots1) (fun D w0 => Pw.facts sn2 ?_)
  refine Pw.use (p := vs.length ≤ maxLen) (fun w h => (fact0 h).top) (fun htop => ?_)
  have htop := top63 htop
  try refine Pw.run ?_
  refine Pw.list (Pw.box rfl rfl rfl rfl (fun g1 => freeHead ?_))
  repeat (first | refine Pw.runs ?_ | refine Pw.list (Pw.box rfl rfl rfl rfl (fun _ => ?_)) | refine Pw.list (Pw.alloc rfl rfl rfl rfl rfl (fun _ => ?_)))
  refine Pw.split 13 rfl (fun c1 => ?_) (fun c1 => ?_)
  · dsimp only at c1
    repeat (first | refine Pw.runs ?_ | refine Pw.list (Pw.box rfl rfl rfl rfl (fun _ => ?_)) | refine Pw.list (Pw.alloc rfl rfl rfl rfl rfl (fun _ => ?_)))
    exact Pw.ret_ (x := ()) (.tmp rfl .nil) (congrArg Value.bool (formB_no (by simp only; omega)).symm) trivial (fun w h => by trivial)
  repeat (first | refine Pw.runs ?_ | refine Pw.list (Pw.box rfl rfl rfl rfl (fun _ => ?_)) | refine Pw.list (Pw.alloc rfl rfl rfl rfl rfl (fun _ => ?_)))
  refine Pw.split 19 rfl (fun c2 => ?_) (fun c2 => ?_)
  · dsimp only at c2
    repeat (first | refine Pw.runs ?_ | refine Pw.list (Pw.box rfl rfl rfl rfl (fun _ => ?_)) | refine Pw.list (Pw.alloc rfl rfl rfl rfl rfl (fun _ => ?_)))
    exact Pw.ret_ (x := ()) (.tmp rfl .nil) (congrArg Value.bool (formB_no (by simp only; omega)).symm) trivial (fun w h => by trivial)
  dsimp only at c1 c2
  repeat (first | refine Pw.runs ?_ | refine Pw.list (Pw.box rfl rfl rfl rfl (fun _ => ?_)) | refine Pw.list (Pw.alloc rfl rfl rfl rfl rfl (fun _ => ?_)))
  refine Pw.list (Pw.call (rrising_ct cs zc) rfl rfl rfl (by kernel_rfl) rfl rfl (fun w h => (hv w h)) ?_)
  intro _ _
  cases hr : risB cs
  · repeat (first | refine Pw.runs ?_ | refine Pw.list (Pw.box rfl rfl rfl rfl (fun _ => ?_)) | refine Pw.list (Pw.alloc rfl rfl rfl rfl rfl (fun _ => ?_)))
    exact Pw.ret_ (x := ()) (.tmp rfl .nil) (congrArg Value.bool (formB_no (by simp [hr])).symm) trivial (fun w h => by trivial)
  repeat (first | refine Pw.runs ?_ | refine Pw.list (Pw.box rfl rfl rfl rfl (fun _ => ?_)) | refine Pw.list (Pw.alloc rfl rfl rfl rfl rfl (fun _ => ?_)))
  refine Pw.loopJ (σ := Nat × Gr) (fun t => t.1 ≤ vs.length ∧ (∀ j, j < t.1 → vOk1 vs j) ∧ gOk t.2 ((stL (vs.take t.1)).map (Value.int .u64)) t.1 1) (fun t => ⟨[(1, .pointer (some ⟨g1, 0, none⟩)), (3, gv t.2 t.1), (27, .int .i64 vs.length), (28, .int .i64 t.1)], gL1 t.2 ((stL (vs.take t.1)).map (Value.int .u64)) 42, [fun W => W.heap[g1]? = some (row [.slice A vs.length c, sl cs zc] 25), VS vs (A, c)]⟩) (fun t => vs.length - t.1) (0, none) ⟨Nat.zero_le _, fun j hj => absurd hj (Nat.not_lt_zero j), rfl, rfl⟩ (Pw.enter ⟨rfl, rfl, rfl, rfl, trivial⟩ (fun w h => allCons (fx h) (allCons (hv w h) allNil))) ?_
  rintro ⟨i, q⟩ ⟨hi, hj, hq⟩
  dsimp only at hi hj hq ⊢
  try refine Pw.run ?_
  refine Pw.condD rfl (fun c3 => ?_) (fun c3 => ?_)
  · have hlt : i < vs.length := by omega
    obtain ⟨v, hvi, hm⟩ := get_at hlt
    repeat (first | refine Pw.runs ?_ | refine Pw.list (Pw.box rfl rfl rfl rfl (fun _ => ?_)) | refine Pw.list (Pw.alloc rfl rfl rfl rfl rfl (fun _ => ?_)))
    refine Pw.list (Pw.index rfl rfl rfl rfl (Int.natCast_nonneg i) c3 (fun w h => (hv w h : VS vs (A, c) w).has (Int.natCast_nonneg i) c3) rfl rfl ?_)
    rintro ad rfl
    refine Pw.list (Pw.loadR v rfl inferInstance rfl (by rw [Int.toNat_natCast]; exact hvi) (by kernel_rfl) rfl rfl ?_)
    refine Pw.re (d := 35) (v' := vtV v) rfl rfl ?_
    refine Pw.list (Pw.alloc rfl rfl rfl rfl rfl (fun g5 => ?_))
    repeat (first | refine Pw.runs ?_ | refine Pw.list (Pw.box rfl rfl rfl rfl (fun _ => ?_)) | refine Pw.list (Pw.alloc rfl rfl rfl rfl rfl (fun _ => ?_)))
    refine freeHead ?_
    refine Pw.split 39 rfl (fun c4 => ?_) (fun c4 => ?_)
    · repeat (first | refine Pw.runs ?_ | refine Pw.list (Pw.box rfl rfl rfl rfl (fun _ => ?_)) | refine Pw.list (Pw.alloc rfl rfl rfl rfl rfl (fun _ => ?_)))
      exact Pw.ret_ (x := ()) (.tmp rfl .nil) (congrArg Value.bool (formB_v hlt (vOk_no hvi (by omega))).symm) trivial (fun w h => by trivial)
    repeat (first | refine Pw.runs ?_ | refine Pw.list (Pw.box rfl rfl rfl rfl (fun _ => ?_)) | refine Pw.list (Pw.alloc rfl rfl rfl rfl rfl (fun _ => ?_)))
    refine Pw.split 44 rfl (fun c5 => ?_) (fun c5 => ?_)
    · repeat (first | refine Pw.runs ?_ | refine Pw.list (Pw.box rfl rfl rfl rfl (fun _ => ?_)) | refine Pw.list (Pw.alloc rfl rfl rfl rfl rfl (fun _ => ?_)))
      exact Pw.ret_ (x := ()) (.tmp rfl .nil) (congrArg Value.bool (formB_v hlt (vOk_no hvi (by omega))).symm) trivial (fun w h => by trivial)
    repeat (first | refine Pw.runs ?_ | refine Pw.list (Pw.box rfl rfl rfl rfl (fun _ => ?_)) | refine Pw.list (Pw.alloc rfl rfl rfl rfl rfl (fun _ => ?_)))
    refine Pw.split 50 rfl (fun c6 => ?_) (fun c6 => ?_)
    · repeat (first | refine Pw.runs ?_ | refine Pw.list (Pw.box rfl rfl rfl rfl (fun _ => ?_)) | refine Pw.list (Pw.alloc rfl rfl rfl rfl rfl (fun _ => ?_)))
      exact Pw.ret_ (x := ()) (.tmp rfl .nil) (congrArg Value.bool (formB_v hlt (vOk_no hvi (by omega))).symm) trivial (fun w h => by trivial)
    repeat (first | refine Pw.runs ?_ | refine Pw.list (Pw.box rfl rfl rfl rfl (fun _ => ?_)) | refine Pw.list (Pw.alloc rfl rfl rfl rfl rfl (fun _ => ?_)))
    refine Pw.list (Pw.call (rrising_ct v.pk v.z) rfl rfl rfl (by kernel_rfl) rfl rfl (fun w h => (hv w h : heldV v w)) ?_)
    intro _ _
    cases hr2 : risB v.pk
    · repeat (first | refine Pw.runs ?_ | refine Pw.list (Pw.box rfl rfl rfl rfl (fun _ => ?_)) | refine Pw.list (Pw.alloc rfl rfl rfl rfl rfl (fun _ => ?_)))
      exact Pw.ret_ (x := ()) (.tmp rfl .nil) (congrArg Value.bool (formB_v hlt (vOk_no hvi (by simp [hr2]))).symm) trivial (fun w h => by trivial)
    repeat (first | refine Pw.runs ?_ | refine Pw.list (Pw.box rfl rfl rfl rfl (fun _ => ?_)) | refine Pw.list (Pw.alloc rfl rfl rfl rfl rfl (fun _ => ?_)))
    refine Pw.loopJ (σ := Nat) (fun k => k ≤ i ∧ ¬ v.id ∈ idsOf (vs.take k)) (fun k => ⟨[(1, .pointer (some ⟨g1, 0, none⟩)), (3, gv q i), (5, .pointer (some ⟨g5, 0, none⟩)), (27, .int .i64 vs.length), (28, .int .i64 i), (56, .int .i64 i), (57, .int .i64 k)], gL1 q ((stL (vs.take i)).map (Value.int .u64)) 42, [fun W => W.heap[g1]? = some (row [.slice (some ad) vs.length c, sl cs zc] 25), VS vs (some ad, c), fun W => W.heap[g5]? = some (row [.int .i64 v.id, .int .u64 v.st, sl v.pk v.z] 44)]⟩) (fun k => i - k) 0 ⟨Nat.zero_le _, by simp [idsOf]⟩ (Pw.enter ⟨rfl, rfl, rfl, rfl, rfl, rfl, rfl, trivial⟩ (fun w h => allCons (fx h) (allCons (hv w h) (allCons (fx h) allNil)))) ?_
    rintro k ⟨hk, hnk⟩
    dsimp only at hk hnk ⊢
    try refine Pw.run ?_
    refine Pw.condD rfl (fun c7 => ?_) (fun c7 => ?_)
    · have hk0 : (0 : Int) ≤ (k : Int) := Int.natCast_nonneg k
      have hk1 : (k : Int) < ((vs.length : Nat) : Int) := by omega
      obtain ⟨u, hu, _⟩ := get_at (show k < vs.length by omega)
      have e1 := idsOf_snoc hu
      repeat (first | refine Pw.runs ?_ | refine Pw.list (Pw.box rfl rfl rfl rfl (fun _ => ?_)) | refine Pw.list (Pw.alloc rfl rfl rfl rfl rfl (fun _ => ?_)))
      refine Pw.drawnG mixed rfl rfl ?_
      refine Pw.takeP 0 (nb 9 1) rfl rfl rfl rfl (by kernel_rfl) np sf ?_
      refine Pw.takeF 1 (nb 9 3) rfl rfl inferInstance rfl rfl rfl (by kernel_rfl) np sf ?_
      refine Pw.takeP 2 (nb 9 7) rfl rfl rfl rfl (by kernel_rfl) np sf ?_
      refine Pw.takeIx 3 (nb 9 15) rfl rfl rfl rfl rfl (by first | assumption | omega) (by first | assumption | omega) rfl rfl (by kernel_rfl) np sf ?_
      refine Pw.takeFS 4 (nb 9 31) rfl rfl rfl rfl rfl rfl rfl rfl (by kernel_rfl) np sf ?_
      refine Pw.takeLF u 5 (nb 9 63) rfl rfl inferInstance rfl (by first | assumption | (rw [Int.toNat_natCast]; assumption)) rfl rfl rfl rfl (by kernel_rfl) np sf ?_
      refine Pw.takeP 6 (nb 9 127) rfl rfl rfl rfl (by kernel_rfl) np sf ?_
      refine Pw.takeF 7 (nb 9 255) rfl rfl inferInstance rfl rfl rfl (by kernel_rfl) np sf ?_
      refine Pw.takeP 8 (nb 9 511) rfl rfl rfl rfl (by kernel_rfl) np sf ?_
      refine Pw.done (by kernel_rfl) ?_
      repeat (first | refine Pw.runs ?_ | refine Pw.list (Pw.box rfl rfl rfl rfl (fun _ => ?_)) | refine Pw.list (Pw.alloc rfl rfl rfl rfl rfl (fun _ => ?_)))
      refine Pw.condD rfl (fun c8 => ?_) (fun c8 => ?_)
      · repeat (first | refine Pw.runs ?_ | refine Pw.list (Pw.box rfl rfl rfl rfl (fun _ => ?_)) | refine Pw.list (Pw.alloc rfl rfl rfl rfl rfl (fun _ => ?_)))
        have hin : v.id ∈ idsOf (vs.take i) := by
          rw [show vs.take i = vs.take (k + 1) ++ (vs.take i).drop (k + 1) by
            conv => lhs; rw [← List.take_append_drop (k + 1) (vs.take i)]
            rw [List.take_take, Nat.min_eq_left (by omega)]]
          unfold idsOf at e1 ⊢
          rw [List.map_append, e1, ← c8]
          simp
        exact Pw.ret_ (x := ()) (.tmp rfl .nil) (congrArg Value.bool (formB_v hlt (vOk_no hvi (by simp [hin]))).symm) trivial (fun w h => by trivial)
      repeat (first | refine Pw.runs ?_ | refine Pw.list (Pw.box rfl rfl rfl rfl (fun _ => ?_)) | refine Pw.list (Pw.alloc rfl rfl rfl rfl rfl (fun _ => ?_)))
      refine Pw.re (d := 57) (v' := .int .i64 ((k + 1 : Nat) : Int)) rfl (congrArg (Value.int .i64) (i64s (by omega) htop)) ?_
      exact Pw.again (k + 1) ⟨by omega, by rw [e1, List.mem_append, List.mem_singleton]; exact fun h => h.elim hnk (fun e => c8 e.symm)⟩ (by show i - (k + 1) < i - k; omega) ⟨rfl, rfl, rfl, rfl, rfl, rfl, rfl, trivial⟩ rfl (fun w h => h)
    · obtain rfl : k = i := by omega
      repeat (first | refine Pw.runs ?_ | refine Pw.list (Pw.box rfl rfl rfl rfl (fun _ => ?_)) | refine Pw.list (Pw.alloc rfl rfl rfl rfl rfl (fun _ => ?_)))
      refine Pw.list (Pw.lit1 rfl rfl rfl rfl rfl rfl rfl rfl rfl (fun g2 => ?_))
      refine freeHead ?_
      refine Pw.list (Pw.push (s := q) (news := [.int .u64 v.st]) rfl rfl rfl rfl rfl rfl rfl hq rfl (fun u hu => by rw [List.mem_singleton.1 hu]; rfl) (fun w hs j u hu => by
        have h1 : w.heap[g2]? = some (row [.int .u64 v.st] 42) := fact0 hs.all
        rw [add_none, cell_of_blk h1]
        simpa using hu) (by omega) (by simp only [maxLen]; omega) (by show (k + 1) * 8 ≤ _; omega) rfl rfl (fun q' hq' => ?_))
      repeat (first | refine Pw.runs ?_ | refine Pw.list (Pw.box rfl rfl rfl rfl (fun _ => ?_)) | refine Pw.list (Pw.alloc rfl rfl rfl rfl rfl (fun _ => ?_)))
      refine Pw.re (d := 28) (v' := .int .i64 ((k + 1 : Nat) : Int)) rfl (congrArg (Value.int .i64) (i64s (by omega) htop)) ?_
      have e1 : (stL (vs.take k)).map (Value.int .u64) ++ [.int .u64 v.st] = (stL (vs.take (k + 1))).map (Value.int .u64) := by rw [stL_snoc hvi]; simp
      rw [e1] at hq' ⊢
      exact Pw.again (k + 1, q') ⟨by show k + 1 ≤ vs.length; omega, fun j h => by
        rcases Nat.lt_or_ge j k with h' | h'
        · exact hj j h'
        · obtain rfl : j = k := by have : j < k + 1 := h; omega
          intro u hu
          rw [hvi] at hu
          cases hu
          exact ⟨hnk, by omega, by omega, by omega, hr2⟩, hq'⟩ (by show vs.length - (k + 1) < vs.length - k; omega) ⟨rfl, rfl, rfl, rfl, trivial⟩ rfl (fun w h => allCons (fx h) (allCons (hv w h) allNil))
  · obtain rfl : i = vs.length := by omega
    have hb : ∀ n ∈ stL vs, U64 n := fun n hn => by
      obtain ⟨v, hv, rfl⟩ := List.mem_map.1 hn
      exact hW v hv
    rw [List.take_length] at hq ⊢
    refine Pw.freeG hq (fun B cq e hc => ?_)
    rw [e]
    repeat (first | refine Pw.runs ?_ | refine Pw.list (Pw.box rfl rfl rfl rfl (fun _ => ?_)) | refine Pw.list (Pw.alloc rfl rfl rfl rfl rfl (fun _ => ?_)))
    have hsl : (stL vs).length = vs.length := by unfold stL; rw [List.length_map]
    refine Pw.re (d := 77) (v' := sl (stL vs) (B, cq)) rfl (by show Value.slice B vs.length cq = .slice B (stL vs).length cq; rw [hsl]) ?_
    refine Pw.list (Pw.call (rSum_ct (stL vs) (B, cq) hb) rfl rfl rfl (by kernel_rfl) rfl rfl (fun w h => ints_of_cells (by rw [hsl]; exact hc) (by rw [hsl]; simp only [maxLen]; omega) (fact0 h)) ?_)
    intro _ _
    repeat (first | refine Pw.runs ?_ | refine Pw.list (Pw.box rfl rfl rfl rfl (fun _ => ?_)) | refine Pw.list (Pw.alloc rfl rfl rfl rfl rfl (fun _ => ?_)))
    refine Pw.ret_ (x := ()) (.tmp rfl .nil) (congrArg Value.bool ?_) trivial (fun w h => by trivial)
    unfold sumM
    rw [lsum_st]
    by_cases hsum : sumSt vs ≤ 18446744073709551615
    · rw [if_pos hsum]
      exact (formB_yes (s := ⟨vs, (A, c), cs, zc⟩) (by simp only; omega) (by simp only; omega) hr (fun j h => vOk_of1 (fun v hv => (hW v hv).1) hsum h (hj j h))).symm
    · rw [if_neg hsum]
      refine Eq.symm (Bool.eq_false_iff.2 fun hF => hsum (formB_sum hF))
end Go.Proofs.Wk
/- The law GraphSupported walked. -/
namespace Go.Proofs.Wk
open Go.RowKit
set_option maxRecDepth 100000
set_option maxHeartbeats 4000000
attribute [local irreducible] Pw OpG
set_option linter.unusedVariables false
set_option linter.unusedSimpArgs false
theorem Has_ct (l : List Int) (x : Option Addr × Nat) (k : Int) : Ct Try.prog 12 #[sl l x, .int .i64 k] (I1 l x) (fun _ : Unit => .bool (decide (k ∈ l))) Tt (fun _ _ => True) := by
  obtain ⟨A, c⟩ := x
  refine Ct.start Try.func12 rfl rfl (slots_of rfl slots2) (fun D w0 => ?_)
  refine Pw.use (p := l.length ≤ maxLen) (fun w h => (fact0 h).top) (fun htop => ?_)
  have htop := top63 htop
  try refine Pw.run ?_
  refine Pw.loopJ (σ := Nat) (fun i => i ≤ l.length ∧ ∀ j, j < i → ∀ y, l[j]? = some y → decide (k = y) = false) (fun i => ⟨[(0, .slice A l.length c), (1, .int .i64 k), (7, .int .i64 l.length), (8, .int .i64 i)], [], [Ints .i64 l A c]⟩) (fun i => l.length - i) 0 ⟨Nat.zero_le _, fun j hj => absurd hj (Nat.not_lt_zero j)⟩ (Pw.enter ⟨rfl, rfl, rfl, rfl, trivial⟩ (fun _ h => h)) ?_
  rintro i ⟨hi, hj⟩
  dsimp only at hi hj ⊢
  try refine Pw.run ?_
  refine Pw.condD rfl (fun c3 => ?_) (fun c3 => ?_)
  · obtain ⟨y, hy, hm⟩ := get_at (show i < l.length by omega)
    try refine Pw.run ?_
    refine Pw.list (Pw.index rfl rfl rfl rfl (Int.natCast_nonneg i) c3 (fun w h => (fact0 h).has (Int.natCast_nonneg i) c3) rfl rfl ?_)
    rintro ad rfl
    refine Pw.list (Pw.load1 rfl rfl (fun w hs => by first | exact (fact0 hs.all).cell (by first | assumption | omega) (by first | assumption | omega) | exact (fact1 hs.all).cell (by first | assumption | omega) (by first | assumption | omega) | exact (fact2 hs.all).cell (by first | assumption | omega) (by first | assumption | omega) | exact (fact3 hs.all).cell (by first | assumption | omega) (by first | assumption | omega)) rfl rfl ?_)
    rw [get_rd hy]
    try refine Pw.run ?_
    refine Pw.condD rfl (fun c4 => ?_) (fun c4 => ?_)
    · subst c4
      try refine Pw.run ?_
      exact Pw.ret_ (x := ()) (.tmp rfl .nil) (congrArg Value.bool (decide_eq_true hm).symm) trivial (fun w h => by trivial)
    · try refine Pw.run ?_
      refine Pw.re (d := 8) (v' := .int .i64 ((i + 1 : Nat) : Int)) rfl (congrArg (Value.int .i64) (i64s (by omega) htop)) ?_
      exact Pw.again (i + 1) ⟨by omega, below_snoc hj hy (decide_eq_false (fun e => c4 e.symm))⟩ (by show l.length - (i + 1) < l.length - i; omega) ⟨rfl, rfl, rfl, rfl, trivial⟩ rfl (fun w h => h)
  · try refine Pw.run ?_
    exact Pw.ret_ (x := ()) (.tmp rfl .nil) (congrArg Value.bool (decide_eq_false (fun hm => by
      obtain ⟨j, hj'⟩ := List.getElem?_of_mem hm
      have := below_all (p := fun y => decide (k = y)) hj (by omega) j k hj'
      simp at this)).symm) trivial (fun w h => by trivial)
theorem Small_ct (s : Sn) : Ct Try.prog 8 #[snV s] (snF s) (fun r : Bool => .bool r) (fun r => r = true → s.vs.length ≤ 100 ∧ s.cs.length ≤ 100) (fun _ _ => True) := by
  obtain ⟨A, cp, hz⟩ : ∃ A cp, s.zv = (A, cp) := ⟨_, _, rfl⟩
  refine Ct.start Try.func8 rfl rfl (slots_of rfl slots1) (fun D w0 => ?_)
  refine Pw.use (p := s.vs.length ≤ maxLen) (fun w h => (hv w h : snF s w).1.top) (fun htop => ?_)
  have htop := top63 htop
  try refine Pw.run ?_
  refine Pw.list (Pw.box rfl rfl rfl rfl (fun g1 => freeHead ?_))
  repeat (first | refine Pw.runs ?_ | refine Pw.list (Pw.box rfl rfl rfl rfl (fun _ => ?_)) | refine Pw.list (Pw.alloc rfl rfl rfl rfl rfl (fun _ => ?_)))
  refine Pw.condD rfl (fun c1 => ?_) (fun c1 => ?_)
  · repeat (first | refine Pw.runs ?_ | refine Pw.list (Pw.box rfl rfl rfl rfl (fun _ => ?_)) | refine Pw.list (Pw.alloc rfl rfl rfl rfl rfl (fun _ => ?_)))
    exact Pw.ret_ (x := false) (.tmp rfl .nil) rfl (fun e => by cases e) (fun w h => by trivial)
  repeat (first | refine Pw.runs ?_ | refine Pw.list (Pw.box rfl rfl rfl rfl (fun _ => ?_)) | refine Pw.list (Pw.alloc rfl rfl rfl rfl rfl (fun _ => ?_)))
  refine Pw.loopJ (σ := Nat) (fun i => i ≤ s.vs.length ∧ i ≤ 100) (fun i => ⟨[(1, .pointer (some ⟨g1, 0, none⟩)), (10, .int .i64 s.vs.length), (11, .int .i64 i)], [], [fun W => W.heap[g1]? = some (row [.slice A s.vs.length cp, sl s.cs s.zc] 25), VS s.vs (A, cp)]⟩) (fun i => s.vs.length - i) 0 ⟨Nat.zero_le _, Nat.zero_le _⟩ (Pw.enter ⟨rfl, rfl, rfl, trivial⟩ (fun w h => allCons (by have : w.heap[g1]? = some (row [.slice s.zv.1 s.vs.length s.zv.2, sl s.cs s.zc] 25) := fact0 h; rw [hz] at this; exact this) (allCons (by have := (hv w h : snF s w).1; rw [hz] at this; exact this) allNil))) ?_
  rintro i ⟨hi, hi2⟩
  dsimp only at hi hi2 ⊢
  try refine Pw.run ?_
  refine Pw.condD rfl (fun c3 => ?_) (fun c3 => ?_)
  · obtain ⟨v, hvi, hm⟩ := get_at (show i < s.vs.length by omega)
    repeat (first | refine Pw.runs ?_ | refine Pw.list (Pw.box rfl rfl rfl rfl (fun _ => ?_)) | refine Pw.list (Pw.alloc rfl rfl rfl rfl rfl (fun _ => ?_)))
    refine Pw.split 16 rfl (fun c4 => ?_) (fun c4 => ?_)
    · repeat (first | refine Pw.runs ?_ | refine Pw.list (Pw.box rfl rfl rfl rfl (fun _ => ?_)) | refine Pw.list (Pw.alloc rfl rfl rfl rfl rfl (fun _ => ?_)))
      exact Pw.ret_ (x := false) (.tmp rfl .nil) rfl (fun e => by cases e) (fun w h => by trivial)
    repeat (first | refine Pw.runs ?_ | refine Pw.list (Pw.box rfl rfl rfl rfl (fun _ => ?_)) | refine Pw.list (Pw.alloc rfl rfl rfl rfl rfl (fun _ => ?_)))
    refine Pw.list (Pw.index rfl rfl rfl rfl (Int.natCast_nonneg i) c3 (fun w h => (fact1 h).has (Int.natCast_nonneg i) c3) rfl rfl ?_)
    rintro ad rfl
    refine Pw.list (Pw.fieldS rfl rfl rfl rfl rfl rfl rfl ?_)
    refine Pw.list (Pw.loadF v rfl inferInstance rfl (by rw [Int.toNat_natCast]; exact hvi) rfl (by kernel_rfl) rfl rfl ?_)
    repeat (first | refine Pw.runs ?_ | refine Pw.list (Pw.box rfl rfl rfl rfl (fun _ => ?_)) | refine Pw.list (Pw.alloc rfl rfl rfl rfl rfl (fun _ => ?_)))
    refine Pw.condD rfl (fun c5 => ?_) (fun c5 => ?_)
    · repeat (first | refine Pw.runs ?_ | refine Pw.list (Pw.box rfl rfl rfl rfl (fun _ => ?_)) | refine Pw.list (Pw.alloc rfl rfl rfl rfl rfl (fun _ => ?_)))
      exact Pw.ret_ (x := false) (.tmp rfl .nil) rfl (fun e => by cases e) (fun w h => by trivial)
    repeat (first | refine Pw.runs ?_ | refine Pw.list (Pw.box rfl rfl rfl rfl (fun _ => ?_)) | refine Pw.list (Pw.alloc rfl rfl rfl rfl rfl (fun _ => ?_)))
    refine Pw.re (d := 11) (v' := .int .i64 ((i + 1 : Nat) : Int)) rfl (congrArg (Value.int .i64) (i64s (by omega) htop)) ?_
    exact Pw.again (i + 1) ⟨by omega, by omega⟩ (by show s.vs.length - (i + 1) < s.vs.length - i; omega) ⟨rfl, rfl, rfl, trivial⟩ rfl (fun w h => allTail h)
  · try refine Pw.run ?_
    exact Pw.ret_ (x := true) (.tmp rfl .nil) rfl (fun _ => ⟨by omega, by omega⟩) (fun w h => by trivial)
theorem first_id {s : Sn} (hF : formB s = true) {i : Nat} {v : Vtr} (hv : s.vs[i]? = some v) : s.vs.find? (fun u : Vtr => decide (u.id = v.id)) = some v := by
  obtain ⟨_, _, _, hok⟩ := formB_spec hF
  have hlt := (List.getElem?_eq_some_iff.1 hv).1
  have h2 := ((vOk_iff hv).1 (hok i hlt)).2.1
  refine List.find?_eq_some_iff_append.2 ⟨by simp, s.vs.take i, s.vs.drop (i + 1), ?_, ?_⟩
  · rw [← List.take_append_drop i s.vs]
    simp only [List.take_append_drop]
    conv => lhs; rw [← List.take_append_drop i s.vs]
    rw [List.drop_eq_getElem_cons hlt]
    have : s.vs[i] = v := by
      rw [List.getElem?_eq_getElem hlt] at hv; exact Option.some.inj hv
    rw [this]
  · intro a ha
    have : a.id ≠ v.id := fun e => h2 (by rw [← e]; exact List.mem_map_of_mem ha)
    simp [this]
end Go.Proofs.Wk
/- The document's snapshots: who approves whom; seats; the total. -/
namespace Go.Proofs.Wk
open Go.RowKit
set_option maxRecDepth 100000
set_option maxHeartbeats 4000000
attribute [local irreducible] Pw OpG
set_option linter.unusedVariables false
set_option linter.unusedSimpArgs false
/-- Does a voter approve a candidate of a formed snapshot? -/
def pkB (s : Sn) (v : Vtr) (c : Int) : Bool := decide (0 < v.st) && (decide (c ∈ s.cs) && decide (c ∈ v.pk))
theorem pk_ap {s : Sn} (hF : formB s = true) {i : Nat} {v : Vtr} (hv : s.vs[i]? = some v) (c : Int) : apB s v.id c = pkB s v c := by
  unfold apB pkB
  rw [hF, first_id hF hv]
  show (true && (decide (0 < v.st) && (decide (c ∈ v.pk) && decide (c ∈ s.cs)))) = _
  generalize decide (0 < v.st) = b1
  generalize decide (c ∈ s.cs) = b2
  generalize decide (c ∈ v.pk) = b3
  cases b1 <;> cases b2 <;> cases b3 <;> rfl
theorem rpicks_ct (s : Sn) (v : Vtr) (c : Int) : Ct Try.prog 45 #[snV s, vtV v, .int .i64 c] (fun W => snF s W ∧ heldV v W) (fun _ : Unit => .bool (pkB s v c)) Tt (fun _ _ => True) := by
  refine Ct.start Try.func45 rfl rfl (slots_of rfl slots3) (fun D w0 => Pw.facts (G' := [I1 s.cs s.zc, heldV v]) (fun w h => allCons (fact0 h).1.2 (allCons (fact0 h).2 allNil)) ?_)
  try refine Pw.run ?_
  refine Pw.list (Pw.box rfl rfl rfl rfl (fun g3 => freeHead ?_))
  refine Pw.list (Pw.box rfl rfl rfl rfl (fun g4 => freeHead ?_))
  repeat (first | refine Pw.runs ?_ | refine Pw.list (Pw.box rfl rfl rfl rfl (fun _ => ?_)) | refine Pw.list (Pw.alloc rfl rfl rfl rfl rfl (fun _ => ?_)))
  by_cases p1 : 0 < v.st
  · refine Pw.re (d := 10) (v' := .bool true) rfl (congrArg Value.bool (decide_eq_true p1)) ?_
    repeat (first | refine Pw.runs ?_ | refine Pw.list (Pw.box rfl rfl rfl rfl (fun _ => ?_)) | refine Pw.list (Pw.alloc rfl rfl rfl rfl rfl (fun _ => ?_)))
    refine Pw.list (Pw.call (Has_ct s.cs s.zc c) rfl rfl rfl (by kernel_rfl) rfl rfl (fun w h => (hv w h : I1 s.cs s.zc w)) ?_)
    intro _ _
    by_cases p2 : c ∈ s.cs
    · rw [decide_eq_true p2]
      repeat (first | refine Pw.runs ?_ | refine Pw.list (Pw.box rfl rfl rfl rfl (fun _ => ?_)) | refine Pw.list (Pw.alloc rfl rfl rfl rfl rfl (fun _ => ?_)))
      refine Pw.list (Pw.call (Has_ct v.pk v.z c) rfl rfl rfl (by kernel_rfl) rfl rfl (fun w h => (hv w h : heldV v w)) ?_)
      intro _ _
      repeat (first | refine Pw.runs ?_ | refine Pw.list (Pw.box rfl rfl rfl rfl (fun _ => ?_)) | refine Pw.list (Pw.alloc rfl rfl rfl rfl rfl (fun _ => ?_)))
      exact Pw.ret_ (x := ()) (.tmp rfl .nil) (congrArg Value.bool (by unfold pkB; rw [decide_eq_true p1, decide_eq_true p2]; rfl)) trivial (fun w h => by trivial)
    · rw [decide_eq_false p2]
      repeat (first | refine Pw.runs ?_ | refine Pw.list (Pw.box rfl rfl rfl rfl (fun _ => ?_)) | refine Pw.list (Pw.alloc rfl rfl rfl rfl rfl (fun _ => ?_)))
      exact Pw.ret_ (x := ()) (.tmp rfl .nil) (congrArg Value.bool (by unfold pkB; rw [decide_eq_false p2]; simp)) trivial (fun w h => by trivial)
  · refine Pw.re (d := 10) (v' := .bool false) rfl (congrArg Value.bool (decide_eq_false p1)) ?_
    repeat (first | refine Pw.runs ?_ | refine Pw.list (Pw.box rfl rfl rfl rfl (fun _ => ?_)) | refine Pw.list (Pw.alloc rfl rfl rfl rfl rfl (fun _ => ?_)))
    exact Pw.ret_ (x := ()) (.tmp rfl .nil) (congrArg Value.bool (by unfold pkB; rw [decide_eq_false p1]; simp)) trivial (fun w h => by trivial)
theorem rApproves_ct (s : Sn) (hW : snW s) (k c : Int) : Ct Try.prog 22 #[snV s, .int .i64 k, .int .i64 c] (snF s) (fun _ : Unit => .bool (apB s k c)) Tt (fun _ _ => True) := by
  obtain ⟨vs, ⟨A, cp⟩, cs, zc⟩ := s
  refine Ct.start Try.func22 rfl rfl (slots_of rfl slots3) (fun D w0 => Pw.facts sn2 ?_)
  refine Pw.use (p := vs.length ≤ maxLen) (fun w h => (fact0 h).top) (fun htop => ?_)
  have htop := top63 htop
  try refine Pw.run ?_
  refine Pw.list (Pw.box rfl rfl rfl rfl (fun g1 => freeHead ?_))
  repeat (first | refine Pw.runs ?_ | refine Pw.list (Pw.box rfl rfl rfl rfl (fun _ => ?_)) | refine Pw.list (Pw.alloc rfl rfl rfl rfl rfl (fun _ => ?_)))
  refine Pw.list (Pw.call (dFormed_ct ⟨vs, (A, cp), cs, zc⟩ hW) rfl rfl rfl (by kernel_rfl) rfl rfl (fun w h => ⟨(hv w h), (hv w h)⟩) ?_)
  intro _ _
  cases hF : formB ⟨vs, (A, cp), cs, zc⟩
  · repeat (first | refine Pw.runs ?_ | refine Pw.list (Pw.box rfl rfl rfl rfl (fun _ => ?_)) | refine Pw.list (Pw.alloc rfl rfl rfl rfl rfl (fun _ => ?_)))
    exact Pw.ret_ (x := ()) (.tmp rfl .nil) (congrArg Value.bool (by unfold apB; rw [hF]; rfl)) trivial (fun w h => by trivial)
  repeat (first | refine Pw.runs ?_ | refine Pw.list (Pw.box rfl rfl rfl rfl (fun _ => ?_)) | refine Pw.list (Pw.alloc rfl rfl rfl rfl rfl (fun _ => ?_)))
  refine Pw.loopJ (σ := Nat) (fun i => i ≤ vs.length ∧ ∀ j, j < i → ∀ u, vs[j]? = some u → (u.id = k → apB ⟨vs, (A, cp), cs, zc⟩ k c = false)) (fun i => ⟨[(1, .int .i64 k), (2, .int .i64 c), (3, .pointer (some ⟨g1, 0, none⟩)), (13, .int .i64 vs.length), (14, .int .i64 i)], [], [fun W => W.heap[g1]? = some (row [.slice A vs.length cp, sl cs zc] 25), VS vs (A, cp), I1 cs zc]⟩) (fun i => vs.length - i) 0 ⟨Nat.zero_le _, fun j hj => absurd hj (Nat.not_lt_zero j)⟩ (Pw.enter ⟨rfl, rfl, rfl, rfl, rfl, trivial⟩ (fun w h => allCons (fx h) (allCons (hv w h) (allCons (hv w h) allNil)))) ?_
  rintro i ⟨hi, hj⟩
  dsimp only at hi hj ⊢
  repeat (first | refine Pw.runs ?_ | refine Pw.list (Pw.box rfl rfl rfl rfl (fun _ => ?_)) | refine Pw.list (Pw.alloc rfl rfl rfl rfl rfl (fun _ => ?_)))
  refine Pw.condD rfl (fun c3 => ?_) (fun c3 => ?_)
  · have hi0 : (0 : Int) ≤ (i : Int) := Int.natCast_nonneg i
    obtain ⟨v, hvi, hm⟩ := get_at (show i < vs.length by omega)
    refine Pw.use (p := A.isSome = true) (fun w h => (hv w h : VS vs (A, cp) w).has hi0 c3) (fun hA => ?_)
    obtain ⟨ad, rfl⟩ := Option.isSome_iff_exists.1 hA
    repeat (first | refine Pw.runs ?_ | refine Pw.list (Pw.box rfl rfl rfl rfl (fun _ => ?_)) | refine Pw.list (Pw.alloc rfl rfl rfl rfl rfl (fun _ => ?_)))
    refine Pw.drawnG mixed rfl rfl ?_
    refine Pw.takeP 0 (nb 18 1) rfl rfl rfl rfl (by kernel_rfl) np sf ?_
    refine Pw.takeF 1 (nb 18 3) rfl rfl inferInstance rfl rfl rfl (by kernel_rfl) np sf ?_
    refine Pw.takeP 2 (nb 18 7) rfl rfl rfl rfl (by kernel_rfl) np sf ?_
    refine Pw.takeIx 3 (nb 18 15) rfl rfl rfl rfl rfl (by first | assumption | omega) (by first | assumption | omega) rfl rfl (by kernel_rfl) np sf ?_
    refine Pw.takeFS 4 (nb 18 31) rfl rfl rfl rfl rfl rfl rfl rfl (by kernel_rfl) np sf ?_
    refine Pw.takeLF v 5 (nb 18 63) rfl rfl inferInstance rfl (by first | assumption | (rw [Int.toNat_natCast]; assumption)) rfl rfl rfl rfl (by kernel_rfl) np sf ?_
    refine Pw.takeP 6 (nb 18 127) rfl rfl rfl rfl (by kernel_rfl) np sf ?_
    refine Pw.takeP 7 (nb 18 255) rfl rfl rfl rfl (by kernel_rfl) np sf ?_
    refine Pw.takeP 8 (nb 18 511) rfl rfl rfl rfl (by kernel_rfl) np sf ?_
    refine Pw.split 25 rfl (fun c4 => ?_) (fun c4 => ?_)
    · skip
      refine Pw.takeF 9 (nb 18 1023) rfl rfl inferInstance rfl rfl rfl (by kernel_rfl) np sf ?_
      refine Pw.takeP 10 (nb 18 2047) rfl rfl rfl rfl (by kernel_rfl) np sf ?_
      refine Pw.takeF 11 (nb 18 4095) rfl rfl inferInstance rfl rfl rfl (by kernel_rfl) np sf ?_
      refine Pw.takeP 12 (nb 18 8191) rfl rfl rfl rfl (by kernel_rfl) np sf ?_
      refine Pw.takeIx 13 (nb 18 16383) rfl rfl rfl rfl rfl (by first | assumption | omega) (by first | assumption | omega) rfl rfl (by kernel_rfl) np sf ?_
      refine Pw.takeLA v 14 (nb 18 32767) rfl rfl inferInstance rfl (by first | assumption | (rw [Int.toNat_natCast]; assumption)) (by kernel_rfl) rfl rfl (by kernel_rfl) np sf ?_
      refine Pw.takeP 15 (nb 18 65535) rfl rfl rfl rfl (by kernel_rfl) np sf ?_
      refine Pw.one 16 (nb 18 131071) rfl (by kernel_rfl) ?_
      -- call Op.call { callee := Callee.value (Operand.func 45), args := #[Operand.tmp 26, Operand.tmp 31, Operand.tmp 32], argTypes := #[25, 44, 3] }
      refine Pw.call (rpicks_ct ⟨vs, (some ad, cp), cs, zc⟩ v c) rfl rfl rfl (by kernel_rfl) rfl rfl (fun w h => ⟨⟨(hv w h), (hv w h)⟩, ((hv w h : VS vs (some ad, cp) w).at hvi).2.1⟩) ?_
      intro _ _
      refine Pw.held sf ?_
      refine Pw.takeP 17 (nb 18 262143) rfl rfl rfl rfl (by kernel_rfl) np sf ?_
      refine Pw.done (by kernel_rfl) ?_
      have hpk : apB ⟨vs, (some ad, cp), cs, zc⟩ k c = pkB ⟨vs, (some ad, cp), cs, zc⟩ v c := by rw [← c4]; exact pk_ap hF hvi c
      repeat (first | refine Pw.runs ?_ | refine Pw.list (Pw.box rfl rfl rfl rfl (fun _ => ?_)) | refine Pw.list (Pw.alloc rfl rfl rfl rfl rfl (fun _ => ?_)))
      refine Pw.condB rfl (fun c5 => ?_) (fun c5 => ?_)
      · repeat (first | refine Pw.runs ?_ | refine Pw.list (Pw.box rfl rfl rfl rfl (fun _ => ?_)) | refine Pw.list (Pw.alloc rfl rfl rfl rfl rfl (fun _ => ?_)))
        exact Pw.ret_ (x := ()) (.tmp rfl .nil) (congrArg Value.bool (hpk.trans c5).symm) trivial (fun w h => by trivial)
      · repeat (first | refine Pw.runs ?_ | refine Pw.list (Pw.box rfl rfl rfl rfl (fun _ => ?_)) | refine Pw.list (Pw.alloc rfl rfl rfl rfl rfl (fun _ => ?_)))
        refine Pw.re (d := 14) (v' := .int .i64 ((i + 1 : Nat) : Int)) rfl (congrArg (Value.int .i64) (i64s (by omega) htop)) ?_
        exact Pw.again (i + 1) ⟨by omega, fun j h u hu e => by
          rcases Nat.lt_or_ge j i with h' | h'
          · exact hj j h' u hu e
          · exact hpk.trans c5⟩ (by show vs.length - (i + 1) < vs.length - i; omega) ⟨rfl, rfl, rfl, rfl, rfl, trivial⟩ rfl (fun w h => allTail h)
    · skip
      refine Pw.takeO 9 (nb 18 1023) rfl rfl rfl (by kernel_rfl) np sf ?_
      refine Pw.takeO 10 (nb 18 2047) rfl rfl rfl (by kernel_rfl) np sf ?_
      refine Pw.takeO 11 (nb 18 4095) rfl rfl rfl (by kernel_rfl) np sf ?_
      refine Pw.takeO 12 (nb 18 8191) rfl rfl rfl (by kernel_rfl) np sf ?_
      refine Pw.takeO 13 (nb 18 16383) rfl rfl rfl (by kernel_rfl) np sf ?_
      refine Pw.takeO 14 (nb 18 32767) rfl rfl rfl (by kernel_rfl) np sf ?_
      refine Pw.takeO 15 (nb 18 65535) rfl rfl rfl (by kernel_rfl) np sf ?_
      refine Pw.takeO 16 (nb 18 131071) rfl rfl rfl (by kernel_rfl) np sf ?_
      refine Pw.takeP 17 (nb 18 262143) rfl rfl rfl rfl (by kernel_rfl) np sf ?_
      refine Pw.done (by kernel_rfl) ?_
      repeat (first | refine Pw.runs ?_ | refine Pw.list (Pw.box rfl rfl rfl rfl (fun _ => ?_)) | refine Pw.list (Pw.alloc rfl rfl rfl rfl rfl (fun _ => ?_)))
      refine Pw.re (d := 14) (v' := .int .i64 ((i + 1 : Nat) : Int)) rfl (congrArg (Value.int .i64) (i64s (by omega) htop)) ?_
      exact Pw.again (i + 1) ⟨by omega, fun j h u hu e => by
        rcases Nat.lt_or_ge j i with h' | h'
        · exact hj j h' u hu e
        · obtain rfl : j = i := by omega
          rw [hvi] at hu; cases hu; exact absurd e c4⟩ (by show vs.length - (i + 1) < vs.length - i; omega) ⟨rfl, rfl, rfl, rfl, rfl, trivial⟩ rfl (fun w h => h)
  · repeat (first | refine Pw.runs ?_ | refine Pw.list (Pw.box rfl rfl rfl rfl (fun _ => ?_)) | refine Pw.list (Pw.alloc rfl rfl rfl rfl rfl (fun _ => ?_)))
    refine Pw.ret_ (x := ()) (.tmp rfl .nil) (congrArg Value.bool ?_) trivial (fun w h => by trivial)
    cases hap : apB ⟨vs, (A, cp), cs, zc⟩ k c
    · rfl
    · exfalso
      unfold apB at hap
      rw [hF] at hap
      cases hf : vs.find? (fun v : Vtr => decide (v.id = k)) with
      | none => simp only [hf] at hap; cases hap
      | some v =>
        have hid : v.id = k := by simpa using List.find?_some hf
        obtain ⟨j, hjv⟩ := List.getElem?_of_mem (List.mem_of_find?_eq_some hf)
        have h9 := hj j (by have := (List.getElem?_eq_some_iff.1 hjv).1; omega) v hjv hid
        unfold apB at h9
        rw [hF] at h9
        simp only [hf] at hap h9
        rw [hap] at h9; cases h9
theorem apP_pk {s : Sn} (hF : formB s = true) {c : Int} {i : Nat} {v : Vtr} (hv : s.vs[i]? = some v) : apP s c (i + 1) = if pkB s v c = true then apP s c i ++ [v.id] else apP s c i := by
  split
  next h => exact apP_yes hv (by rw [pk_ap hF hv]; exact h)
  next h => exact apP_no hv (by rw [pk_ap hF hv]; exact Bool.eq_false_iff.2 h)
theorem rApprovers_ct (s : Sn) (hW : snW s) (hl : s.vs.length ≤ 1000000) (c : Int) : Ct Try.prog 67 #[snV s, .int .i64 c] (snF s) (fun z : Option Addr × Nat => sl (apL s c) z) Tt (fun z => I1 (apL s c) z) := by
  obtain ⟨vs, ⟨A, cp⟩, cs, zc⟩ := s
  dsimp only at hl
  have htop : vs.length ≤ 9223372036854775807 := by omega
  refine Ct.start Try.func67 rfl rfl (slots_of rfl slots2) (fun D w0 => Pw.facts sn2 ?_)
  try refine Pw.run ?_
  refine Pw.list (Pw.box rfl rfl rfl rfl (fun g1 => freeHead ?_))
  repeat (first | refine Pw.runs ?_ | refine Pw.list (Pw.box rfl rfl rfl rfl (fun _ => ?_)) | refine Pw.list (Pw.alloc rfl rfl rfl rfl rfl (fun _ => ?_)))
  refine Pw.list (Pw.call (dFormed_ct ⟨vs, (A, cp), cs, zc⟩ hW) rfl rfl rfl (by kernel_rfl) rfl rfl (fun w h => ⟨(hv w h), (hv w h)⟩) ?_)
  intro _ _
  cases hF : formB ⟨vs, (A, cp), cs, zc⟩
  · have he : apL ⟨vs, (A, cp), cs, zc⟩ c = [] := by
      unfold apL apB
      rw [hF]
      simp
    repeat (first | refine Pw.runs ?_ | refine Pw.list (Pw.box rfl rfl rfl rfl (fun _ => ?_)) | refine Pw.list (Pw.alloc rfl rfl rfl rfl rfl (fun _ => ?_)))
    rw [he]
    exact Pw.ret_ (x := (none, 0)) (.tmp rfl .nil) rfl trivial (fun w h => Rows.nil _ _ _ _ _)
  repeat (first | refine Pw.runs ?_ | refine Pw.list (Pw.box rfl rfl rfl rfl (fun _ => ?_)) | refine Pw.list (Pw.alloc rfl rfl rfl rfl rfl (fun _ => ?_)))
  refine Pw.loopJ (σ := Nat × Gr) (fun t => t.1 ≤ vs.length ∧ gOk t.2 ((apP ⟨vs, (A, cp), cs, zc⟩ c t.1).map (Value.int .i64)) (apP ⟨vs, (A, cp), cs, zc⟩ c t.1).length 1) (fun t => ⟨[(1, .int .i64 c), (2, .pointer (some ⟨g1, 0, none⟩)), (5, gv t.2 (apP ⟨vs, (A, cp), cs, zc⟩ c t.1).length), (12, .int .i64 vs.length), (13, .int .i64 t.1)], gL1 t.2 ((apP ⟨vs, (A, cp), cs, zc⟩ c t.1).map (Value.int .i64)) 3, [fun W => W.heap[g1]? = some (row [.slice A vs.length cp, sl cs zc] 25), VS vs (A, cp), I1 cs zc]⟩) (fun t => vs.length - t.1) (0, none) ⟨Nat.zero_le _, rfl, rfl⟩ (Pw.enter ⟨rfl, rfl, rfl, rfl, rfl, trivial⟩ (fun w h => allCons (fx h) (allCons (hv w h) (allCons (hv w h) allNil)))) ?_
  rintro ⟨i, q⟩ ⟨hi, hq⟩
  dsimp only at hi hq ⊢
  have hlen := apP_len ⟨vs, (A, cp), cs, zc⟩ c i
  repeat (first | refine Pw.runs ?_ | refine Pw.list (Pw.box rfl rfl rfl rfl (fun _ => ?_)) | refine Pw.list (Pw.alloc rfl rfl rfl rfl rfl (fun _ => ?_)))
  refine Pw.condD rfl (fun c3 => ?_) (fun c3 => ?_)
  · have hi0 : (0 : Int) ≤ (i : Int) := Int.natCast_nonneg i
    obtain ⟨v, hvi, hm⟩ := get_at (show i < vs.length by omega)
    refine Pw.use (p := A.isSome = true) (fun w h => (hv w h : VS vs (A, cp) w).has hi0 c3) (fun hA => ?_)
    obtain ⟨ad, rfl⟩ := Option.isSome_iff_exists.1 hA
    have hpk := apP_pk (c := c) hF hvi
    repeat (first | refine Pw.runs ?_ | refine Pw.list (Pw.box rfl rfl rfl rfl (fun _ => ?_)) | refine Pw.list (Pw.alloc rfl rfl rfl rfl rfl (fun _ => ?_)))
    refine Pw.drawnG mixed rfl rfl ?_
    refine Pw.takeF 0 (nb 8 1) rfl rfl inferInstance rfl rfl rfl (by kernel_rfl) np sf ?_
    refine Pw.takeP 1 (nb 8 3) rfl rfl rfl rfl (by kernel_rfl) np sf ?_
    refine Pw.takeF 2 (nb 8 7) rfl rfl inferInstance rfl rfl rfl (by kernel_rfl) np sf ?_
    refine Pw.takeP 3 (nb 8 15) rfl rfl rfl rfl (by kernel_rfl) np sf ?_
    refine Pw.takeIx 4 (nb 8 31) rfl rfl rfl rfl rfl (by first | assumption | omega) (by first | assumption | omega) rfl rfl (by kernel_rfl) np sf ?_
    refine Pw.takeLA v 5 (nb 8 63) rfl rfl inferInstance rfl (by first | assumption | (rw [Int.toNat_natCast]; assumption)) (by kernel_rfl) rfl rfl (by kernel_rfl) np sf ?_
    refine Pw.takeP 6 (nb 8 127) rfl rfl rfl rfl (by kernel_rfl) np sf ?_
    refine Pw.one 7 (nb 8 255) rfl (by kernel_rfl) ?_
    -- call Op.call { callee := Callee.value (Operand.func 45), args := #[Operand.tmp 16, Operand.tmp 21, Operand.tmp 22], argTypes := #[25, 44, 3] }
    refine Pw.call (rpicks_ct ⟨vs, (some ad, cp), cs, zc⟩ v c) rfl rfl rfl (by kernel_rfl) rfl rfl (fun w h => ⟨⟨(hv w h), (hv w h)⟩, ((hv w h : VS vs (some ad, cp) w).at hvi).2.1⟩) ?_
    intro _ _
    refine Pw.held sf ?_
    refine Pw.done (by kernel_rfl) ?_
    repeat (first | refine Pw.runs ?_ | refine Pw.list (Pw.box rfl rfl rfl rfl (fun _ => ?_)) | refine Pw.list (Pw.alloc rfl rfl rfl rfl rfl (fun _ => ?_)))
    refine Pw.condB rfl (fun c4 => ?_) (fun c4 => ?_)
    · rw [if_pos c4] at hpk
      repeat (first | refine Pw.runs ?_ | refine Pw.list (Pw.box rfl rfl rfl rfl (fun _ => ?_)) | refine Pw.list (Pw.alloc rfl rfl rfl rfl rfl (fun _ => ?_)))
      refine Pw.list (Pw.indexS rfl rfl rfl rfl hi0 c3 rfl rfl ?_)
      refine Pw.list (Pw.fieldS rfl rfl rfl rfl rfl rfl rfl ?_)
      refine Pw.list (Pw.loadF v rfl inferInstance rfl (by rw [Int.toNat_natCast]; exact hvi) rfl (by kernel_rfl) rfl rfl ?_)
      repeat (first | refine Pw.runs ?_ | refine Pw.list (Pw.box rfl rfl rfl rfl (fun _ => ?_)) | refine Pw.list (Pw.alloc rfl rfl rfl rfl rfl (fun _ => ?_)))
      refine Pw.list (Pw.lit1 rfl rfl rfl rfl rfl rfl rfl rfl rfl (fun g2 => ?_))
      refine freeHead ?_
      refine Pw.list (Pw.push (s := q) (news := [.int .i64 v.id]) rfl rfl rfl rfl rfl rfl rfl hq rfl (fun u hu => by rw [List.mem_singleton.1 hu]; rfl) (fun w hs j u hu => by
        have h1 : w.heap[g2]? = some (row [.int .i64 v.id] 3) := fact0 hs.all
        rw [add_none, cell_of_blk h1]
        simpa using hu) (by omega) (by simp only [maxLen]; omega) (by show ((apP _ c i).length + 1) * 8 ≤ _; omega) rfl rfl (fun q' hq' => ?_))
      repeat (first | refine Pw.runs ?_ | refine Pw.list (Pw.box rfl rfl rfl rfl (fun _ => ?_)) | refine Pw.list (Pw.alloc rfl rfl rfl rfl rfl (fun _ => ?_)))
      refine Pw.re (d := 13) (v' := .int .i64 ((i + 1 : Nat) : Int)) rfl (congrArg (Value.int .i64) (i64s (by omega) htop)) ?_
      have e1 : (apP ⟨vs, (some ad, cp), cs, zc⟩ c (i + 1)).length = (apP ⟨vs, (some ad, cp), cs, zc⟩ c i).length + 1 := by rw [hpk]; simp
      have e2 : (apP ⟨vs, (some ad, cp), cs, zc⟩ c (i + 1)).map (Value.int .i64) = (apP ⟨vs, (some ad, cp), cs, zc⟩ c i).map (Value.int .i64) ++ [.int .i64 v.id] := by rw [hpk]; simp
      exact Pw.again (i + 1, q') ⟨by show i + 1 ≤ vs.length; omega, by rw [e1, e2]; exact hq'⟩ (by show vs.length - (i + 1) < vs.length - i; omega) ⟨rfl, rfl, by rw [e1]; rfl, rfl, rfl, trivial⟩ (by rw [e2]) (fun w h => allCons (fx h) (allCons (hv w h) (allCons (hv w h) allNil)))
    · rw [if_neg (by rw [c4]; exact Bool.false_ne_true)] at hpk
      repeat (first | refine Pw.runs ?_ | refine Pw.list (Pw.box rfl rfl rfl rfl (fun _ => ?_)) | refine Pw.list (Pw.alloc rfl rfl rfl rfl rfl (fun _ => ?_)))
      refine Pw.re (d := 13) (v' := .int .i64 ((i + 1 : Nat) : Int)) rfl (congrArg (Value.int .i64) (i64s (by omega) htop)) ?_
      exact Pw.again (i + 1, q) ⟨by show i + 1 ≤ vs.length; omega, by rw [hpk]; exact hq⟩ (by show vs.length - (i + 1) < vs.length - i; omega) ⟨rfl, rfl, by rw [hpk]; rfl, rfl, rfl, trivial⟩ (by rw [hpk]) (fun w h => allTail h)
  · have hall := apP_all (s := ⟨vs, (A, cp), cs, zc⟩) (c := c) (i := i) (by show vs.length ≤ i; omega)
    rw [hall] at hq hlen ⊢
    refine Pw.freeG hq (fun B cq e hc => ?_)
    rw [e]
    repeat (first | refine Pw.runs ?_ | refine Pw.list (Pw.box rfl rfl rfl rfl (fun _ => ?_)) | refine Pw.list (Pw.alloc rfl rfl rfl rfl rfl (fun _ => ?_)))
    exact Pw.ret_ (x := (B, cq)) (.tmp rfl .nil) rfl trivial (fun w h => ints_of_cells hc (by simp only [maxLen]; omega) (fact0 h))
theorem suP_ap {s : Sn} {c : Int} {i : Nat} (hv : s.cs[i]? = some c) : suP s (i + 1) = if ((apL s c).length : Int) > 0 then suP s i ++ [c] else suP s i := by
  split
  next h => exact suP_yes hv (by omega)
  next h => exact suP_no hv (by omega)
theorem rSupported_ct (s : Sn) (hW : snW s) (hl : s.vs.length ≤ 1000000) (hl2 : s.cs.length ≤ 1000000) : Ct Try.prog 40 #[snV s] (snF s) (fun z : Option Addr × Nat => sl (suL s) z) Tt (fun z => I1 (suL s) z) := by
  obtain ⟨vs, zv, cs, ⟨B, cq⟩⟩ := s
  dsimp only at hl hl2
  have htop : cs.length ≤ 9223372036854775807 := by omega
  refine Ct.start Try.func40 rfl rfl (slots_of rfl slots1) (fun D w0 => Pw.facts sn2 ?_)
  try refine Pw.run ?_
  refine Pw.list (Pw.box rfl rfl rfl rfl (fun g1 => freeHead ?_))
  repeat (first | refine Pw.runs ?_ | refine Pw.list (Pw.box rfl rfl rfl rfl (fun _ => ?_)) | refine Pw.list (Pw.alloc rfl rfl rfl rfl rfl (fun _ => ?_)))
  refine Pw.list (Pw.call (dFormed_ct ⟨vs, zv, cs, (B, cq)⟩ hW) rfl rfl rfl (by kernel_rfl) rfl rfl (fun w h => ⟨(hv w h), (hv w h)⟩) ?_)
  intro _ _
  cases hF : formB ⟨vs, zv, cs, (B, cq)⟩
  · have he : suL ⟨vs, zv, cs, (B, cq)⟩ = [] := by
      unfold suL apL apB
      rw [hF]
      simp
    repeat (first | refine Pw.runs ?_ | refine Pw.list (Pw.box rfl rfl rfl rfl (fun _ => ?_)) | refine Pw.list (Pw.alloc rfl rfl rfl rfl rfl (fun _ => ?_)))
    rw [he]
    exact Pw.ret_ (x := (none, 0)) (.tmp rfl .nil) rfl trivial (fun w h => Rows.nil _ _ _ _ _)
  repeat (first | refine Pw.runs ?_ | refine Pw.list (Pw.box rfl rfl rfl rfl (fun _ => ?_)) | refine Pw.list (Pw.alloc rfl rfl rfl rfl rfl (fun _ => ?_)))
  refine Pw.loopJ (σ := Nat × Gr) (fun t => t.1 ≤ cs.length ∧ gOk t.2 ((suP ⟨vs, zv, cs, (B, cq)⟩ t.1).map (Value.int .i64)) (suP ⟨vs, zv, cs, (B, cq)⟩ t.1).length 1) (fun t => ⟨[(1, .pointer (some ⟨g1, 0, none⟩)), (3, gv t.2 (suP ⟨vs, zv, cs, (B, cq)⟩ t.1).length), (10, .int .i64 cs.length), (11, .int .i64 t.1)], gL1 t.2 ((suP ⟨vs, zv, cs, (B, cq)⟩ t.1).map (Value.int .i64)) 3, [fun W => W.heap[g1]? = some (row [.slice zv.1 vs.length zv.2, .slice B cs.length cq] 25), VS vs zv, I1 cs (B, cq)]⟩) (fun t => cs.length - t.1) (0, none) ⟨Nat.zero_le _, rfl, rfl⟩ (Pw.enter ⟨rfl, rfl, rfl, rfl, trivial⟩ (fun w h => allCons (fx h) (allCons (hv w h) (allCons (hv w h) allNil)))) ?_
  rintro ⟨i, q⟩ ⟨hi, hq⟩
  dsimp only at hi hq ⊢
  have hlen := suP_len ⟨vs, zv, cs, (B, cq)⟩ i
  repeat (first | refine Pw.runs ?_ | refine Pw.list (Pw.box rfl rfl rfl rfl (fun _ => ?_)) | refine Pw.list (Pw.alloc rfl rfl rfl rfl rfl (fun _ => ?_)))
  refine Pw.condD rfl (fun c3 => ?_) (fun c3 => ?_)
  · have hi0 : (0 : Int) ≤ (i : Int) := Int.natCast_nonneg i
    obtain ⟨c, hci, hm⟩ := get_at (show i < cs.length by omega)
    refine Pw.use (p := B.isSome = true) (fun w h => (hv w h : I1 cs (B, cq) w).has hi0 c3) (fun hA => ?_)
    obtain ⟨ad, rfl⟩ := Option.isSome_iff_exists.1 hA
    have hpk := suP_ap (s := ⟨vs, zv, cs, (some ad, cq)⟩) hci
    have hrd := get_rd hci
    have hld : ∀ w, All [fun W => W.heap[g1]? = some (row [.slice zv.1 vs.length zv.2, .slice (some ad) cs.length cq] 25), VS vs zv, I1 cs (some ad, cq)] w → w.cell? (ad.add ((i : Int).toNat * 1)) = some (.int .i64 (rd cs i)) := fun w h => (fact2 h).cell hi0 c3
    repeat (first | refine Pw.runs ?_ | refine Pw.list (Pw.box rfl rfl rfl rfl (fun _ => ?_)) | refine Pw.list (Pw.alloc rfl rfl rfl rfl rfl (fun _ => ?_)))
    refine Pw.drawnG mixed rfl rfl ?_
    refine Pw.takeF 0 (nb 9 1) rfl rfl inferInstance rfl rfl rfl (by kernel_rfl) np sf ?_
    refine Pw.takeP 1 (nb 9 3) rfl rfl rfl rfl (by kernel_rfl) np sf ?_
    refine Pw.takeF 2 (nb 9 7) rfl rfl inferInstance rfl rfl rfl (by kernel_rfl) np sf ?_
    refine Pw.takeP 3 (nb 9 15) rfl rfl rfl rfl (by kernel_rfl) np sf ?_
    refine Pw.takeIx 4 (nb 9 31) rfl rfl rfl rfl rfl (by first | assumption | omega) (by first | assumption | omega) rfl rfl (by kernel_rfl) np sf ?_
    refine Pw.takeLd 5 (nb 9 63) rfl rfl rfl (fun w hS => by first | exact own_cell (fact0 hS) (by first | assumption | omega) (by first | assumption | omega) | exact own_cellX (fact0 hS) (by first | assumption | omega) (by first | assumption | omega) | exact (fact0 hS).cell (by first | assumption | omega) (by first | assumption | omega) | exact (fact1 hS).cell (by first | assumption | omega) (by first | assumption | omega) | exact (fact2 hS).cell (by first | assumption | omega) (by first | assumption | omega) | exact (fact3 hS).cell (by first | assumption | omega) (by first | assumption | omega)) rfl rfl (by kernel_rfl) np sf ?_
    refine Pw.one 6 (nb 9 127) rfl (by kernel_rfl) ?_
    -- call Op.call { callee := Callee.value (Operand.func 67), args := #[Operand.tmp 14, Operand.tmp 19], argTypes := #[25, 3] }
    rw [hrd]
    refine Pw.call (rApprovers_ct ⟨vs, zv, cs, (some ad, cq)⟩ hW hl c) rfl rfl rfl (by kernel_rfl) rfl rfl (fun w h => ⟨(hv w h), (hv w h)⟩) ?_
    intro z2 _
    refine Pw.held sf ?_
    refine Pw.takeP 7 (nb 9 255) rfl rfl rfl rfl (by kernel_rfl) np sf ?_
    refine Pw.takeP 8 (nb 9 511) rfl rfl rfl rfl (by kernel_rfl) np sf ?_
    refine Pw.done (by kernel_rfl) ?_
    repeat (first | refine Pw.runs ?_ | refine Pw.list (Pw.box rfl rfl rfl rfl (fun _ => ?_)) | refine Pw.list (Pw.alloc rfl rfl rfl rfl rfl (fun _ => ?_)))
    refine Pw.condD rfl (fun c4 => ?_) (fun c4 => ?_)
    · rw [if_pos c4] at hpk
      repeat (first | refine Pw.runs ?_ | refine Pw.list (Pw.box rfl rfl rfl rfl (fun _ => ?_)) | refine Pw.list (Pw.alloc rfl rfl rfl rfl rfl (fun _ => ?_)))
      refine Pw.list (Pw.indexS rfl rfl rfl rfl hi0 c3 rfl rfl ?_)
      refine Pw.list (Pw.load1 rfl rfl (fun w hs => (hv w hs.all : I1 cs (some ad, cq) w).cell hi0 c3) rfl rfl ?_)
      rw [hrd]
      repeat (first | refine Pw.runs ?_ | refine Pw.list (Pw.box rfl rfl rfl rfl (fun _ => ?_)) | refine Pw.list (Pw.alloc rfl rfl rfl rfl rfl (fun _ => ?_)))
      refine Pw.list (Pw.lit1 rfl rfl rfl rfl rfl rfl rfl rfl rfl (fun g2 => ?_))
      refine freeHead ?_
      refine Pw.list (Pw.push (s := q) (news := [.int .i64 c]) rfl rfl rfl rfl rfl rfl rfl hq rfl (fun u hu => by rw [List.mem_singleton.1 hu]; rfl) (fun w hs j u hu => by
        have h1 : w.heap[g2]? = some (row [.int .i64 c] 3) := fact0 hs.all
        rw [add_none, cell_of_blk h1]
        simpa using hu) (by omega) (by simp only [maxLen]; omega) (by show ((suP _ i).length + 1) * 8 ≤ _; omega) rfl rfl (fun q' hq' => ?_))
      repeat (first | refine Pw.runs ?_ | refine Pw.list (Pw.box rfl rfl rfl rfl (fun _ => ?_)) | refine Pw.list (Pw.alloc rfl rfl rfl rfl rfl (fun _ => ?_)))
      refine Pw.re (d := 11) (v' := .int .i64 ((i + 1 : Nat) : Int)) rfl (congrArg (Value.int .i64) (i64s (by omega) htop)) ?_
      have e1 : (suP ⟨vs, zv, cs, (some ad, cq)⟩ (i + 1)).length = (suP ⟨vs, zv, cs, (some ad, cq)⟩ i).length + 1 := by rw [hpk]; simp
      have e2 : (suP ⟨vs, zv, cs, (some ad, cq)⟩ (i + 1)).map (Value.int .i64) = (suP ⟨vs, zv, cs, (some ad, cq)⟩ i).map (Value.int .i64) ++ [.int .i64 c] := by rw [hpk]; simp
      exact Pw.again (i + 1, q') ⟨by show i + 1 ≤ cs.length; omega, by rw [e1, e2]; exact hq'⟩ (by show cs.length - (i + 1) < cs.length - i; omega) ⟨rfl, by rw [e1]; rfl, rfl, rfl, trivial⟩ (by rw [e2]) (fun w h => allCons (fx h) (allCons (hv w h) (allCons (hv w h) allNil)))
    · rw [if_neg c4] at hpk
      repeat (first | refine Pw.runs ?_ | refine Pw.list (Pw.box rfl rfl rfl rfl (fun _ => ?_)) | refine Pw.list (Pw.alloc rfl rfl rfl rfl rfl (fun _ => ?_)))
      refine Pw.re (d := 11) (v' := .int .i64 ((i + 1 : Nat) : Int)) rfl (congrArg (Value.int .i64) (i64s (by omega) htop)) ?_
      exact Pw.again (i + 1, q) ⟨by show i + 1 ≤ cs.length; omega, by rw [hpk]; exact hq⟩ (by show cs.length - (i + 1) < cs.length - i; omega) ⟨rfl, by rw [hpk]; rfl, rfl, rfl, trivial⟩ (by rw [hpk]) (fun w h => allTail h)
  · have hall := suP_all (s := ⟨vs, zv, cs, (B, cq)⟩) (i := i) (by show cs.length ≤ i; omega)
    rw [hall] at hq hlen ⊢
    refine Pw.freeG hq (fun A' cq' e hc => ?_)
    rw [e]
    repeat (first | refine Pw.runs ?_ | refine Pw.list (Pw.box rfl rfl rfl rfl (fun _ => ?_)) | refine Pw.list (Pw.alloc rfl rfl rfl rfl rfl (fun _ => ?_)))
    exact Pw.ret_ (x := (A', cq')) (.tmp rfl .nil) rfl trivial (fun w h => ints_of_cells hc (by simp only [maxLen]; omega) (fact0 h))
end Go.Proofs.Wk
/- The document's snapshots: seats; the total. -/
namespace Go.Proofs.Wk
open Go.RowKit
set_option maxRecDepth 100000
set_option maxHeartbeats 4000000
attribute [local irreducible] Pw OpG
set_option linter.unusedVariables false
set_option linter.unusedSimpArgs false
def seatsI (s : Sn) (m : Int) : Int := if ((suL s).length : Int) < (if m < 0 then 0 else m) then ((suL s).length : Int) else (if m < 0 then 0 else m)
theorem rSeats_ct (s : Sn) (hW : snW s) (hl : s.vs.length ≤ 1000000) (hl2 : s.cs.length ≤ 1000000) (m : Int) : Ct Try.prog 18 #[snV s, .int .i64 m] (snF s) (fun _ : Unit => .int .i64 (seatsI s m)) Tt (fun _ _ => True) := by
  refine Ct.start Try.func18 rfl rfl (slots_of rfl slots2) (fun D w0 => ?_)
  try refine Pw.run ?_
  refine Pw.list (Pw.box rfl rfl rfl rfl (fun g2 => freeHead ?_))
  repeat (first | refine Pw.runs ?_ | refine Pw.list (Pw.box rfl rfl rfl rfl (fun _ => ?_)) | refine Pw.list (Pw.alloc rfl rfl rfl rfl rfl (fun _ => ?_)))
  refine Pw.list (Pw.bmax rfl rfl rfl rfl ?_)
  repeat (first | refine Pw.runs ?_ | refine Pw.list (Pw.box rfl rfl rfl rfl (fun _ => ?_)) | refine Pw.list (Pw.alloc rfl rfl rfl rfl rfl (fun _ => ?_)))
  refine Pw.list (Pw.call (rSupported_ct s hW hl hl2) rfl rfl rfl (by kernel_rfl) rfl rfl (fun w h => (hv w h)) ?_)
  intro z _
  repeat (first | refine Pw.runs ?_ | refine Pw.list (Pw.box rfl rfl rfl rfl (fun _ => ?_)) | refine Pw.list (Pw.alloc rfl rfl rfl rfl rfl (fun _ => ?_)))
  refine Pw.list (Pw.bmin rfl rfl rfl rfl ?_)
  repeat (first | refine Pw.runs ?_ | refine Pw.list (Pw.box rfl rfl rfl rfl (fun _ => ?_)) | refine Pw.list (Pw.alloc rfl rfl rfl rfl rfl (fun _ => ?_)))
  exact Pw.ret_ (x := ()) (.tmp rfl .nil) (congrArg (Value.int .i64) (by unfold seatsI; (repeat' split) <;> omega)) trivial (fun w h => by trivial)
end Go.Proofs.Wk
/- Elections: awake of chapter eleven; the law PhragmenSupports. -/
namespace Go.Proofs.Wk
open Go.RowKit
set_option maxRecDepth 100000
set_option maxHeartbeats 4000000
attribute [local irreducible] Pw OpG
set_option linter.unusedVariables false
set_option linter.unusedSimpArgs false
theorem eawake_ct : Ct Try.prog 7 #[] (fun _ => True) (fun _ : Unit => .bool true) Tt (fun _ _ => True) := by
  refine Ct.start Try.func7 rfl rfl (slots_of rfl slots0) (fun D w0 => ?_)
  repeat (first | refine Pw.runs ?_ | refine Pw.list (Pw.box rfl rfl rfl rfl (fun _ => ?_)) | refine Pw.list (Pw.alloc rfl rfl rfl rfl rfl (fun _ => ?_)))
  refine Pw.list (Pw.lit1 rfl rfl rfl rfl rfl rfl rfl rfl rfl (fun g5 => freeHead ?_))
  repeat (first | refine Pw.runs ?_ | refine Pw.list (Pw.box rfl rfl rfl rfl (fun _ => ?_)) | refine Pw.list (Pw.alloc rfl rfl rfl rfl rfl (fun _ => ?_)))
  refine Pw.list (Pw.lit13 rfl rfl rfl rfl rfl rfl rfl rfl rfl (fun g7 => freeHead ?_))
  repeat (first | refine Pw.runs ?_ | refine Pw.list (Pw.box rfl rfl rfl rfl (fun _ => ?_)) | refine Pw.list (Pw.alloc rfl rfl rfl rfl rfl (fun _ => ?_)))
  refine Pw.list (Pw.lit1 rfl rfl rfl rfl rfl rfl rfl rfl rfl (fun g8 => freeHead ?_))
  repeat (first | refine Pw.runs ?_ | refine Pw.list (Pw.box rfl rfl rfl rfl (fun _ => ?_)) | refine Pw.list (Pw.alloc rfl rfl rfl rfl rfl (fun _ => ?_)))
  refine Pw.list (Pw.call (Elect1_ct (some ⟨g5, 0, none⟩, 1) (some ⟨g7, 0, none⟩, 1) (some ⟨g8, 0, none⟩, 1)) rfl rfl rfl (by kernel_rfl) rfl rfl (fun w h => ⟨rows_of_row (l := [(⟨1, 5, [2], (some ⟨g5, 0, none⟩, 1)⟩ : Vtr)]) (ex := []) (by rw [List.append_nil]; exact fact1 h) (fun y hy => by rw [List.mem_singleton.1 hy]; rfl) (fun y hy => by
    rw [List.mem_singleton.1 hy]
    exact ints_of_row' (l := [2]) (fact2 h) (by simp) (by simp [maxLen])) (by simp) (by simp [maxLen]) (by omega), ints_of_row' (l := [2]) (fact0 h) (by simp) (by simp [maxLen])⟩) ?_)
  rintro ⟨gs, caps, v⟩ _
  repeat (first | refine Pw.runs ?_ | refine Pw.list (Pw.box rfl rfl rfl rfl (fun _ => ?_)) | refine Pw.list (Pw.alloc rfl rfl rfl rfl rfl (fun _ => ?_)))
  refine Pw.list (Pw.indexS rfl rfl rfl rfl (Int.le_refl 0) (by show (0 : Int) < 1; omega) rfl rfl ?_)
  refine Pw.list (Pw.fieldS rfl rfl rfl rfl rfl rfl rfl ?_)
  refine Pw.list (Pw.load1 (v := .int .i64 2) rfl rfl (fun w hs => fact0 hs.all) rfl rfl ?_)
  repeat (first | refine Pw.runs ?_ | refine Pw.list (Pw.box rfl rfl rfl rfl (fun _ => ?_)) | refine Pw.list (Pw.alloc rfl rfl rfl rfl rfl (fun _ => ?_)))
  exact Pw.ret_ (x := ()) (.tmp rfl .nil) rfl trivial (fun w h => by trivial)
end Go.Proofs.Wk
/- Elections: psephoslaw11's Shares and Same walked. -/
namespace Go.Proofs.Wk
open Go.RowKit
set_option maxRecDepth 100000
set_option maxHeartbeats 4000000
attribute [local irreducible] Pw OpG
set_option linter.unusedVariables false
set_option linter.unusedSimpArgs false
theorem sz_dI {p q : Int} {a : Nat} (h0 : 0 ≤ p) (hp : p < pw a) (h1 : 0 < q) (hq : q < pw a) : Sz a (Rat.divInt p q) := by
  have h := num_le_divInt h0 h1
  exact ⟨Rat.divInt_nonneg h0 (by omega), by omega, by omega⟩
end Go.Proofs.Wk
/- The law PhragmenIdle walked. -/
namespace Go.Proofs.Wk
open Go.RowKit
set_option maxRecDepth 100000
set_option maxHeartbeats 8000000
attribute [local irreducible] Pw OpG
set_option linter.unusedVariables false
set_option linter.unusedSimpArgs false
/-- The same ones are elected: their keys agree. -/
theorem seat_at {l : List On} {S : Est} (h : l.map (fun o => (o.at_, o.a, o.b)) = S.se.map seatQ) {i : Nat} {o : On} (ho : l[i]? = some o) : ∃ y, S.se[i]? = some y ∧ o.at_ = y.1 ∧ o.a = qn (Rat.divInt y.2.1 y.2.2) ∧ o.b = qd (Rat.divInt y.2.1 y.2.2) := by
  have h1 : (l.map (fun o => (o.at_, o.a, o.b)))[i]? = (S.se.map seatQ)[i]? := by rw [h]
  rw [List.getElem?_map, List.getElem?_map, ho] at h1
  cases e : S.se[i]? with
  | none => rw [e] at h1; cases h1
  | some y =>
    rw [e] at h1
    have h2 := Option.some.inj h1
    obtain ⟨h3, h4⟩ := Prod.mk.inj h2
    obtain ⟨h4, h5⟩ := Prod.mk.inj h4
    exact ⟨y, rfl, h3, h4, h5⟩
theorem run_se {vs : List Vtr} {cs : List Int} : ∀ (k : Nat) (S : Est), (runE vs cs k S).se.length ≤ S.se.length + k
  | 0, S => Nat.le_refl _
  | k + 1, S => by
    unfold runE
    cases hr : rnd vs cs S with
    | none => show S.se.length ≤ _; omega
    | some S' =>
      have h1 := run_se (vs := vs) (cs := cs) k S'
      have h2 : S'.se.length = S.se.length + 1 := by
        unfold rnd at hr
        cases hb : best vs S cs with
        | none => rw [hb] at hr; cases hr
        | some b =>
          rw [hb] at hr
          rw [← Option.some.inj hr]
          show (S.se ++ [_]).length = _
          simp
      show (runE vs cs k S').se.length ≤ _
      omega
theorem elect_se (vs : List Vtr) (cs : List Int) (k : Nat) : (electE vs cs k).se.length ≤ k := by
  have := run_se (vs := vs) (cs := cs) k (begE vs)
  have h : (begE vs).se.length = 0 := rfl
  unfold electE
  omega
theorem os_len {s : Sn} {k : Int} {y : Ea} (h : eaOk s k y) (h8 : k ≤ 8) : y.os.length ≤ 8 := by
  have h1 := congrArg List.length h.1
  rw [List.length_map, List.length_map] at h1
  have := elect_se s.vs s.cs k.toNat
  omega
theorem shRow_len (vs : List Vtr) (S : Est) (cs : List Int) (i : Nat) : (shRow vs S cs i).length ≤ cs.length := by
  unfold shRow; exact List.length_filterMap_le ..
theorem shTo_len (vs : List Vtr) (S : Est) (cs : List Int) : ∀ i, (shTo vs cs S i).length ≤ cs.length * i
  | 0 => Nat.le_refl _
  | i + 1 => by
    rw [shTo_succ, List.length_append, Nat.mul_succ]
    have := shTo_len vs S cs i
    have := shRow_len vs S cs i
    omega
theorem sh_len {s : Sn} {k : Int} {y : Ea} (h : eaOk s k y) (h1 : s.vs.length ≤ 32) (h2 : s.cs.length ≤ 32) : y.sh.length ≤ 1024 := by
  have h3 := congrArg List.length h.2
  rw [List.length_map] at h3
  have h4 := shTo_len s.vs (electE s.vs s.cs k.toNat) s.cs s.vs.length
  have h5 : s.cs.length * s.vs.length ≤ 32 * 32 := Nat.mul_le_mul h2 h1
  omega
/-- Bounds of a share's weight. -/
theorem edge_mem {l : List (Int × Int × Int)} {c : Int} {x : Int × Int} (h : edgeOf l c = some x) : (c, x.1, x.2) ∈ l := by
  unfold edgeOf at h
  cases e : l.find? (fun x => decide (x.1 = c)) with
  | none => rw [e] at h; cases h
  | some y =>
    rw [e] at h
    have h1 := List.mem_of_find?_eq_some e
    have h2 : y.1 = c := by simpa using List.find?_some e
    have h3 : y.2 = x := Option.some.inj h
    rw [← h2, ← h3]; exact h1
theorem share_sz {vs : List Vtr} {a : Nat} {S : Est} (hV : VOk vs) (hS : EOk vs a S) {i : Nat} {c : Int} {w : Rat} (h : shareOf vs S i c = some w) : Sz (a + a + 2) w := by
  unfold shareOf at h
  cases e : edgeOf ((S.ed[i]?).getD []) c with
  | none => rw [e] at h; cases h
  | some x =>
    rw [e] at h
    have h1 := edge_mem e
    cases hl : S.ed[i]? with
    | none => rw [hl] at h1; cases h1
    | some l =>
      rw [hl] at h1
      have h1 : (c, x.1, x.2) ∈ l := h1
      obtain ⟨h2, h3⟩ := hS.e0 i l hl
      obtain ⟨q1, q2, q3, q4⟩ := h2 _ h1
      dsimp only at q1 q2 q3 q4
      have q5 := h3 (fun e => by rw [e] at h1; cases h1)
      have q6 := (hS.at i).2
      have hi : i < vs.length := by rw [← hS.el]; exact (List.getElem?_eq_some_iff.1 hl).1
      have s0 := hV.s i
      have s1 : st vs i < pw 2 := by have := st_le hV hi; have := hV.t; have := pw_two; omega
      have d0 := hS.d0
      have d1 := hS.d1
      rw [← Option.some.inj h]
      have m1 := mul_lt_pw (m := a) (n := 2) q1 q2 s1 s0
      have m0 : 0 ≤ x.1 * st vs i := Int.mul_nonneg q1 s0
      have m2 := mul_lt_pw (m := a + 2) (n := a) m0 m1 d1 (by omega)
      have m3 := mul_lt_pw (m := a) (n := a) (a := x.2) (b := at0 S.ld i) (by omega) q4 q6 (by omega)
      exact sz_dI (Int.mul_nonneg m0 (by omega)) (lt_pw_le m2 (by omega)) (Int.mul_pos q3 q5) (lt_pw_le m3 (by omega))
theorem sh_ok {vs : List Vtr} {cs : List Int} {a : Nat} {S : Est} (hV : VOk vs) (hS : EOk vs a S) (ha : a ≤ 100) {n : Nat} {sh : List Shr} (h : sh.map shK = shTo vs cs S n) : ∀ s ∈ sh, ∃ i c w, shareOf vs S i c = some w ∧ s.v = vid vs i ∧ s.c = c ∧ s.a = qn w ∧ s.b = qd w ∧ Sz (a + a + 2) w := by
  intro s hs
  have h1 : shK s ∈ shTo vs cs S n := by rw [← h]; exact List.mem_map_of_mem hs
  unfold shTo shRow shOne at h1
  obtain ⟨i, _, h2⟩ := List.mem_flatMap.1 h1
  obtain ⟨c, _, h3⟩ := List.mem_filterMap.1 h2
  cases hw : shareOf vs S i c with
  | none => rw [hw] at h3; cases h3
  | some w =>
    rw [hw] at h3
    have h4 := Option.some.inj h3
    obtain ⟨e1, h4⟩ := Prod.mk.inj h4
    obtain ⟨e2, h4⟩ := Prod.mk.inj h4
    obtain ⟨e3, e4⟩ := Prod.mk.inj h4
    exact ⟨i, c, w, hw, e1.symm, e2.symm, e3.symm, e4.symm, share_sz hV hS hw⟩
end Go.Proofs.Wk
/- Elections: all stakes so many times as great (plain). -/
namespace Go.Proofs.Wk
open Go.RowKit
set_option linter.unusedVariables false
set_option linter.unusedSimpArgs false
/-- How a state scales: K is m to the rounds' number. -/
structure ScR (m K : Int) (S S' : Est) : Prop where
  d : S'.D = K * S.D
  l : ∀ i, m * at0 S'.ld i = K * at0 S.ld i
  n : S'.ld.length = S.ld.length
  s : S'.se.map Prod.fst = S.se.map Prod.fst
  q : ∀ (i : Nat) (y y' : Int × Int × Int), S.se[i]? = some y → S'.se[i]? = some y' → y'.2.1 * m * y.2.2 = y.2.1 * y'.2.2
theorem at0_load_map {l : List Nat} {v k : Int} {ld : List Int} (i : Nat) (h : ∀ j ∈ l, j < ld.length) : at0 (loadTo l v (ld.map (· * k))) i = if i ∈ l then v else at0 ld i * k := by
  rcases Nat.lt_or_ge i ld.length with hi | hi
  · rw [at0_load (by rw [List.length_map]; exact hi), at0_mul]
  · have h1 : i ∉ l := fun hm => by have := h i hm; omega
    rw [if_neg h1, ← at0_mul]
    unfold at0
    rw [loadTo_get, List.getElem?_eq_none (by rw [List.length_map]; omega)]; rfl
end Go.Proofs.Wk
/- Elections: what holds after each round (plain): scores rise, loads' sums, what is given. -/
namespace Go.Proofs.Wk
open Go.RowKit
set_option linter.unusedVariables false
set_option linter.unusedSimpArgs false
/-! ### The best one is the best -/
def BestP (vs : List Vtr) (S : Est) (b : Bs) (seen : List Int) : Prop := match b with
  | none => ∀ c ∈ seen, elig vs S c = false
  | some (_, l, y) => 0 < y ∧ ∀ c ∈ seen, elig vs S c = true → l * scT vs (ap vs c) ≤ scN S.D vs S.ld (ap vs c) * y
theorem bestP_step {vs : List Vtr} (hV : VOk vs) {S : Est} {b : Bs} {seen : List Int} (h : BestP vs S b seen) (c : Int) : BestP vs S (seek vs S b c) (seen ++ [c]) := by
  unfold seek
  cases he : elig vs S c
  · rw [if_neg Bool.false_ne_true]
    obtain _ | ⟨c', l, y⟩ := b
    · intro d hd
      rcases List.mem_append.1 hd with hd | hd
      · exact h d hd
      · rw [List.mem_singleton.1 hd]; exact he
    · refine ⟨h.1, fun d hd hde => ?_⟩
      rcases List.mem_append.1 hd with hd | hd
      · exact h.2 d hd hde
      · rw [List.mem_singleton.1 hd, he] at hde; cases hde
  · rw [if_pos rfl]
    have hT := scT_pos hV (elig_ap he)
    obtain _ | ⟨c', l, y⟩ := b
    · show BestP vs S (some (c, _, _)) _
      refine ⟨hT, fun d hd hde => ?_⟩
      rcases List.mem_append.1 hd with hd | hd
      · rw [h d hd] at hde; cases hde
      · rw [List.mem_singleton.1 hd]; exact Int.le_refl _
    · show BestP vs S (if decide (scN S.D vs S.ld (ap vs c) * y < l * scT vs (ap vs c)) = true then _ else _) _
      obtain ⟨h1, h2⟩ := h
      by_cases hlt : scN S.D vs S.ld (ap vs c) * y < l * scT vs (ap vs c)
      · rw [if_pos (decide_eq_true hlt)]
        refine ⟨hT, fun d hd hde => ?_⟩
        rcases List.mem_append.1 hd with hd | hd
        · have h3 := h2 d hd hde
          have hTd := scT_pos hV (elig_ap hde)
          generalize scN S.D vs S.ld (ap vs c) = su at *
          generalize scT vs (ap vs c) = sk at *
          generalize scN S.D vs S.ld (ap vs d) = N at *
          generalize scT vs (ap vs d) = T at *
          have a1 : su * y * T ≤ l * sk * T := Int.mul_le_mul_of_nonneg_right (by omega) (by omega)
          have a2 : l * T * sk ≤ N * y * sk := Int.mul_le_mul_of_nonneg_right h3 (by omega)
          refine Int.le_of_mul_le_mul_right (a := y) ?_ h1
          have e1 : su * T * y = su * y * T := by grind
          have e2 : N * sk * y = N * y * sk := by grind
          have e3 : l * sk * T = l * T * sk := by grind
          omega
        · rw [List.mem_singleton.1 hd]; exact Int.le_refl _
      · rw [if_neg (by simpa using hlt)]
        refine ⟨h1, fun d hd hde => ?_⟩
        rcases List.mem_append.1 hd with hd | hd
        · exact h2 d hd hde
        · rw [List.mem_singleton.1 hd]; omega
theorem bestP_all {vs : List Vtr} (hV : VOk vs) (S : Est) (cs : List Int) : BestP vs S (best vs S cs) cs := by
  have key : ∀ (l seen : List Int) (b : Bs), BestP vs S b seen → BestP vs S (l.foldl (seek vs S) b) (seen ++ l) := by
    intro l
    induction l with
    | nil => intro seen b h; rw [List.append_nil]; exact h
    | cons c l ih =>
      intro seen b h
      have h1 := ih (seen ++ [c]) _ (bestP_step hV h c)
      rwa [List.append_assoc] at h1
  have h0 : BestP vs S none [] := fun c hc => by cases hc
  exact key cs [] none h0
/-! ### Sums -/
theorem sumL_add (f g : Nat → Int) (l : List Nat) : sumL (fun i => f i + g i) l = sumL f l + sumL g l := by
  induction l with
  | nil => rfl
  | cons i l ih => rw [sumL_cons, sumL_cons, sumL_cons, ih]; omega
theorem sumL_if (p : Nat → Bool) (f : Nat → Int) (l : List Nat) : sumL (fun i => if p i = true then f i else 0) l = sumL f (l.filter p) := by
  induction l with
  | nil => rfl
  | cons i l ih =>
    rw [sumL_cons, ih, List.filter_cons]
    cases p i
    · simp
    · simp only [if_true]; rw [sumL_cons]
def apP2 (vs : List Vtr) (c : Int) (i : Nat) : Bool := decide (0 < st vs i) && decide (c ∈ pks vs i)
theorem ap_p {vs : List Vtr} {c : Int} {i : Nat} (hi : i < vs.length) : i ∈ ap vs c ↔ apP2 vs c i = true := by
  rw [ap_mem]; unfold apP2; simp [hi]
/-- A voter's load behind a round. -/
theorem ld_next {vs : List Vtr} {S : Est} (hl : S.ld.length = vs.length) {c N T : Int} {i : Nat} (hi : i < vs.length) : at0 (nextE vs S c N T).ld i = at0 S.ld i * T + (if apP2 vs c i = true then N - at0 S.ld i * T else 0) := by
  show at0 (loadTo (ap vs c) N (S.ld.map (· * T))) i = _
  rw [at0_load_map i (fun j hj => by rw [hl]; exact ap_lt j hj)]
  by_cases h : apP2 vs c i = true
  · rw [if_pos ((ap_p hi).2 h), if_pos h]; omega
  · rw [if_neg (fun hm => h ((ap_p hi).1 hm)), if_neg h]; omega
theorem ld_next_le {vs : List Vtr} {S : Est} (hl : S.ld.length = vs.length) {c N T σ : Int} (hT : 0 ≤ T) (hN : σ * T ≤ N) (hσ : ∀ i, at0 S.ld i ≤ σ) (i : Nat) : at0 (nextE vs S c N T).ld i ≤ N ∧ at0 S.ld i * T ≤ at0 (nextE vs S c N T).ld i := by
  show at0 (loadTo (ap vs c) N (S.ld.map (· * T))) i ≤ N ∧ _ ≤ at0 (loadTo (ap vs c) N (S.ld.map (· * T))) i
  rw [at0_load_map i (fun j hj => by rw [hl]; exact ap_lt j hj)]
  have h1 : at0 S.ld i * T ≤ σ * T := Int.mul_le_mul_of_nonneg_right (hσ i) hT
  split
  · exact ⟨Int.le_refl _, by omega⟩
  · exact ⟨by omega, Int.le_refl _⟩
theorem sum_next {vs : List Vtr} {S : Est} (hl : S.ld.length = vs.length) {c N T : Int} (l : List Nat) (hi : ∀ i ∈ l, i < vs.length) : sumL (fun i => at0 (nextE vs S c N T).ld i * st vs i) l = T * sumL (fun i => at0 S.ld i * st vs i) l + sumL (fun i => (N - at0 S.ld i * T) * st vs i) (l.filter (apP2 vs c)) := by
  rw [← sumL_mul, ← sumL_if, ← sumL_add]
  refine sumL_congr fun i h => ?_
  rw [ld_next hl (hi i h)]
  split <;> grind
theorem gain_ap (vs : List Vtr) (S : Est) (c : Int) : sumL (fun i => (scN S.D vs S.ld (ap vs c) - at0 S.ld i * scT vs (ap vs c)) * st vs i) (ap vs c) = scT vs (ap vs c) * S.D := by
  have h1 : sumL (fun i => (scN S.D vs S.ld (ap vs c) - at0 S.ld i * scT vs (ap vs c)) * st vs i) (ap vs c) = scN S.D vs S.ld (ap vs c) * scT vs (ap vs c) + (- scT vs (ap vs c)) * sumL (fun i => at0 S.ld i * st vs i) (ap vs c) := by
    show _ = scN S.D vs S.ld (ap vs c) * sumL (st vs) (ap vs c) + _
    rw [← sumL_mul, ← sumL_mul, ← sumL_add]
    refine sumL_congr fun i _ => ?_
    show _ = scN S.D vs S.ld (ap vs c) * st vs i + _
    grind
  rw [h1]
  have h2 : scN S.D vs S.ld (ap vs c) = S.D + sumL (fun i => at0 S.ld i * st vs i) (ap vs c) := rfl
  generalize sumL (fun i => at0 S.ld i * st vs i) (ap vs c) = Z at h2 ⊢
  rw [h2]
  grind
/-! ### What holds behind j rounds; σ: the last score, over D -/
structure Inv (vs : List Vtr) (cs : List Int) (j : Nat) (σ : Int) (S : Est) : Prop where
  lm : ∀ i, at0 S.ld i ≤ σ
  el : ∀ c ∈ cs, elig vs S c = true → σ * scT vs (ap vs c) ≤ scN S.D vs S.ld (ap vs c)
  tot : sumL (fun i => at0 S.ld i * st vs i) (List.range vs.length) = j * S.D
  len : S.se.length = j
  nd : (S.se.map Prod.fst).Nodup
  sub : ∀ y ∈ S.se, y.1 ∈ cs ∧ ap vs y.1 ≠ []
  adj : ∀ (i : Nat) (p q : Int × Int × Int), S.se[i]? = some p → S.se[i + 1]? = some q → p.2.1 * q.2.2 ≤ q.2.1 * p.2.2
  last : ∀ (i : Nat) (p : Int × Int × Int), i + 1 = j → S.se[i]? = some p → p.2.1 = σ ∧ p.2.2 = S.D
  has : ∀ y ∈ S.se, ∀ i ∈ ap vs y.1, ∃ l, S.ed[i]? = some l ∧ ∃ x ∈ l, x.1 = y.1
  dv : ∀ (i : Nat) (l : List (Int × Int × Int)), S.ed[i]? = some l → (∀ x ∈ l, x.2.2 ∣ S.D) ∧ (l.map (fun x => x.2.1 * (S.D / x.2.2))).sum = at0 S.ld i ∧ (l.map Prod.fst).Nodup
theorem inv_beg (vs : List Vtr) (cs : List Int) (hV : VOk vs) : Inv vs cs 0 0 (begE vs) := by
  have h0 : ∀ i, at0 (begE vs).ld i = 0 := fun i => by
    show (((vs.map (fun _ => (0 : Int)))[i]?).getD 0) = 0
    rw [List.getElem?_map]
    cases vs[i]? <;> rfl
  refine ⟨fun i => by rw [h0]; exact Int.le_refl _, fun c _ he => ?_, ?_, rfl, List.nodup_nil, fun y hy => (by cases hy), fun i p q hp => (by cases hp), fun i p hi => (by omega), fun y hy => (by cases hy), ?_⟩
  · rw [Int.zero_mul]
    have := (scN_ok hV (beg_ok vs) (ap_sub vs c)).1
    omega
  · have : sumL (fun i => at0 (begE vs).ld i * st vs i) (List.range vs.length) = sumL (fun i => 0 * st vs i) (List.range vs.length) := sumL_congr fun i _ => by rw [h0]
    rw [this, sumL_mul]; simp
  · intro i l hl
    have hm : l ∈ vs.map (fun _ => ([] : List (Int × Int × Int))) := List.mem_of_getElem? hl
    obtain ⟨v, _, rfl⟩ := List.mem_map.1 hm
    exact ⟨fun x hx => (by cases hx), by rw [h0]; rfl, List.nodup_nil⟩
theorem elig_not {vs : List Vtr} {S : Est} {c : Int} (h : elig vs S c = true) : ∀ y ∈ S.se, y.1 ≠ c := by
  unfold elig at h
  rw [Bool.and_eq_true, Bool.not_eq_true', Bool.not_eq_true', List.any_eq_false] at h
  intro y hy e
  have := h.2 y hy
  rw [e] at this
  simp at this
theorem elig_next {vs : List Vtr} {S : Est} {c d N T : Int} (h : elig vs (nextE vs S c N T) d = true) : elig vs S d = true ∧ d ≠ c := by
  unfold elig at h ⊢
  rw [Bool.and_eq_true, Bool.not_eq_true', Bool.not_eq_true', List.any_eq_false] at h
  have h2 : ∀ x ∈ S.se ++ [(c, N, S.D * T)], ¬ decide (x.1 = d) = true := h.2
  refine ⟨?_, fun e => ?_⟩
  · rw [Bool.and_eq_true, Bool.not_eq_true', Bool.not_eq_true', List.any_eq_false]
    exact ⟨h.1, fun x hx => h2 x (List.mem_append_left _ hx)⟩
  · have := h2 _ (List.mem_append_right _ (List.mem_singleton.2 rfl))
    simp [e] at this
theorem inv_next {vs : List Vtr} {cs : List Int} {a j : Nat} {σ : Int} {S S' : Est} (hV : VOk vs) (hS : EOk vs a S) (h : Inv vs cs j σ S) (hr : rnd vs cs S = some S') :
    ∃ c N T, best vs S cs = some (c, N, T) ∧ S' = nextE vs S c N T ∧ N = scN S.D vs S.ld (ap vs c) ∧ T = scT vs (ap vs c) ∧ 0 < T ∧ c ∈ cs ∧ elig vs S c = true ∧ σ * T ≤ N ∧ (∀ d ∈ cs, elig vs S d = true → N * scT vs (ap vs d) ≤ scN S.D vs S.ld (ap vs d) * T) ∧ Inv vs cs (j + 1) N S' := by
  unfold rnd at hr
  cases hb : best vs S cs with
  | none => rw [hb] at hr; cases hr
  | some b =>
    obtain ⟨c, N, T⟩ := b
    rw [hb] at hr
    have hr := (Option.some.inj hr).symm
    dsimp only at hr
    obtain ⟨hc, he, hN, hT⟩ := best_ok hb
    dsimp only at hc he hN hT
    have hTp : 0 < T := by rw [hT]; exact scT_pos hV (elig_ap he)
    have hσ : σ * T ≤ N := by rw [hN, hT]; exact h.el c hc he
    have hmin : ∀ d ∈ cs, elig vs S d = true → N * scT vs (ap vs d) ≤ scN S.D vs S.ld (ap vs d) * T := by
      have := bestP_all hV S cs
      rw [hb] at this
      exact this.2
    refine ⟨c, N, T, rfl, hr, hN, hT, hTp, hc, he, hσ, hmin, ?_⟩
    subst hr
    have hle := ld_next_le (c := c) hS.ll (Int.le_of_lt hTp) hσ h.lm
    have hD := hS.d0
    refine ⟨fun i => (hle i).1, fun d hd hde => ?_, ?_, ?_, ?_, ?_, ?_, ?_, ?_, ?_⟩
    · obtain ⟨h1, h2⟩ := elig_next hde
      have h3 := hmin d hd h1
      have h4 : scN S.D vs S.ld (ap vs d) * T ≤ scN (nextE vs S c N T).D vs (nextE vs S c N T).ld (ap vs d) := by
        unfold scN
        rw [Int.add_mul]
        show S.D * T + _ ≤ S.D * T + _
        have h5 : sumL (fun i => at0 S.ld i * st vs i) (ap vs d) * T = sumL (fun i => T * (at0 S.ld i * st vs i)) (ap vs d) := by rw [sumL_mul, Int.mul_comm]
        rw [h5]
        have h6 : sumL (fun i => T * (at0 S.ld i * st vs i)) (ap vs d) ≤ sumL (fun i => at0 (nextE vs S c N T).ld i * st vs i) (ap vs d) := sumL_le fun i _ => by
          have h7 : at0 S.ld i * T * st vs i ≤ at0 (nextE vs S c N T).ld i * st vs i := Int.mul_le_mul_of_nonneg_right (hle i).2 (hV.s i)
          have h8 : T * (at0 S.ld i * st vs i) = at0 S.ld i * T * st vs i := by grind
          omega
        omega
      omega
    · rw [sum_next hS.ll _ (fun i hi => List.mem_range.1 hi), h.tot]
      show T * (j * S.D) + sumL _ (ap vs c) = ((j + 1 : Nat) : Int) * (S.D * T)
      have hg := gain_ap vs S c
      rw [← hN, ← hT] at hg
      rw [hg]
      push_cast
      grind
    · show (S.se ++ [_]).length = j + 1
      rw [List.length_append, h.len]; rfl
    · show ((S.se ++ [_]).map Prod.fst).Nodup
      rw [List.map_append, List.nodup_append]
      refine ⟨h.nd, by simp, fun x hx y hy => ?_⟩
      obtain ⟨z, hz, rfl⟩ := List.mem_map.1 hx
      rw [List.mem_singleton.1 hy]
      exact elig_not he z hz
    · intro y hy
      rcases List.mem_append.1 hy with hy | hy
      · exact h.sub y hy
      · rw [List.mem_singleton.1 hy]; exact ⟨hc, elig_ap he⟩
    · intro i p q hp hq
      have hp : (S.se ++ [(c, N, S.D * T)])[i]? = some p := hp
      have hq : (S.se ++ [(c, N, S.D * T)])[i + 1]? = some q := hq
      rcases Nat.lt_or_ge (i + 1) S.se.length with hi | hi
      · rw [List.getElem?_append_left (by omega)] at hp
        rw [List.getElem?_append_left hi] at hq
        exact h.adj i p q hp hq
      · rw [List.getElem?_append_right hi] at hq
        cases hj : i + 1 - S.se.length with
        | succ n => rw [hj] at hq; cases hq
        | zero =>
          rw [hj] at hq
          rw [← Option.some.inj hq]
          rw [List.getElem?_append_left (by omega)] at hp
          obtain ⟨e1, e2⟩ := h.last i p (by have := h.len; omega) hp
          show p.2.1 * (S.D * T) ≤ N * p.2.2
          rw [e1, e2]
          have := Int.mul_le_mul_of_nonneg_right hσ (Int.le_of_lt hD)
          have e3 : σ * (S.D * T) = σ * T * S.D := by grind
          omega
    · intro i p hi hp
      have hp : (S.se ++ [(c, N, S.D * T)])[i]? = some p := hp
      have hl := h.len
      rw [List.getElem?_append_right (by omega), show i - S.se.length = 0 by omega] at hp
      rw [← Option.some.inj hp]
      exact ⟨rfl, rfl⟩
    · intro y hy i hi
      show ∃ l, (giveTo (ap vs c) c N (S.D * T) (S.ld.map (· * T)) S.ed)[i]? = some l ∧ _
      rw [giveTo_get]
      rcases List.mem_append.1 hy with hy | hy
      · obtain ⟨l, hl, x, hx, e⟩ := h.has y hy i hi
        rw [hl]
        refine ⟨_, rfl, x, ?_, e⟩
        split
        · exact List.mem_append_left _ hx
        · exact hx
      · rw [List.mem_singleton.1 hy] at hi ⊢
        have hlt := ap_lt i hi
        rw [List.getElem?_eq_getElem (by rw [hS.el]; exact hlt)]
        refine ⟨_, rfl, (c, sub0 N (at0 (S.ld.map (· * T)) i), S.D * T), ?_, rfl⟩
        show _ ∈ (if i ∈ ap vs c then _ else _)
        rw [if_pos hi]
        exact List.mem_append_right _ (List.mem_singleton.2 rfl)
    · intro i l hl
      have hl : (giveTo (ap vs c) c N (S.D * T) (S.ld.map (· * T)) S.ed)[i]? = some l := hl
      rw [giveTo_get] at hl
      cases e : S.ed[i]? with
      | none => rw [e] at hl; cases hl
      | some m =>
        rw [e] at hl
        have hi : i < vs.length := by rw [← hS.el]; exact (List.getElem?_eq_some_iff.1 e).1
        obtain ⟨d1, d2, d3⟩ := h.dv i m e
        have hl := (Option.some.inj hl).symm
        have dvd : ∀ x ∈ m, x.2.2 ∣ S.D * T := fun x hx => Int.dvd_mul_of_dvd_left (d1 x hx)
        have hsum : (m.map (fun x => x.2.1 * (S.D * T / x.2.2))).sum = at0 S.ld i * T := by
          rw [← d2]
          have : ∀ m : List (Int × Int × Int), (∀ x ∈ m, x.2.2 ∣ S.D) → (m.map (fun x => x.2.1 * (S.D * T / x.2.2))).sum = (m.map (fun x => x.2.1 * (S.D / x.2.2))).sum * T := by
            intro m
            induction m with
            | nil => intro _; simp
            | cons x m ih =>
              intro hm
              rw [List.map_cons, List.map_cons, List.sum_cons, List.sum_cons, ih (fun y hy => hm y (List.mem_cons_of_mem _ hy)), Int.add_mul, Int.mul_ediv_assoc' T (hm x (List.mem_cons_self ..)), Int.mul_assoc]
          exact this m d1
        have hld : at0 (nextE vs S c N T).ld i = if i ∈ ap vs c then N else at0 S.ld i * T := at0_load_map i (fun j hj => by rw [hS.ll]; exact ap_lt j hj)
        rw [hld]
        show (∀ x ∈ l, x.2.2 ∣ S.D * T) ∧ (l.map (fun x => x.2.1 * (S.D * T / x.2.2))).sum = _ ∧ _
        dsimp only at hl
        by_cases hm : i ∈ ap vs c
        · rw [if_pos hm] at hl ⊢
          have hDT : S.D * T ≠ 0 := by have := Int.mul_pos hD hTp; omega
          subst hl
          refine ⟨fun x hx => ?_, ?_, ?_⟩
          · rcases List.mem_append.1 hx with hx | hx
            · exact dvd x hx
            · rw [List.mem_singleton.1 hx]; exact Int.dvd_refl _
          · rw [List.map_append, List.sum_append, hsum]
            show at0 S.ld i * T + (List.map _ [(c, sub0 N (at0 (S.ld.map (· * T)) i), S.D * T)]).sum = N
            rw [List.map_cons, List.map_nil, List.sum_cons, List.sum_nil]
            show at0 S.ld i * T + (sub0 N (at0 (S.ld.map (· * T)) i) * (S.D * T / (S.D * T)) + 0) = N
            rw [Int.ediv_self hDT, at0_mul]
            have h9 : at0 S.ld i * T ≤ N := by
              have := Int.mul_le_mul_of_nonneg_right (h.lm i) (Int.le_of_lt hTp)
              omega
            unfold sub0
            rw [if_neg (by omega)]; omega
          · rw [List.map_append, List.nodup_append]
            refine ⟨d3, by simp, fun x hx y hy => ?_⟩
            obtain ⟨z, hz, rfl⟩ := List.mem_map.1 hx
            rw [List.mem_singleton.1 hy]
            obtain ⟨w, hw, e2⟩ := hS.k0 i m e z hz
            rw [← e2]
            exact elig_not he w hw
        · rw [if_neg hm] at hl ⊢
          subst hl
          exact ⟨dvd, hsum, d3⟩
theorem runE_snoc (vs : List Vtr) (cs : List Int) : ∀ (k : Nat) (S : Est), runE vs cs (k + 1) S = (rnd vs cs (runE vs cs k S)).getD (runE vs cs k S)
  | 0, S => by
    show (match rnd vs cs S with | none => S | some S' => runE vs cs 0 S') = _
    show _ = (rnd vs cs S).getD S
    cases rnd vs cs S <;> rfl
  | k + 1, S => by
    show (match rnd vs cs S with | none => S | some S' => runE vs cs (k + 1) S') = (rnd vs cs (match rnd vs cs S with | none => S | some S' => runE vs cs k S')).getD (match rnd vs cs S with | none => S | some S' => runE vs cs k S')
    cases h : rnd vs cs S with
    | none => show S = (rnd vs cs S).getD S; rw [h]; rfl
    | some S' => exact runE_snoc vs cs k S'
theorem elect_snoc (vs : List Vtr) (cs : List Int) (k : Nat) : electE vs cs (k + 1) = (rnd vs cs (electE vs cs k)).getD (electE vs cs k) := runE_snoc vs cs k _
/-- Behind all rounds: as many as were asked, or none is left. -/
theorem elect_inv {vs : List Vtr} (hV : VOk vs) (cs : List Int) : ∀ k, ∃ j σ, Inv vs cs j σ (electE vs cs k) ∧ j ≤ k ∧ (j = k ∨ rnd vs cs (electE vs cs k) = none)
  | 0 => ⟨0, 0, inv_beg vs cs hV, Nat.le_refl _, .inl rfl⟩
  | k + 1 => by
    obtain ⟨j, σ, h, hj, hk⟩ := elect_inv hV cs k
    rw [elect_snoc]
    cases hr : rnd vs cs (electE vs cs k) with
    | none =>
      refine ⟨j, σ, h, by omega, .inr ?_⟩
      exact hr
    | some S' =>
      have hjk : j = k := hk.resolve_right (by rw [hr]; simp)
      obtain ⟨c, N, T, _, _, _, _, _, _, _, _, _, hi⟩ := inv_next hV (elect_ok hV cs k) h hr
      exact ⟨j + 1, N, hi, by omega, .inl (by omega)⟩
theorem rnd_none {vs : List Vtr} (hV : VOk vs) {cs : List Int} {S : Est} (h : rnd vs cs S = none) : ∀ c ∈ cs, elig vs S c = false := by
  unfold rnd at h
  have h1 := bestP_all hV S cs
  cases hb : best vs S cs with
  | none => rw [hb] at h1; exact h1
  | some b => rw [hb] at h; cases h
end Go.Proofs.Wk
/- Elections: no group is due more than it has; all seats are filled; whoever gives gives its stake (plain). -/
namespace Go.Proofs.Wk
open Go.RowKit
set_option linter.unusedVariables false
set_option linter.unusedSimpArgs false
/-! ### Groups -/
end Go.Proofs.Wk
/- The document's Fair: the plain law on lists. -/
namespace Go.Proofs.Wk
open Go.RowKit
set_option linter.unusedVariables false
set_option linter.unusedSimpArgs false
theorem nodup_len : ∀ {l m : List Int}, l.Nodup → (∀ x ∈ l, x ∈ m) → l.length ≤ m.length
  | [], m, _, _ => Nat.zero_le _
  | x :: l, m, h, hs => by
    have hx := hs x (List.mem_cons_self ..)
    obtain ⟨h1, h2⟩ := List.nodup_cons.1 h
    have h3 := nodup_len (m := m.erase x) h2 (fun y hy => (List.mem_erase_of_ne (fun e => h1 (by rw [← e]; exact hy))).2 (hs y (List.mem_cons_of_mem _ hy)))
    rw [List.length_erase_of_mem hx] at h3
    have := List.length_pos_of_mem hx
    rw [List.length_cons]; omega
end Go.Proofs.Wk
/- Elections: seats are filled; whoever gives gives its stake (plain). -/
namespace Go.Proofs.Wk
open Go.RowKit
set_option linter.unusedVariables false
set_option linter.unusedSimpArgs false
/-! ### Seats -/
theorem su_ap {s : Sn} (hF : formB s = true) {c : Int} (hc : c ∈ s.cs) : c ∈ suL s ↔ ap s.vs c ≠ [] := by
  unfold suL
  rw [List.mem_filter, decide_eq_true_eq]
  constructor
  · rintro ⟨_, h⟩ he
    obtain ⟨k, hk⟩ := List.exists_mem_of_length_pos h
    unfold apL at hk
    obtain ⟨v, hv, _⟩ := List.mem_map.1 hk
    obtain ⟨hv1, hv2⟩ := List.mem_filter.1 hv
    obtain ⟨i, hi⟩ := List.getElem?_of_mem hv1
    rw [pk_ap hF hi] at hv2
    unfold pkB at hv2
    rw [Bool.and_eq_true, Bool.and_eq_true, decide_eq_true_eq, decide_eq_true_eq, decide_eq_true_eq] at hv2
    have : i ∈ ap s.vs c := ap_mem.2 ⟨(List.getElem?_eq_some_iff.1 hi).1, by unfold st; rw [hi]; exact hv2.1, by unfold pks; rw [hi]; exact hv2.2.2⟩
    rw [he] at this; cases this
  · intro h
    refine ⟨hc, ?_⟩
    obtain ⟨i, l, e⟩ := List.exists_cons_of_ne_nil h
    have hi : i ∈ ap s.vs c := by rw [e]; exact List.mem_cons_self ..
    obtain ⟨h1, h2, h3⟩ := ap_mem.1 hi
    obtain ⟨v, hv, hm⟩ := get_at h1
    have hst : st s.vs i = v.st := by unfold st; rw [hv]; rfl
    have hpk : pks s.vs i = v.pk := by unfold pks; rw [hv]; rfl
    rw [hst] at h2
    rw [hpk] at h3
    unfold apL
    rw [List.length_map]
    refine List.length_pos_of_mem (List.mem_filter.2 ⟨hm, ?_⟩)
    rw [pk_ap hF hv]
    unfold pkB
    rw [decide_eq_true h2, decide_eq_true hc, decide_eq_true h3]; rfl
theorem elect_seats {s : Sn} (hW : snW s) (hF : formB s = true) (k : Nat) : (((electE s.vs s.cs k).se.length : Nat) : Int) = seatsI s k := by
  have hV := vok_of hW hF
  obtain ⟨l1, l2, l3, l4⟩ := formB_all hF
  have hcs := ris_nodup l3
  obtain ⟨j, σ, hI, hj, hk⟩ := elect_inv hV s.cs k
  have hl := hI.len
  have h1 : ((electE s.vs s.cs k).se.map Prod.fst).length ≤ (suL s).length := nodup_len hI.nd fun c hc => by
    obtain ⟨y, hy, rfl⟩ := List.mem_map.1 hc
    have := hI.sub y hy
    exact (su_ap hF this.1).2 this.2
  rw [List.length_map] at h1
  have h2 : j = k ∨ (suL s).length ≤ j := by
    rcases hk with hk | hk
    · exact .inl hk
    · right
      have h3 : (suL s).length ≤ ((electE s.vs s.cs k).se.map Prod.fst).length := nodup_len (hcs.sublist List.filter_sublist) fun c hc => by
        have hc1 : c ∈ s.cs := (List.mem_filter.1 hc).1
        have h4 := rnd_none hV hk c hc1
        have h5 := (su_ap hF hc1).1 hc
        unfold elig at h4
        cases hh : (ap s.vs c).isEmpty
        · rw [hh] at h4
          have h6 : ((electE s.vs s.cs k).se.any fun x => decide (x.1 = c)) = true := by simpa using h4
          obtain ⟨y, hy, e⟩ := List.any_eq_true.1 h6
          rw [← of_decide_eq_true e]; exact List.mem_map_of_mem hy
        · exact absurd (List.isEmpty_iff.1 hh) h5
      rw [List.length_map] at h3; omega
  unfold seatsI
  rw [hl] at h1 ⊢
  (repeat' split) <;> omega
theorem divInt_le {p q p' q' : Int} (hq : 0 < q) (hq' : 0 < q') (h : p * q' ≤ p' * q) : Rat.divInt p q ≤ Rat.divInt p' q' := by
  rw [Rat.le_iff_sub_nonneg, Rat.divInt_sub_divInt _ _ (by omega) (by omega)]
  exact Rat.divInt_nonneg (by omega) (Int.le_of_lt (Int.mul_pos hq' hq))
theorem cmpQ_le {x y : Rat} (h : x ≤ y) : ¬ cmpQ x y > 0 := by
  unfold cmpQ
  split
  · omega
  · next h1 =>
    split
    · omega
    · next h2 => exact absurd (Rat.le_antisymm h (Rat.not_lt.1 h1)) h2
theorem fm_congr {α β : Type} {f g : α → Option β} : ∀ {l : List α}, (∀ x ∈ l, f x = g x) → l.filterMap f = l.filterMap g
  | [], _ => rfl
  | x :: l, h => by
    have ih := fm_congr (l := l) fun y hy => h y (List.mem_cons_of_mem _ hy)
    rw [List.filterMap_cons, List.filterMap_cons, h x (List.mem_cons_self ..), ih]
/-! ### What a voter gives -/
def wsL (vs : List Vtr) (S : Est) (cs : List Int) (i : Nat) : List Rat := cs.filterMap (shareOf vs S i)
def esI (D : Int) (l : List (Int × Int × Int)) (cs : List Int) : List Int := cs.filterMap (fun c => (edgeOf l c).map (fun x => x.1 * (D / x.2)))
theorem edge_cons (x : Int × Int × Int) (l : List (Int × Int × Int)) (c : Int) : edgeOf (x :: l) c = if x.1 = c then some x.2 else edgeOf l c := by
  unfold edgeOf
  rw [List.find?_cons]
  by_cases h : x.1 = c
  · rw [if_pos h, decide_eq_true h]; rfl
  · rw [if_neg h, decide_eq_false h]
theorem edge_none {l : List (Int × Int × Int)} {c : Int} (h : c ∉ l.map Prod.fst) : edgeOf l c = none := by
  unfold edgeOf
  rw [Option.map_eq_none_iff, List.find?_eq_none]
  intro x hx
  have : x.1 ≠ c := fun e => h (by rw [← e]; exact List.mem_map_of_mem hx)
  simpa using this
def optI (o : Option Int) : Int := o.getD 0
theorem sum_fm (f : Int → Option Int) : ∀ cs : List Int, (cs.filterMap f).sum = (cs.map (fun c => optI (f c))).sum
  | [] => rfl
  | c :: cs => by
    rw [List.map_cons, List.sum_cons, ← sum_fm f cs]
    cases e : f c with
    | none => rw [List.filterMap_cons_none e]; show _ = 0 + _; omega
    | some x => rw [List.filterMap_cons_some e, List.sum_cons]; rfl
theorem sum_one {f h : Int → Int} {a v : Int} : ∀ {cs : List Int}, cs.Nodup → a ∈ cs → (∀ c, c ≠ a → f c = h c) → f a = v → h a = 0 → (cs.map f).sum = v + (cs.map h).sum
  | [], _, ha, _, _, _ => by cases ha
  | c :: cs, hn, ha, h1, h2, h3 => by
    obtain ⟨n1, n2⟩ := List.nodup_cons.1 hn
    rw [List.map_cons, List.map_cons, List.sum_cons, List.sum_cons]
    by_cases hc : c = a
    · subst hc
      rw [h2, h3]
      have : cs.map f = cs.map h := List.map_congr_left fun d hd => h1 d (fun e => n1 (by rw [← e]; exact hd))
      rw [this]; omega
    · rcases List.mem_cons.1 ha with e | ha
      · exact absurd e.symm hc
      · rw [h1 c hc, sum_one n2 ha h1 h2 h3]; omega
theorem esI_sum {D : Int} {cs : List Int} (hn : cs.Nodup) : ∀ {l : List (Int × Int × Int)}, (l.map Prod.fst).Nodup → (∀ x ∈ l, x.1 ∈ cs) → (esI D l cs).sum = (l.map (fun x => x.2.1 * (D / x.2.2))).sum
  | [], _, _ => by
    unfold esI
    rw [sum_fm]
    have : (cs.map fun c => optI ((edgeOf [] c).map (fun x => x.1 * (D / x.2)))) = cs.map (fun _ => (0 : Int)) := List.map_congr_left fun c _ => rfl
    rw [this]
    have h0 : ∀ l : List Int, (l.map (fun _ => (0 : Int))).sum = 0 := by
      intro l; induction l with
      | nil => rfl
      | cons _ _ ih => rw [List.map_cons, List.sum_cons, ih]; rfl
    rw [h0]; rfl
  | x :: l, hl, hs => by
    rw [List.map_cons] at hl
    obtain ⟨n1, n2⟩ := List.nodup_cons.1 hl
    have ih := esI_sum hn n2 (fun y hy => hs y (List.mem_cons_of_mem _ hy)) (D := D)
    rw [List.map_cons, List.sum_cons, ← ih]
    unfold esI
    rw [sum_fm, sum_fm]
    refine sum_one (a := x.1) hn (hs x (List.mem_cons_self ..)) (fun c hc => ?_) ?_ ?_
    · rw [edge_cons, if_neg (fun e => hc e.symm)]
    · rw [edge_cons, if_pos rfl]; rfl
    · rw [edge_none n1]; rfl
theorem sum_take_le {l : List Int} (h : ∀ x ∈ l, 0 ≤ x) (m : Nat) : 0 ≤ (l.take m).sum ∧ (l.take m).sum ≤ l.sum := by
  have nn : ∀ l : List Int, (∀ x ∈ l, 0 ≤ x) → 0 ≤ l.sum := by
    intro l
    induction l with
    | nil => intro _; exact Int.le_refl _
    | cons x r ih => intro hl; rw [List.sum_cons]; have := hl x (List.mem_cons_self ..); have := ih (fun y hy => hl y (List.mem_cons_of_mem _ hy)); omega
  refine ⟨nn _ fun x hx => h x (List.mem_of_mem_take hx), ?_⟩
  have e : l.sum = (l.take m).sum + (l.drop m).sum := by rw [← List.sum_append, List.take_append_drop]
  have := nn (l.drop m) fun x hx => h x (List.mem_of_mem_drop hx)
  omega
theorem sum_div {k d : Int} (hd : 0 < d) : ∀ l : List Int, (l.map (fun E => Rat.divInt (E * k) d)).sum = Rat.divInt (l.sum * k) d
  | [] => by simp
  | E :: l => by
    rw [List.map_cons, List.sum_cons, List.sum_cons, sum_div hd l, Rat.divInt_add_divInt _ _ (by omega) (by omega), Rat.divInt_eq_div, Rat.divInt_eq_div]
    have h1 : (d : Rat) ≠ 0 := by intro e; have := Rat.intCast_inj.1 (e.trans Rat.intCast_zero.symm); omega
    simp only [Rat.intCast_mul, Rat.intCast_add]
    grind
theorem ws_eq {vs : List Vtr} {S : Est} {cs : List Int} {i : Nat} {l : List (Int × Int × Int)} (hl : S.ed[i]? = some l) (hd : ∀ x ∈ l, x.2.2 ∣ S.D ∧ 0 < x.2.2) (hld : l ≠ [] → 0 < at0 S.ld i) : wsL vs S cs i = (esI S.D l cs).map (fun E => Rat.divInt (E * st vs i) (at0 S.ld i)) := by
  unfold wsL esI
  rw [List.map_filterMap]
  refine fm_congr fun c _ => ?_
  unfold shareOf
  rw [hl]
  show Option.map _ (edgeOf l c) = _
  cases e : edgeOf l c with
  | none => rfl
  | some x =>
    have hm := edge_mem e
    obtain ⟨⟨q, hq⟩, hp⟩ := hd _ hm
    dsimp only at hq hp
    have h0 := hld (fun e => by rw [e] at hm; cases hm)
    simp only [Option.map_some, Option.some.injEq]
    rw [hq, Int.mul_ediv_cancel_left _ (by omega)]
    rw [show x.1 * st vs i * (x.2 * q) = x.2 * (x.1 * q * st vs i) by grind, Rat.divInt_mul_left (by omega)]
theorem ws_sum {s : Sn} (hW : snW s) (hF : formB s = true) (k : Nat) (hk : k ≤ 8) {i : Nat} (hi : i < s.vs.length) (m : Nat) : Sz 27 ((wsL s.vs (electE s.vs s.cs k) s.cs i).take m).sum ∧ (wsL s.vs (electE s.vs s.cs k) s.cs i ≠ [] → (wsL s.vs (electE s.vs s.cs k) s.cs i).sum = ((st s.vs i : Int) : Rat)) := by
  have hV := vok_of hW hF
  obtain ⟨l1, l2, l3, l4⟩ := formB_all hF
  have hcs := ris_nodup l3
  obtain ⟨j, σ, hI, hj, _⟩ := elect_inv hV s.cs k
  have hS := elect_ok hV s.cs k
  obtain ⟨l, hl, _⟩ := get_at (show i < (electE s.vs s.cs k).ed.length by rw [hS.el]; exact hi)
  obtain ⟨d1, d2, d3⟩ := hI.dv i l hl
  obtain ⟨e1, e2⟩ := hS.e0 i l hl
  have hin : ∀ x ∈ l, x.1 ∈ s.cs := fun x hx => by
    obtain ⟨y, hy, e⟩ := hS.k0 i l hl x hx
    rw [← e]; exact (hI.sub y hy).1
  have hws := ws_eq (vs := s.vs) (cs := s.cs) hl (fun x hx => ⟨d1 x hx, (e1 x hx).2.2.1⟩) e2
  rw [hws]
  have hes : ∀ E ∈ esI (electE s.vs s.cs k).D l s.cs, 0 ≤ E := fun E hE => by
    obtain ⟨c, _, e⟩ := List.mem_filterMap.1 hE
    cases h : edgeOf l c with
    | none => rw [h] at e; cases e
    | some x =>
      rw [h] at e
      rw [← Option.some.inj e]
      have hx := e1 _ (edge_mem h)
      exact Int.mul_nonneg hx.1 (Int.ediv_nonneg (Int.le_of_lt hS.d0) (Int.le_of_lt hx.2.2.1))
  have htot := esI_sum (D := (electE s.vs s.cs k).D) hcs d3 hin
  rw [d2] at htot
  have hpre := sum_take_le hes m
  rw [htot] at hpre
  by_cases hne : l = []
  · have h0 : esI (electE s.vs s.cs k).D l s.cs = [] := by
      rw [hne]; unfold esI
      rw [List.filterMap_eq_nil_iff]; intro c _; rfl
    rw [h0]
    exact ⟨by rw [List.map_nil, List.take_nil]; exact sz_0 27 (by omega), fun h => absurd rfl h⟩
  · have hp := e2 hne
    have hs0 := hV.s i
    have hs1 : st s.vs i < pw 2 := by have := st_le hV hi; have := hV.t; have := pw_two; omega
    have hlt := (hS.at i).2
    rw [← List.map_take, sum_div hp, sum_div hp, htot]
    refine ⟨sz_dI (Int.mul_nonneg hpre.1 hs0) (lt_pw_le (mul_lt_pw (m := 1 + 3 * k) (n := 2) hpre.1 (by omega) hs1 hs0) (by omega)) hp (lt_pw_le hlt (by omega)), fun _ => ?_⟩
    rw [Rat.divInt_eq_div]
    have h1 : ((at0 (electE s.vs s.cs k).ld i : Int) : Rat) ≠ 0 := by intro e; have := Rat.intCast_inj.1 (e.trans Rat.intCast_zero.symm); omega
    rw [Rat.intCast_mul]
    grind
/-! ### Shares of one voter -/
theorem share_nn {vs : List Vtr} {a : Nat} {S : Est} (hV : VOk vs) (hS : EOk vs a S) {i : Nat} {c : Int} {w : Rat} (h : shareOf vs S i c = some w) : 0 ≤ w := (share_sz hV hS h).p
def ofV (id : Int) (l : List Shr) : List Shr := l.filter (fun s => decide (s.v = id))
theorem filter_flat {α : Type} (p : α → Bool) (f : Nat → List α) (n i : Nat) (hi : i < n) (h1 : ∀ x ∈ f i, p x = true) (h2 : ∀ j, j < n → j ≠ i → ∀ x ∈ f j, p x = false) : ((List.range n).flatMap f).filter p = f i := by
  have key : ∀ m, m ≤ n → ((List.range m).flatMap f).filter p = if i < m then f i else [] := by
    intro m
    induction m with
    | zero => intro _; rfl
    | succ m ih =>
      intro hm
      rw [List.range_succ, List.flatMap_append, List.filter_append, ih (by omega)]
      show _ ++ ([m].flatMap f).filter p = _
      have e : [m].flatMap f = f m := by simp
      rw [e]
      by_cases hmi : m = i
      · subst hmi
        rw [if_neg (by omega), if_pos (by omega), List.filter_eq_self.2 h1]; rfl
      · have h3 : (f m).filter p = [] := by
          rw [List.filter_eq_nil_iff]; intro x hx; rw [h2 m (by omega) hmi x hx]; exact Bool.false_ne_true
        rw [h3, List.append_nil]
        by_cases hlt : i < m
        · rw [if_pos hlt, if_pos (by omega)]
        · rw [if_neg hlt, if_neg (by omega)]
  rw [key n (Nat.le_refl _), if_pos hi]
theorem ids_ne {s : Sn} (hF : formB s = true) {i j : Nat} (hi : i < s.vs.length) (hj : j < s.vs.length) (h : i ≠ j) : vid s.vs i ≠ vid s.vs j := by
  have key : ∀ i j, i < j → j < s.vs.length → vid s.vs i ≠ vid s.vs j := fun i j hij hj e => by
    obtain ⟨_, _, _, h4⟩ := formB_spec hF
    obtain ⟨u, hu, _⟩ := get_at (show i < s.vs.length by omega)
    obtain ⟨v, hv, _⟩ := get_at hj
    have h5 := ((vOk_iff hv).1 (h4 j hj)).2.1
    have e1 : vid s.vs i = u.id := by unfold vid; rw [hu]; rfl
    have e2 : vid s.vs j = v.id := by unfold vid; rw [hv]; rfl
    refine h5 ?_
    rw [← e2, ← e, e1]
    exact List.mem_map_of_mem (List.mem_of_getElem? (i := i) (by rw [List.getElem?_take, if_pos hij]; exact hu))
  rcases Nat.lt_or_gt_of_ne h with h | h
  · exact key i j h hj
  · exact fun e => key j i h hi e.symm
theorem ofV_row {s : Sn} (hF : formB s = true) {S : Est} {sh : List Shr} (h : sh.map shK = shTo s.vs s.cs S s.vs.length) {i : Nat} (hi : i < s.vs.length) : (ofV (vid s.vs i) sh).map shK = shRow s.vs S s.cs i := by
  have e1 : (ofV (vid s.vs i) sh).map shK = (sh.map shK).filter (fun e => decide (e.1 = vid s.vs i)) := by
    unfold ofV
    rw [List.filter_map]; rfl
  rw [e1, h]
  unfold shTo
  refine filter_flat _ _ _ _ hi (fun x hx => ?_) (fun j hj hji x hx => ?_)
  · unfold shRow shOne at hx
    obtain ⟨c, _, e⟩ := List.mem_filterMap.1 hx
    cases hw : shareOf s.vs S i c with
    | none => rw [hw] at e; cases e
    | some w => rw [hw] at e; rw [← Option.some.inj e]; exact decide_eq_true rfl
  · unfold shRow shOne at hx
    obtain ⟨c, _, e⟩ := List.mem_filterMap.1 hx
    cases hw : shareOf s.vs S j c with
    | none => rw [hw] at e; cases e
    | some w => rw [hw] at e; rw [← Option.some.inj e]; exact decide_eq_false (ids_ne hF hj hi hji)
def wts (l : List Shr) : List Rat := l.map (fun s => rv s.a s.b)
theorem row_wts {vs : List Vtr} {a : Nat} {S : Est} (hV : VOk vs) (hS : EOk vs a S) {cs : List Int} {i : Nat} {l : List Shr} (h : l.map shK = shRow vs S cs i) : wts l = wsL vs S cs i := by
  have e1 : wts l = (l.map shK).map (fun e => rv e.2.2.1 e.2.2.2) := by unfold wts; rw [List.map_map]; rfl
  rw [e1, h]
  unfold shRow wsL
  rw [List.map_filterMap]
  refine fm_congr fun c _ => ?_
  unfold shOne
  cases hw : shareOf vs S i c with
  | none => rfl
  | some w => simp only [Option.map_some]; rw [rv_q (share_nn hV hS hw)]
theorem ofV_take {id : Int} {l : List Shr} {k : Nat} {x : Shr} (h : l[k]? = some x) : ofV id (l.take (k + 1)) = ofV id (l.take k) ++ (if x.v = id then [x] else []) := by
  unfold ofV
  rw [take_snoc h, List.filter_append, List.filter_cons, List.filter_nil]
  congr 1
  by_cases hx : x.v = id
  · rw [if_pos hx, if_pos (decide_eq_true hx)]
  · rw [if_neg hx, if_neg (by simpa using hx)]
theorem ofV_prefix (id : Int) (l : List Shr) (k : Nat) : ofV id (l.take k) = (ofV id l).take (ofV id (l.take k)).length := by
  have e : ofV id l = ofV id (l.take k) ++ ofV id (l.drop k) := by unfold ofV; rw [← List.filter_append, List.take_append_drop]
  rw [e, List.take_left]
theorem row_has {vs : List Vtr} {S : Est} {cs : List Int} {i : Nat} {c : Int} (hc : c ∈ cs) (h : ∃ l, S.ed[i]? = some l ∧ ∃ x ∈ l, x.1 = c) : shRow vs S cs i ≠ [] := by
  obtain ⟨l, hl, x, hx, e⟩ := h
  have h1 : ∃ y, edgeOf l c = some y := by
    unfold edgeOf
    cases hf : l.find? (fun x => decide (x.1 = c)) with
    | none => have := List.find?_eq_none.1 hf x hx; simp [e] at this
    | some y => exact ⟨_, rfl⟩
  obtain ⟨y, hy⟩ := h1
  intro h0
  unfold shRow at h0
  rw [List.filterMap_eq_nil_iff] at h0
  have := h0 c hc
  unfold shOne shareOf at this
  rw [hl] at this
  have h2 : Option.map (fun w => (vid vs i, c, qn w, qd w)) (Option.map (fun x : Int × Int => Rat.divInt (x.1 * st vs i * S.D) (x.2 * at0 S.ld i)) (edgeOf l c)) = none := this
  rw [hy] at h2; cases h2
end Go.Proofs.Wk
/- The law PhragmenScaled walked. -/
namespace Go.Proofs.Wk
open Go.RowKit
set_option maxRecDepth 100000
set_option maxHeartbeats 8000000
attribute [local irreducible] Pw OpG
set_option linter.unusedVariables false
set_option linter.unusedSimpArgs false
end Go.Proofs.Wk
/- Fractions: whole numbers; the same ones. -/
namespace Go.Proofs.Wk
open Go.RowKit
set_option maxRecDepth 100000
set_option maxHeartbeats 4000000
attribute [local irreducible] Pw OpG
set_option linter.unusedVariables false
set_option linter.unusedSimpArgs false
theorem fracN_ct {n : Int} (h : 0 ≤ n) (h' : n ≤ 18446744073709551615) : Ct Try.prog 21 #[.int .u64 n, .int .u64 1] (fun _ => True) (fun z : Z2 => qt (n : Rat) z) Tt (fun z => QW (n : Rat) z) := by
  have l1 := ofN_len n; have l2 := ofN_len 1
  refine Ct.start Try.func21 rfl rfl (slots_of rfl slots2) (fun D w0 => ?_)
  repeat (first | refine Pw.runs ?_ | refine Pw.list (Pw.box rfl rfl rfl rfl (fun _ => ?_)) | refine Pw.list (Pw.alloc rfl rfl rfl rfl rfl (fun _ => ?_)))
  refine Pw.list (Pw.call (rOf_ct n) rfl rfl rfl (by kernel_rfl) rfl rfl (fun w h => trivial) ?_)
  intro z1 _
  repeat (first | refine Pw.runs ?_ | refine Pw.list (Pw.box rfl rfl rfl rfl (fun _ => ?_)) | refine Pw.list (Pw.alloc rfl rfl rfl rfl rfl (fun _ => ?_)))
  refine Pw.list (Pw.call (rOf_ct 1) rfl rfl rfl (by kernel_rfl) rfl rfl (fun w h => trivial) ?_)
  intro z2 _
  repeat (first | refine Pw.runs ?_ | refine Pw.list (Pw.box rfl rfl rfl rfl (fun _ => ?_)) | refine Pw.list (Pw.alloc rfl rfl rfl rfl rfl (fun _ => ?_)))
  have hc := lowest_ct (ofN n) (ofN 1) z1 z2 (ofN_fm n) (ofN_fm 1) ofN1_len (by omega) (by omega)
  have e : lowS (ofN n) (ofN 1) = (qn (n : Rat), qd (n : Rat)) := by
    rw [ofN_natL h h', ofN_natL (by omega) (by omega), q_low h (by omega), show Rat.divInt n 1 = (n : Rat) by rw [Rat.divInt_eq_div]; grind]
  rw [e] at hc
  refine Pw.list (Pw.call hc rfl rfl rfl (by kernel_rfl) rfl rfl (fun w h => ⟨fact1 h, fact0 h⟩) ?_)
  intro z _
  repeat (first | refine Pw.runs ?_ | refine Pw.list (Pw.box rfl rfl rfl rfl (fun _ => ?_)) | refine Pw.list (Pw.alloc rfl rfl rfl rfl rfl (fun _ => ?_)))
  exact Pw.ret_ (x := z) (.cell rfl (fun w hs => hs.own _ (.head _)) rfl .nil) rfl trivial (fun w h => fact0 h)
theorem qSame_ct {x : Rat} {m : Nat} (hx : Sz m x) (hm : m ≤ 400) (y z : Z2) : Ct Try.prog 20 #[qt x y, qt x z] (fun W => QW x y W ∧ QW x z W) (fun _ : Unit => .bool true) Tt (fun _ _ => True) := by
  have h1 := hx.ln; have h2 := hx.ld
  exact rat_Same_ct (qn x) (qd x) y z (natL_fm _) (natL_fm _) (by omega) (by omega)
end Go.Proofs.Wk
/- The law PhragmenRises walked. -/
namespace Go.Proofs.Wk
open Go.RowKit
set_option maxRecDepth 100000
set_option maxHeartbeats 8000000
attribute [local irreducible] Pw OpG
set_option linter.unusedVariables false
set_option linter.unusedSimpArgs false
theorem PhragmenRises_ct (s : Sn) (hW : snW s) (k : Int) (hk : 0 ≤ k ∧ k ≤ 255) :
    Ct Try.prog 6 #[snV s, .int .u8 k] (snF s) (fun _ : Unit => .bool true) Tt (fun _ _ => True) := by
  refine Ct.start Try.func6 rfl rfl (slots_of rfl slots2) (fun D w0 => ?_)
  try refine Pw.run ?_
  refine Pw.list (Pw.box rfl rfl rfl rfl (fun g2 => freeHead ?_))
  repeat (first | refine Pw.runs ?_ | refine Pw.list (Pw.box rfl rfl rfl rfl (fun _ => ?_)) | refine Pw.list (Pw.alloc rfl rfl rfl rfl rfl (fun _ => ?_)))
  refine Pw.list (Pw.call eawake_ct rfl rfl rfl (by kernel_rfl) rfl rfl (fun w h => trivial) ?_)
  intro _ _
  repeat (first | refine Pw.runs ?_ | refine Pw.list (Pw.box rfl rfl rfl rfl (fun _ => ?_)) | refine Pw.list (Pw.alloc rfl rfl rfl rfl rfl (fun _ => ?_)))
  refine Pw.list (Pw.call (Small_ct s) rfl rfl rfl (by kernel_rfl) rfl rfl (fun w h => (hv w h)) ?_)
  intro r hr
  cases r
  · repeat (first | refine Pw.runs ?_ | refine Pw.list (Pw.box rfl rfl rfl rfl (fun _ => ?_)) | refine Pw.list (Pw.alloc rfl rfl rfl rfl rfl (fun _ => ?_)))
    refine Pw.list (Pw.call eawake_ct rfl rfl rfl (by kernel_rfl) rfl rfl (fun w h => trivial) ?_)
    intro _ _
    repeat (first | refine Pw.runs ?_ | refine Pw.list (Pw.box rfl rfl rfl rfl (fun _ => ?_)) | refine Pw.list (Pw.alloc rfl rfl rfl rfl rfl (fun _ => ?_)))
    exact Pw.ret_ (x := ()) (.tmp rfl .nil) rfl trivial (fun w h => by trivial)
  repeat (first | refine Pw.runs ?_ | refine Pw.list (Pw.box rfl rfl rfl rfl (fun _ => ?_)) | refine Pw.list (Pw.alloc rfl rfl rfl rfl rfl (fun _ => ?_)))
  refine Pw.list (Pw.call (dFormed_ct s hW) rfl rfl rfl (by kernel_rfl) rfl rfl (fun w h => (hv w h)) ?_)
  intro _ _
  cases hF : formB s
  · repeat (first | refine Pw.runs ?_ | refine Pw.list (Pw.box rfl rfl rfl rfl (fun _ => ?_)) | refine Pw.list (Pw.alloc rfl rfl rfl rfl rfl (fun _ => ?_)))
    refine Pw.list (Pw.call eawake_ct rfl rfl rfl (by kernel_rfl) rfl rfl (fun w h => trivial) ?_)
    intro _ _
    repeat (first | refine Pw.runs ?_ | refine Pw.list (Pw.box rfl rfl rfl rfl (fun _ => ?_)) | refine Pw.list (Pw.alloc rfl rfl rfl rfl rfl (fun _ => ?_)))
    exact Pw.ret_ (x := ()) (.tmp rfl .nil) rfl trivial (fun w h => by trivial)
  have k0 : 0 ≤ k.tmod 9 := Int.tmod_nonneg 9 hk.1
  have k8 : k.tmod 9 ≤ 8 := by have := Int.tmod_lt_of_pos k (show (0 : Int) < 9 by omega); omega
  obtain ⟨l1, l2, l3, l4⟩ := formB_all hF
  have hV := vok_of hW hF
  have hS := elect_ok hV s.cs (k.tmod 9).toNat
  obtain ⟨jj, σ, hI, hjj, _⟩ := elect_inv hV s.cs (k.tmod 9).toNat
  have hseats := elect_seats hW hF (k.tmod 9).toNat
  rw [Int.toNat_of_nonneg k0] at hseats
  repeat (first | refine Pw.runs ?_ | refine Pw.list (Pw.box rfl rfl rfl rfl (fun _ => ?_)) | refine Pw.list (Pw.alloc rfl rfl rfl rfl rfl (fun _ => ?_)))
  refine Pw.re (d := 34) (v' := .int .i64 (k.tmod 9)) rfl (congrArg (Value.int .i64) (wi64 (by omega) (by omega))) ?_
  repeat (first | refine Pw.runs ?_ | refine Pw.list (Pw.box rfl rfl rfl rfl (fun _ => ?_)) | refine Pw.list (Pw.alloc rfl rfl rfl rfl rfl (fun _ => ?_)))
  refine Pw.list (Pw.call (ElectF_ct s (k.tmod 9) hW hF k0 k8) rfl rfl rfl (by kernel_rfl) rfl rfl (fun w h => (hv w h)) ?_)
  intro y1 hy1
  have hl1 := os_len hy1 k8
  have hos := hy1.1
  have hsh := hy1.2
  have hn1 := sh_len hy1 l1 l2
  have hshok := sh_ok hV hS (by omega) hy1.2
  have hol := congrArg List.length hos
  rw [List.length_map, List.length_map] at hol
  have hws := fun i hi m => ws_sum hW hF (k.tmod 9).toNat (by omega) (i := i) hi m
  generalize hEE : electE s.vs s.cs (k.tmod 9).toNat = S at *
  obtain ⟨os, ⟨Ao, co⟩, sh, zs⟩ := y1
  dsimp only at hl1 hos hsh hn1 hshok hol ⊢
  have hseat : ∀ (i : Nat) (o : On), os[i]? = some o → ∃ y : Int × Int × Int, S.se[i]? = some y ∧ o.at_ = y.1 ∧ o.a = qn (Rat.divInt y.2.1 y.2.2) ∧ o.b = qd (Rat.divInt y.2.1 y.2.2) := fun i o h => seat_at hos h
  repeat (first | refine Pw.runs ?_ | refine Pw.list (Pw.box rfl rfl rfl rfl (fun _ => ?_)) | refine Pw.list (Pw.alloc rfl rfl rfl rfl rfl (fun _ => ?_)))
  refine Pw.re (d := 47) (v' := .int .i64 (k.tmod 9)) rfl (congrArg (Value.int .i64) (wi64 (by omega) (by omega))) ?_
  refine Pw.list (Pw.call (rSeats_ct s hW (by omega) (by omega) (k.tmod 9)) rfl rfl rfl (by kernel_rfl) rfl rfl (fun w h => (hv w h)) ?_)
  intro _ _
  repeat (first | refine Pw.runs ?_ | refine Pw.list (Pw.box rfl rfl rfl rfl (fun _ => ?_)) | refine Pw.list (Pw.alloc rfl rfl rfl rfl rfl (fun _ => ?_)))
  refine Pw.re (d := 50) (v' := .bool false) rfl (congrArg Value.bool (decide_eq_false (by rw [← hseats, hol]; exact fun h => h rfl))) ?_
  repeat (first | refine Pw.runs ?_ | refine Pw.list (Pw.box rfl rfl rfl rfl (fun _ => ?_)) | refine Pw.list (Pw.alloc rfl rfl rfl rfl rfl (fun _ => ?_)))
  refine Pw.loopJ (σ := Nat) (fun i => i ≤ os.length) (fun i => ⟨[(2, .pointer (some ⟨g2, 0, none⟩)), (5, .slice Ao os.length co), (6, ssV sh zs), (52, .int .i64 os.length), (53, .int .i64 i)], [], [OS os (Ao, co), SS sh zs, snF s, fun W => W.heap[g2]? = some (row [.slice s.zv.1 s.vs.length s.zv.2, sl s.cs s.zc] 25)]⟩) (fun i => os.length - i) 0 (Nat.zero_le _) (Pw.enter ⟨rfl, rfl, rfl, rfl, rfl, trivial⟩ (fun w h => allCons (hv (φ := fun W => OS os (Ao, co) W ∧ SS sh zs W) w h).1 (allCons (hv (φ := fun W => OS os (Ao, co) W ∧ SS sh zs W) w h).2 (allCons (hv w h) (allCons (fx h) allNil))))) ?_
  rintro i hi
  dsimp only at hi ⊢
  repeat (first | refine Pw.runs ?_ | refine Pw.list (Pw.box rfl rfl rfl rfl (fun _ => ?_)) | refine Pw.list (Pw.alloc rfl rfl rfl rfl rfl (fun _ => ?_)))
  refine Pw.condD rfl (fun c3 => ?_) (fun c3 => ?_)
  · have hi0 : (0 : Int) ≤ (i : Int) := Int.natCast_nonneg i
    obtain ⟨o, ho, hom⟩ := get_at (show i < os.length by omega)
    obtain ⟨y, hy, e1, e2, e3⟩ := hseat i o ho
    refine Pw.use (p := Ao.isSome = true) (fun w h => (fact0 h).has hi0 c3) (fun hA => ?_)
    obtain ⟨ad, rfl⟩ := Option.isSome_iff_exists.1 hA
    repeat (first | refine Pw.runs ?_ | refine Pw.list (Pw.box rfl rfl rfl rfl (fun _ => ?_)) | refine Pw.list (Pw.alloc rfl rfl rfl rfl rfl (fun _ => ?_)))
    refine Pw.joinQ (σ := Unit) (fun _ => True) (fun _ => ⟨[(2, .pointer (some ⟨g2, 0, none⟩)), (5, .slice (some ad) os.length co), (6, ssV sh zs), (8, .int .i64 i), (52, .int .i64 os.length), (53, .int .i64 i), (72, .bool false)], [], [OS os (some ad, co), SS sh zs, snF s, fun W => W.heap[g2]? = some (row [.slice s.zv.1 s.vs.length s.zv.2, sl s.cs s.zc] 25)]⟩) ?_ ?_
    · skip
      repeat (first | refine Pw.runs ?_ | refine Pw.list (Pw.box rfl rfl rfl rfl (fun _ => ?_)) | refine Pw.list (Pw.alloc rfl rfl rfl rfl rfl (fun _ => ?_)))
      refine Pw.drawnG mixed rfl rfl ?_
      refine Pw.takeP 0 (nb 17 1) rfl rfl rfl rfl (by kernel_rfl) np sf ?_
      refine Pw.takeP 1 (nb 17 3) rfl rfl rfl rfl (by kernel_rfl) np sf ?_
      refine Pw.takeP 2 (nb 17 7) rfl rfl rfl rfl (by kernel_rfl) np sf ?_
      refine Pw.split 58 rfl (fun c4 => ?_) (fun c4 => ?_)
      · obtain ⟨op, hop', _⟩ := get_at (show i - 1 < os.length by omega)
        obtain ⟨y', hy', e4, e5, e6⟩ := hseat (i - 1) op hop'
        have hop : os[((i : Int) - 1).toNat]? = some op := by rw [show ((i : Int) - 1).toNat = i - 1 by omega]; exact hop'
        have hadj := hI.adj (i - 1) y' y hy' (by rw [show i - 1 + 1 = i by omega]; exact hy)
        obtain ⟨q1, q2, q3, q4⟩ := hS.s0 y (List.mem_of_getElem? hy)
        obtain ⟨q5, q6, q7, q8⟩ := hS.s0 y' (List.mem_of_getElem? hy')
        have hz := sz_dI q1 q2 q3 q4
        have hz' := sz_dI q5 q6 q7 q8
        have hle := divInt_le q7 q3 hadj
        generalize Rat.divInt y.2.1 y.2.2 = r at hz hle e2 e3
        generalize Rat.divInt y'.2.1 y'.2.2 = r' at hz' hle e5 e6
        obtain ⟨a1, n1, d1, z1⟩ := o
        obtain ⟨a2, n2, d2, z2⟩ := op
        dsimp only at e2 e3 e5 e6
        subst e2 e3 e5 e6
        refine Pw.takeP 3 (nb 17 15) rfl rfl rfl rfl (by kernel_rfl) np sf ?_
        refine Pw.takeP 4 (nb 17 31) rfl rfl rfl rfl (by kernel_rfl) np sf ?_
        refine Pw.takeP 5 (nb 17 63) rfl rfl rfl rfl (by kernel_rfl) np sf ?_
        refine Pw.re (d := 61) (v' := .int .i64 ((i : Int) - 1)) rfl (congrArg (Value.int .i64) (wi64 (by omega) (by omega))) ?_
        have hi3 : (0 : Int) ≤ (i : Int) - 1 := by omega
        have hi4 : (i : Int) - 1 < (os.length : Int) := by omega
        refine Pw.takeIx 6 (nb 17 127) rfl rfl rfl rfl rfl (by first | assumption | omega) (by first | assumption | omega) rfl rfl (by kernel_rfl) np sf ?_
        refine Pw.takeFS 7 (nb 17 255) rfl rfl rfl rfl rfl rfl rfl rfl (by kernel_rfl) np sf ?_
        refine Pw.takeLFA (On.mk a2 (qn r') (qd r') z2) [sl (qn r') z2.1, sl (qd r') z2.2] 8 (nb 17 511) rfl rfl inferInstance rfl (by first | assumption | (rw [Int.toNat_natCast]; assumption)) rfl (by kernel_rfl) rfl rfl (by kernel_rfl) np sf ?_
        refine Pw.takeP 9 (nb 17 1023) rfl rfl rfl rfl (by kernel_rfl) np sf ?_
        refine Pw.takeP 10 (nb 17 2047) rfl rfl rfl rfl (by kernel_rfl) np sf ?_
        refine Pw.takeIx 11 (nb 17 4095) rfl rfl rfl rfl rfl (by first | assumption | omega) (by first | assumption | omega) rfl rfl (by kernel_rfl) np sf ?_
        refine Pw.takeFS 12 (nb 17 8191) rfl rfl rfl rfl rfl rfl rfl rfl (by kernel_rfl) np sf ?_
        refine Pw.takeLFA (On.mk a1 (qn r) (qd r) z1) [sl (qn r) z1.1, sl (qd r) z1.2] 13 (nb 17 16383) rfl rfl inferInstance rfl (by first | assumption | (rw [Int.toNat_natCast]; assumption)) rfl (by kernel_rfl) rfl rfl (by kernel_rfl) np sf ?_
        refine Pw.one 14 (nb 17 32767) rfl (by kernel_rfl) ?_
        -- call Op.call { callee := Callee.value (Operand.func 15), args := #[Operand.tmp 64, Operand.tmp 69], argTypes := #[36, 36] }
        refine Pw.call (qCmp_ct hz' hz z2 z1 (by omega)) rfl rfl rfl (by kernel_rfl) rfl rfl (fun w h => ⟨((hv w h : OS os (some ad, co) w).at hop').2.1, ((hv w h : OS os (some ad, co) w).at ho).2.1⟩) ?_
        intro _ _
        refine Pw.held sf ?_
        refine Pw.takeP 15 (nb 17 65535) rfl rfl rfl rfl (by kernel_rfl) np sf ?_
        refine Pw.takeP 16 (nb 17 131071) rfl rfl rfl rfl (by kernel_rfl) np sf ?_
        refine Pw.done (by kernel_rfl) ?_
        repeat (first | refine Pw.runs ?_ | refine Pw.list (Pw.box rfl rfl rfl rfl (fun _ => ?_)) | refine Pw.list (Pw.alloc rfl rfl rfl rfl rfl (fun _ => ?_)))
        refine Pw.re (d := 72) (v' := .bool false) rfl (congrArg Value.bool (decide_eq_false (cmpQ_le hle))) ?_
        repeat (first | refine Pw.runs ?_ | refine Pw.list (Pw.box rfl rfl rfl rfl (fun _ => ?_)) | refine Pw.list (Pw.alloc rfl rfl rfl rfl rfl (fun _ => ?_)))
        exact Pw.arrive () trivial ⟨rfl, rfl, rfl, rfl, rfl, rfl, rfl, trivial⟩ rfl (fun w h => allTail h)
      · skip
        refine Pw.takeO 3 (nb 17 15) rfl rfl rfl (by kernel_rfl) np sf ?_
        refine Pw.takeO 4 (nb 17 31) rfl rfl rfl (by kernel_rfl) np sf ?_
        refine Pw.takeO 5 (nb 17 63) rfl rfl rfl (by kernel_rfl) np sf ?_
        refine Pw.takeO 6 (nb 17 127) rfl rfl rfl (by kernel_rfl) np sf ?_
        refine Pw.takeO 7 (nb 17 255) rfl rfl rfl (by kernel_rfl) np sf ?_
        refine Pw.takeO 8 (nb 17 511) rfl rfl rfl (by kernel_rfl) np sf ?_
        refine Pw.takeO 9 (nb 17 1023) rfl rfl rfl (by kernel_rfl) np sf ?_
        refine Pw.takeO 10 (nb 17 2047) rfl rfl rfl (by kernel_rfl) np sf ?_
        refine Pw.takeO 11 (nb 17 4095) rfl rfl rfl (by kernel_rfl) np sf ?_
        refine Pw.takeO 12 (nb 17 8191) rfl rfl rfl (by kernel_rfl) np sf ?_
        refine Pw.takeO 13 (nb 17 16383) rfl rfl rfl (by kernel_rfl) np sf ?_
        refine Pw.takeO 14 (nb 17 32767) rfl rfl rfl (by kernel_rfl) np sf ?_
        refine Pw.takeO 15 (nb 17 65535) rfl rfl rfl (by kernel_rfl) np sf ?_
        refine Pw.takeP 16 (nb 17 131071) rfl rfl rfl rfl (by kernel_rfl) np sf ?_
        refine Pw.done (by kernel_rfl) ?_
        repeat (first | refine Pw.runs ?_ | refine Pw.list (Pw.box rfl rfl rfl rfl (fun _ => ?_)) | refine Pw.list (Pw.alloc rfl rfl rfl rfl rfl (fun _ => ?_)))
        exact Pw.arrive () trivial ⟨rfl, rfl, rfl, rfl, rfl, rfl, rfl, trivial⟩ rfl (fun w h => h)
    intro _ _
    dsimp only
    repeat (first | refine Pw.runs ?_ | refine Pw.list (Pw.box rfl rfl rfl rfl (fun _ => ?_)) | refine Pw.list (Pw.alloc rfl rfl rfl rfl rfl (fun _ => ?_)))
    refine Pw.loopJ (σ := Nat) (fun j => j ≤ i) (fun j => ⟨[(2, .pointer (some ⟨g2, 0, none⟩)), (5, .slice (some ad) os.length co), (6, ssV sh zs), (8, .int .i64 i), (52, .int .i64 os.length), (53, .int .i64 i), (73, .int .i64 i), (74, .int .i64 j)], [], [OS os (some ad, co), SS sh zs, snF s, fun W => W.heap[g2]? = some (row [.slice s.zv.1 s.vs.length s.zv.2, sl s.cs s.zc] 25)]⟩) (fun j => i - j) 0 (Nat.zero_le _) (Pw.enter ⟨rfl, rfl, rfl, rfl, rfl, rfl, rfl, rfl, trivial⟩ (fun w h => h)) ?_
    rintro j hj
    dsimp only at hj ⊢
    repeat (first | refine Pw.runs ?_ | refine Pw.list (Pw.box rfl rfl rfl rfl (fun _ => ?_)) | refine Pw.list (Pw.alloc rfl rfl rfl rfl rfl (fun _ => ?_)))
    refine Pw.condD rfl (fun c4 => ?_) (fun c4 => ?_)
    · have hj0 : (0 : Int) ≤ (j : Int) := Int.natCast_nonneg j
      have hj1 : (j : Int) < ((os.length : Nat) : Int) := by omega
      obtain ⟨o2, ho2, _⟩ := get_at (show j < os.length by omega)
      obtain ⟨y2, hy2, e4, _, _⟩ := hseat j o2 ho2
      have hne : ¬ o2.at_ = o.at_ := by
        rw [e4, e1]
        intro e
        have h1 : (S.se.map Prod.fst)[j]? = some y2.1 := by rw [List.getElem?_map, hy2]; rfl
        have h2 : (S.se.map Prod.fst)[i]? = some y.1 := by rw [List.getElem?_map, hy]; rfl
        obtain ⟨b1, b2⟩ := List.getElem?_eq_some_iff.1 h1
        obtain ⟨b3, b4⟩ := List.getElem?_eq_some_iff.1 h2
        have := List.pairwise_iff_getElem.1 hI.nd j i b1 b3 (by omega)
        rw [b2, b4] at this
        exact this e
      repeat (first | refine Pw.runs ?_ | refine Pw.list (Pw.box rfl rfl rfl rfl (fun _ => ?_)) | refine Pw.list (Pw.alloc rfl rfl rfl rfl rfl (fun _ => ?_)))
      refine Pw.drawnG mixed rfl rfl ?_
      refine Pw.takeP 0 (nb 11 1) rfl rfl rfl rfl (by kernel_rfl) np sf ?_
      refine Pw.takeP 1 (nb 11 3) rfl rfl rfl rfl (by kernel_rfl) np sf ?_
      refine Pw.takeIx 2 (nb 11 7) rfl rfl rfl rfl rfl (by first | assumption | omega) (by first | assumption | omega) rfl rfl (by kernel_rfl) np sf ?_
      refine Pw.takeFS 3 (nb 11 15) rfl rfl rfl rfl rfl rfl rfl rfl (by kernel_rfl) np sf ?_
      refine Pw.takeLF o2 4 (nb 11 31) rfl rfl inferInstance rfl (by first | assumption | (rw [Int.toNat_natCast]; assumption)) rfl rfl rfl rfl (by kernel_rfl) np sf ?_
      refine Pw.takeP 5 (nb 11 63) rfl rfl rfl rfl (by kernel_rfl) np sf ?_
      refine Pw.takeP 6 (nb 11 127) rfl rfl rfl rfl (by kernel_rfl) np sf ?_
      refine Pw.takeIx 7 (nb 11 255) rfl rfl rfl rfl rfl (by first | assumption | omega) (by first | assumption | omega) rfl rfl (by kernel_rfl) np sf ?_
      refine Pw.takeFS 8 (nb 11 511) rfl rfl rfl rfl rfl rfl rfl rfl (by kernel_rfl) np sf ?_
      refine Pw.takeLF o 9 (nb 11 1023) rfl rfl inferInstance rfl (by first | assumption | (rw [Int.toNat_natCast]; assumption)) rfl rfl rfl rfl (by kernel_rfl) np sf ?_
      refine Pw.takeP 10 (nb 11 2047) rfl rfl rfl rfl (by kernel_rfl) np sf ?_
      refine Pw.done (by kernel_rfl) ?_
      repeat (first | refine Pw.runs ?_ | refine Pw.list (Pw.box rfl rfl rfl rfl (fun _ => ?_)) | refine Pw.list (Pw.alloc rfl rfl rfl rfl rfl (fun _ => ?_)))
      refine Pw.condD rfl (fun c6 => absurd c6 hne) (fun c6 => ?_)
      repeat (first | refine Pw.runs ?_ | refine Pw.list (Pw.box rfl rfl rfl rfl (fun _ => ?_)) | refine Pw.list (Pw.alloc rfl rfl rfl rfl rfl (fun _ => ?_)))
      refine Pw.re (d := 74) (v' := .int .i64 ((j + 1 : Nat) : Int)) rfl (congrArg (Value.int .i64) (i64s (n := 100000) (by omega) (by omega))) ?_
      exact Pw.again (j + 1) (by show j + 1 ≤ i; omega) (by show i - (j + 1) < i - j; omega) ⟨rfl, rfl, rfl, rfl, rfl, rfl, rfl, rfl, trivial⟩ rfl (fun w h => h)
    · repeat (first | refine Pw.runs ?_ | refine Pw.list (Pw.box rfl rfl rfl rfl (fun _ => ?_)) | refine Pw.list (Pw.alloc rfl rfl rfl rfl rfl (fun _ => ?_)))
      refine Pw.re (d := 53) (v' := .int .i64 ((i + 1 : Nat) : Int)) rfl (congrArg (Value.int .i64) (i64s (n := 100000) (by omega) (by omega))) ?_
      exact Pw.again (i + 1) (by show i + 1 ≤ os.length; omega) (by show os.length - (i + 1) < os.length - i; omega) ⟨rfl, rfl, rfl, rfl, rfl, trivial⟩ rfl (fun w h => h)
  repeat (first | refine Pw.runs ?_ | refine Pw.list (Pw.box rfl rfl rfl rfl (fun _ => ?_)) | refine Pw.list (Pw.alloc rfl rfl rfl rfl rfl (fun _ => ?_)))
  refine Pw.loopJ (σ := Nat) (fun i => i ≤ s.vs.length) (fun i => ⟨[(2, .pointer (some ⟨g2, 0, none⟩)), (5, .slice Ao os.length co), (6, ssV sh zs), (92, .int .i64 s.vs.length), (93, .int .i64 i)], [], [OS os (Ao, co), SS sh zs, snF s, fun W => W.heap[g2]? = some (row [.slice s.zv.1 s.vs.length s.zv.2, sl s.cs s.zc] 25)]⟩) (fun i => s.vs.length - i) 0 (Nat.zero_le _) (Pw.enter ⟨rfl, rfl, rfl, rfl, rfl, trivial⟩ (fun w h => h)) ?_
  rintro i hi
  dsimp only at hi ⊢
  repeat (first | refine Pw.runs ?_ | refine Pw.list (Pw.box rfl rfl rfl rfl (fun _ => ?_)) | refine Pw.list (Pw.alloc rfl rfl rfl rfl rfl (fun _ => ?_)))
  refine Pw.condD rfl (fun c3 => ?_) (fun c3 => ?_)
  · have hi0 : (0 : Int) ≤ (i : Int) := Int.natCast_nonneg i
    obtain ⟨v, hvi, hvm⟩ := get_at (show i < s.vs.length by omega)
    have hst := hW v hvm
    have hvid : vid s.vs i = v.id := by unfold vid; rw [hvi]; rfl
    have hvst : st s.vs i = v.st := by unfold st; rw [hvi]; rfl
    have hrow := ofV_row hF hsh (i := i) (by omega)
    have hwts := row_wts hV hS hrow
    rw [hvid] at hrow hwts
    have hpre : ∀ m, wts (ofV v.id (sh.take m)) = (wsL s.vs S s.cs i).take (ofV v.id (sh.take m)).length := fun m => by
      rw [← hwts]
      unfold wts
      rw [← List.map_take, ← ofV_prefix]
    obtain ⟨Av, cv, hz⟩ : ∃ A c, s.zv = (A, c) := ⟨_, _, rfl⟩
    refine Pw.facts (G' := [OS os (Ao, co), SS sh zs, VS s.vs (Av, cv), snF s, fun W => W.heap[g2]? = some (row [.slice Av s.vs.length cv, sl s.cs s.zc] 25)]) (fun w h => allCons (hv w h) (allCons (hv w h) (allCons (by have := (hv w h : snF s w).1; rw [hz] at this; exact this) (allCons (hv w h) (allCons (by have : w.heap[g2]? = some (row [.slice s.zv.1 s.vs.length s.zv.2, sl s.cs s.zc] 25) := (fx h); rw [hz] at this; exact this) allNil))))) ?_
    repeat (first | refine Pw.runs ?_ | refine Pw.list (Pw.box rfl rfl rfl rfl (fun _ => ?_)) | refine Pw.list (Pw.alloc rfl rfl rfl rfl rfl (fun _ => ?_)))
    refine Pw.list (Pw.index rfl rfl rfl rfl hi0 c3 (fun w h => (hv w h : VS s.vs (Av, cv) w).has hi0 c3) rfl rfl ?_)
    rintro av rfl
    refine Pw.list (Pw.loadR v rfl inferInstance rfl (by rw [Int.toNat_natCast]; exact hvi) (by kernel_rfl) rfl rfl ?_)
    refine Pw.re (d := 100) (v' := vtV v) rfl rfl ?_
    refine Pw.list (Pw.alloc rfl rfl rfl rfl rfl (fun g11 => ?_))
    repeat (first | refine Pw.runs ?_ | refine Pw.list (Pw.box rfl rfl rfl rfl (fun _ => ?_)) | refine Pw.list (Pw.alloc rfl rfl rfl rfl rfl (fun _ => ?_)))
    refine freeHead ?_
    refine Pw.facts (G' := [OS os (Ao, co), SS sh zs, snF s, fun W => W.heap[g2]? = some (row [.slice s.zv.1 s.vs.length s.zv.2, sl s.cs s.zc] 25), fun W => W.heap[g11]? = some (row [.int .i64 v.id, .int .u64 v.st, sl v.pk v.z] 44)]) (fun w h => allCons (hv w h) (allCons (hv w h) (allCons (hv w h) (allCons (by rw [hz]; exact (fx h)) (allCons (fx h) allNil))))) ?_
    refine Pw.list (Pw.call (qOf_ct (n := 0) (by omega) (by omega)) rfl rfl rfl (by kernel_rfl) rfl rfl (fun w h => trivial) ?_)
    intro zq0 _
    rw [Rat.intCast_zero]
    repeat (first | refine Pw.runs ?_ | refine Pw.list (Pw.box rfl rfl rfl rfl (fun _ => ?_)) | refine Pw.list (Pw.alloc rfl rfl rfl rfl rfl (fun _ => ?_)))
    rename_i g12
    refine Pw.loopJ (σ := Nat × Z2) (fun t => t.1 ≤ sh.length) (fun t => ⟨[(2, .pointer (some ⟨g2, 0, none⟩)), (5, .slice Ao os.length co), (6, ssV sh zs), (11, .pointer (some ⟨g11, 0, none⟩)), (12, .pointer (some ⟨g12, 0, none⟩)), (14, .bool (!(ofV v.id (sh.take t.1)).isEmpty)), (92, .int .i64 s.vs.length), (93, .int .i64 i), (106, .int .i64 sh.length), (107, .int .i64 t.1)], [⟨g12, row [sl (qn (wts (ofV v.id (sh.take t.1))).sum) t.2.1, sl (qd (wts (ofV v.id (sh.take t.1))).sum) t.2.2] 36⟩], [QW (wts (ofV v.id (sh.take t.1))).sum t.2, OS os (Ao, co), SS sh zs, snF s, fun W => W.heap[g2]? = some (row [.slice s.zv.1 s.vs.length s.zv.2, sl s.cs s.zc] 25), fun W => W.heap[g11]? = some (row [.int .i64 v.id, .int .u64 v.st, sl v.pk v.z] 44)]⟩) (fun t => sh.length - t.1) (0, zq0) (Nat.zero_le _) (Pw.enter ⟨rfl, rfl, rfl, rfl, rfl, rfl, rfl, rfl, rfl, rfl, trivial⟩ (fun w h => h)) ?_
    rintro ⟨m, zq⟩ hm
    dsimp only at hm ⊢
    have hszp := hws i (by omega) (ofV v.id (sh.take m)).length
    rw [← hpre m] at hszp
    repeat (first | refine Pw.runs ?_ | refine Pw.list (Pw.box rfl rfl rfl rfl (fun _ => ?_)) | refine Pw.list (Pw.alloc rfl rfl rfl rfl rfl (fun _ => ?_)))
    refine Pw.condD rfl (fun c4 => ?_) (fun c4 => ?_)
    · have hm0 : (0 : Int) ≤ (m : Int) := Int.natCast_nonneg m
      obtain ⟨x, hx, hxm⟩ := get_at (show m < sh.length by omega)
      obtain ⟨i', c', w', _, ev, _, ea, eb, hzw⟩ := hshok x hxm
      have htk := ofV_take (id := v.id) hx
      obtain ⟨xv, xc, xa, xb, xz⟩ := x
      dsimp only at ea eb htk
      subst ea eb
      obtain ⟨As, cs'⟩ := zs
      refine Pw.use (p := As.isSome = true) (fun w h => (fact2 h).has hm0 c4) (fun hA => ?_)
      obtain ⟨sd, rfl⟩ := Option.isSome_iff_exists.1 hA
      repeat (first | refine Pw.runs ?_ | refine Pw.list (Pw.box rfl rfl rfl rfl (fun _ => ?_)) | refine Pw.list (Pw.alloc rfl rfl rfl rfl rfl (fun _ => ?_)))
      refine Pw.drawnG mixed rfl rfl ?_
      refine Pw.takeP 0 (nb 8 1) rfl rfl rfl rfl (by kernel_rfl) np sf ?_
      refine Pw.takeP 1 (nb 8 3) rfl rfl rfl rfl (by kernel_rfl) np sf ?_
      refine Pw.takeIx 2 (nb 8 7) rfl rfl rfl rfl rfl (by first | assumption | omega) (by first | assumption | omega) rfl rfl (by kernel_rfl) np sf ?_
      refine Pw.takeFS 3 (nb 8 15) rfl rfl rfl rfl rfl rfl rfl rfl (by kernel_rfl) np sf ?_
      refine Pw.takeLF (Shr.mk xv xc (qn w') (qd w') xz) 4 (nb 8 31) rfl rfl inferInstance rfl (by first | assumption | (rw [Int.toNat_natCast]; assumption)) rfl rfl rfl rfl (by kernel_rfl) np sf ?_
      refine Pw.takeP 5 (nb 8 63) rfl rfl rfl rfl (by kernel_rfl) np sf ?_
      refine Pw.takeF 6 (nb 8 127) rfl rfl inferInstance rfl rfl rfl (by kernel_rfl) np sf ?_
      refine Pw.takeP 7 (nb 8 255) rfl rfl rfl rfl (by kernel_rfl) np sf ?_
      refine Pw.done (by kernel_rfl) ?_
      repeat (first | refine Pw.runs ?_ | refine Pw.list (Pw.box rfl rfl rfl rfl (fun _ => ?_)) | refine Pw.list (Pw.alloc rfl rfl rfl rfl rfl (fun _ => ?_)))
      refine Pw.condD rfl (fun c5 => ?_) (fun c5 => ?_)
      · rw [if_pos c5] at htk
        have hsum : (wts (ofV v.id (sh.take (m + 1)))).sum = (wts (ofV v.id (sh.take m))).sum + w' := by
          rw [htk]; unfold wts
          rw [List.map_append, List.sum_append]
          show _ + ([rv (qn w') (qd w')]).sum = _
          rw [rv_q hzw.p, List.sum_cons, List.sum_nil, Rat.add_zero]
        have hne2 : (!(ofV v.id (sh.take (m + 1))).isEmpty) = true := by rw [htk]; simp
        repeat (first | refine Pw.runs ?_ | refine Pw.list (Pw.box rfl rfl rfl rfl (fun _ => ?_)) | refine Pw.list (Pw.alloc rfl rfl rfl rfl rfl (fun _ => ?_)))
        refine Pw.drawnG mixed rfl rfl ?_
        refine Pw.takeP 1 (nb 11 2) rfl rfl rfl rfl (by kernel_rfl) np sf ?_
        refine Pw.takeP 2 (nb 11 6) rfl rfl rfl rfl (by kernel_rfl) np sf ?_
        refine Pw.takeIx 3 (nb 11 14) rfl rfl rfl rfl rfl (by first | assumption | omega) (by first | assumption | omega) rfl rfl (by kernel_rfl) np sf ?_
        refine Pw.takeFS 4 (nb 11 30) rfl rfl rfl rfl rfl rfl rfl rfl (by kernel_rfl) np sf ?_
        refine Pw.takeLFA (Shr.mk xv xc (qn w') (qd w') xz) [sl (qn w') xz.1, sl (qd w') xz.2] 5 (nb 11 62) rfl rfl inferInstance rfl (by rw [Int.toNat_natCast]; exact hx) rfl (by kernel_rfl) rfl rfl (by kernel_rfl) np sf ?_
        refine Pw.one 0 (nb 11 63) rfl (by kernel_rfl) ?_
        refine Pw.ld rfl inferInstance rfl rfl rfl ?_
        refine Pw.held sf ?_
        refine Pw.one 6 (nb 11 127) rfl (by kernel_rfl) ?_
        refine Pw.call (qAdd_ct hszp.1 hzw zq xz (by omega)) rfl rfl rfl (by kernel_rfl) rfl rfl (fun w h => ⟨(hv w h), ((hv w h : SS sh (some sd, cs') w).at hx).2.1⟩) ?_
        intro zn _
        rw [← hsum]
        refine Pw.held sf ?_
        refine Pw.takeP 7 (nb 11 255) rfl rfl rfl rfl (by kernel_rfl) np sf ?_
        refine Pw.takeP 8 (nb 11 511) rfl rfl rfl rfl (by kernel_rfl) np sf ?_
        refine Pw.takeP 9 (nb 11 1023) rfl rfl rfl rfl (by kernel_rfl) np sf ?_
        refine Pw.one 10 (nb 11 2047) rfl (by kernel_rfl) ?_
        refine Pw.sto rfl rfl inferInstance rfl rfl rfl rfl rfl inferInstance rfl ?_
        refine Pw.held sf ?_
        refine Pw.done (by kernel_rfl) ?_
        skip
        repeat (first | refine Pw.runs ?_ | refine Pw.list (Pw.box rfl rfl rfl rfl (fun _ => ?_)) | refine Pw.list (Pw.alloc rfl rfl rfl rfl rfl (fun _ => ?_)))
        refine Pw.re (d := 107) (v' := .int .i64 ((m + 1 : Nat) : Int)) rfl (congrArg (Value.int .i64) (i64s (n := 100000) (by omega) (by omega))) ?_
        exact Pw.again (m + 1, zn) (by show m + 1 ≤ sh.length; omega) (by show sh.length - (m + 1) < sh.length - m; omega) (by dsimp only; rw [hne2]; exact ⟨rfl, rfl, rfl, rfl, rfl, rfl, rfl, rfl, rfl, rfl, trivial⟩) rfl (fun w h => allCons (hv w h) (allCons (hv w h) (allCons (hv w h) (allCons (hv w h) (allCons (fx h) (allCons (fx h) allNil))))))
      · rw [if_neg c5, List.append_nil] at htk
        repeat (first | refine Pw.runs ?_ | refine Pw.list (Pw.box rfl rfl rfl rfl (fun _ => ?_)) | refine Pw.list (Pw.alloc rfl rfl rfl rfl rfl (fun _ => ?_)))
        refine Pw.re (d := 107) (v' := .int .i64 ((m + 1 : Nat) : Int)) rfl (congrArg (Value.int .i64) (i64s (n := 100000) (by omega) (by omega))) ?_
        exact Pw.again (m + 1, zq) (by show m + 1 ≤ sh.length; omega) (by show sh.length - (m + 1) < sh.length - m; omega) (by dsimp only; rw [htk]; exact ⟨rfl, rfl, rfl, rfl, rfl, rfl, rfl, rfl, rfl, rfl, trivial⟩) (by dsimp only; rw [htk]) (by dsimp only; rw [htk]; exact fun w h => h)
    obtain rfl : m = sh.length := by omega
    rw [List.take_length] at hszp ⊢
    refine freeHead ?_
    cases hem : (ofV v.id sh).isEmpty
    · have hne : wsL s.vs S s.cs i ≠ [] := by
        rw [← hwts]; unfold wts
        intro e
        rw [List.map_eq_nil_iff] at e
        rw [e] at hem; cases hem
      have hval := hszp.2 hne
      rw [← hwts, hvst] at hval
      rw [hval] at hszp ⊢
      repeat (first | refine Pw.runs ?_ | refine Pw.list (Pw.box rfl rfl rfl rfl (fun _ => ?_)) | refine Pw.list (Pw.alloc rfl rfl rfl rfl rfl (fun _ => ?_)))
      refine Pw.drawnG mixed rfl rfl ?_
      refine Pw.takeP 0 (nb 9 1) rfl rfl rfl rfl (by kernel_rfl) np sf ?_
      refine Pw.takeP 1 (nb 9 3) rfl rfl rfl rfl (by kernel_rfl) np sf ?_
      refine Pw.takeF 2 (nb 9 7) rfl rfl inferInstance rfl rfl rfl (by kernel_rfl) np sf ?_
      refine Pw.takeP 3 (nb 9 15) rfl rfl rfl rfl (by kernel_rfl) np sf ?_
      refine Pw.takeF 4 (nb 9 31) rfl rfl inferInstance rfl rfl rfl (by kernel_rfl) np sf ?_
      refine Pw.one 5 (nb 9 63) rfl (by kernel_rfl) ?_
      -- call Op.call { callee := Callee.value (Operand.func 21), args := #[Operand.tmp 133, Operand.const (Value.int IntKind.u64 1)], argTypes := #[42, 42] }
      refine Pw.call (fracN_ct hst.1 hst.2) rfl rfl rfl (by kernel_rfl) rfl rfl (fun w h => trivial) ?_
      intro zf _
      refine Pw.held sf ?_
      refine Pw.one 6 (nb 9 127) rfl (by kernel_rfl) ?_
      -- call Op.call { callee := Callee.value (Operand.func 20), args := #[Operand.tmp 131, Operand.tmp 134], argTypes := #[36, 62] }
      refine Pw.call (qSame_ct hszp.1 (by omega) zq zf) rfl rfl rfl (by kernel_rfl) rfl rfl (fun w h => ⟨(hv w h), (hv w h)⟩) ?_
      intro _ _
      refine Pw.held sf ?_
      refine Pw.takeP 7 (nb 9 255) rfl rfl rfl rfl (by kernel_rfl) np sf ?_
      refine Pw.takeP 8 (nb 9 511) rfl rfl rfl rfl (by kernel_rfl) np sf ?_
      refine Pw.done (by kernel_rfl) ?_
      repeat (first | refine Pw.runs ?_ | refine Pw.list (Pw.box rfl rfl rfl rfl (fun _ => ?_)) | refine Pw.list (Pw.alloc rfl rfl rfl rfl rfl (fun _ => ?_)))
      refine Pw.loopJ (σ := Nat) (fun j => j ≤ os.length) (fun j => ⟨[(2, .pointer (some ⟨g2, 0, none⟩)), (5, .slice Ao os.length co), (6, ssV sh zs), (11, .pointer (some ⟨g11, 0, none⟩)), (14, .bool true), (92, .int .i64 s.vs.length), (93, .int .i64 i), (139, .int .i64 os.length), (140, .int .i64 j)], [], [OS os (Ao, co), SS sh zs, snF s, fun W => W.heap[g2]? = some (row [.slice s.zv.1 s.vs.length s.zv.2, sl s.cs s.zc] 25), fun W => W.heap[g11]? = some (row [.int .i64 v.id, .int .u64 v.st, sl v.pk v.z] 44)]⟩) (fun j => os.length - j) 0 (Nat.zero_le _) (Pw.enter ⟨rfl, rfl, rfl, rfl, rfl, rfl, rfl, rfl, rfl, trivial⟩ (fun w h => allCons (hv w h) (allCons (hv w h) (allCons (hv w h) (allCons (fx h) (allCons (fx h) allNil)))))) ?_
      rintro j hj
      dsimp only at hj ⊢
      repeat (first | refine Pw.runs ?_ | refine Pw.list (Pw.box rfl rfl rfl rfl (fun _ => ?_)) | refine Pw.list (Pw.alloc rfl rfl rfl rfl rfl (fun _ => ?_)))
      refine Pw.condD rfl (fun c5 => ?_) (fun c5 => ?_)
      · have hj0 : (0 : Int) ≤ (j : Int) := Int.natCast_nonneg j
        obtain ⟨o, ho, hom⟩ := get_at (show j < os.length by omega)
        refine Pw.use (p := Ao.isSome = true) (fun w h => (fact0 h).has hj0 c5) (fun hA => ?_)
        obtain ⟨ad, rfl⟩ := Option.isSome_iff_exists.1 hA
        repeat (first | refine Pw.runs ?_ | refine Pw.list (Pw.box rfl rfl rfl rfl (fun _ => ?_)) | refine Pw.list (Pw.alloc rfl rfl rfl rfl rfl (fun _ => ?_)))
        refine Pw.drawnG mixed rfl rfl ?_
        refine Pw.takeF 0 (nb 13 1) rfl rfl inferInstance rfl rfl rfl (by kernel_rfl) np sf ?_
        refine Pw.takeP 1 (nb 13 3) rfl rfl rfl rfl (by kernel_rfl) np sf ?_
        refine Pw.takeF 2 (nb 13 7) rfl rfl inferInstance rfl rfl rfl (by kernel_rfl) np sf ?_
        refine Pw.takeP 3 (nb 13 15) rfl rfl rfl rfl (by kernel_rfl) np sf ?_
        refine Pw.takeP 4 (nb 13 31) rfl rfl rfl rfl (by kernel_rfl) np sf ?_
        refine Pw.takeIx 5 (nb 13 63) rfl rfl rfl rfl rfl (by first | assumption | omega) (by first | assumption | omega) rfl rfl (by kernel_rfl) np sf ?_
        refine Pw.takeFS 6 (nb 13 127) rfl rfl rfl rfl rfl rfl rfl rfl (by kernel_rfl) np sf ?_
        refine Pw.takeLF o 7 (nb 13 255) rfl rfl inferInstance rfl (by first | assumption | (rw [Int.toNat_natCast]; assumption)) rfl rfl rfl rfl (by kernel_rfl) np sf ?_
        refine Pw.one 8 (nb 13 511) rfl (by kernel_rfl) ?_
        -- call Op.call { callee := Callee.value (Operand.func 22), args := #[Operand.tmp 143, Operand.tmp 145, Operand.tmp 150], argTypes := #[25, 3, 3] }
        refine Pw.call (rApproves_ct s hW v.id o.at_) rfl rfl rfl (by kernel_rfl) rfl rfl (fun w h => (hv w h)) ?_
        intro _ _
        refine Pw.held sf ?_
        cases hap : apB s v.id o.at_
        · skip
          refine Pw.takeP 9 (nb 13 1023) rfl rfl rfl rfl (by kernel_rfl) np sf ?_
          refine Pw.takeO 10 (nb 13 2047) rfl rfl rfl (by kernel_rfl) np sf ?_
          refine Pw.takeO 11 (nb 13 4095) rfl rfl rfl (by kernel_rfl) np sf ?_
          refine Pw.takeP 12 (nb 13 8191) rfl rfl rfl rfl (by kernel_rfl) np sf ?_
          refine Pw.done (by kernel_rfl) ?_
          repeat (first | refine Pw.runs ?_ | refine Pw.list (Pw.box rfl rfl rfl rfl (fun _ => ?_)) | refine Pw.list (Pw.alloc rfl rfl rfl rfl rfl (fun _ => ?_)))
          refine Pw.re (d := 140) (v' := .int .i64 ((j + 1 : Nat) : Int)) rfl (congrArg (Value.int .i64) (i64s (n := 100000) (by omega) (by omega))) ?_
          exact Pw.again (j + 1) (by show j + 1 ≤ os.length; omega) (by show os.length - (j + 1) < os.length - j; omega) ⟨rfl, rfl, rfl, rfl, rfl, rfl, rfl, rfl, rfl, trivial⟩ rfl (fun w h => allTail h)
        · skip
          refine Pw.takeP 9 (nb 13 1023) rfl rfl rfl rfl (by kernel_rfl) np sf ?_
          refine Pw.takeP 10 (nb 13 2047) rfl rfl rfl rfl (by kernel_rfl) np sf ?_
          refine Pw.takeP 11 (nb 13 4095) rfl rfl rfl rfl (by kernel_rfl) np sf ?_
          refine Pw.takeP 12 (nb 13 8191) rfl rfl rfl rfl (by kernel_rfl) np sf ?_
          refine Pw.done (by kernel_rfl) ?_
          repeat (first | refine Pw.runs ?_ | refine Pw.list (Pw.box rfl rfl rfl rfl (fun _ => ?_)) | refine Pw.list (Pw.alloc rfl rfl rfl rfl rfl (fun _ => ?_)))
          refine Pw.re (d := 140) (v' := .int .i64 ((j + 1 : Nat) : Int)) rfl (congrArg (Value.int .i64) (i64s (n := 100000) (by omega) (by omega))) ?_
          exact Pw.again (j + 1) (by show j + 1 ≤ os.length; omega) (by show os.length - (j + 1) < os.length - j; omega) ⟨rfl, rfl, rfl, rfl, rfl, rfl, rfl, rfl, rfl, trivial⟩ rfl (fun w h => allTail h)
      · repeat (first | refine Pw.runs ?_ | refine Pw.list (Pw.box rfl rfl rfl rfl (fun _ => ?_)) | refine Pw.list (Pw.alloc rfl rfl rfl rfl rfl (fun _ => ?_)))
        refine Pw.re (d := 93) (v' := .int .i64 ((i + 1 : Nat) : Int)) rfl (congrArg (Value.int .i64) (i64s (n := 100000) (by omega) (by omega))) ?_
        exact Pw.again (i + 1) (by show i + 1 ≤ s.vs.length; omega) (by show s.vs.length - (i + 1) < s.vs.length - i; omega) ⟨rfl, rfl, rfl, rfl, rfl, trivial⟩ rfl (fun w h => allCons (hv w h) (allCons (hv w h) (allCons (hv w h) (allCons (fx h) allNil))))
    · have hnap : ∀ o ∈ os, apB s v.id o.at_ = true → False := fun o ho hap => by
        obtain ⟨q, hq⟩ := List.getElem?_of_mem ho
        obtain ⟨y, hy, e1, _, _⟩ := hseat q o hq
        rw [pk_ap hF hvi] at hap
        unfold pkB at hap
        rw [Bool.and_eq_true, Bool.and_eq_true, decide_eq_true_eq, decide_eq_true_eq, decide_eq_true_eq] at hap
        have hia : i ∈ ap s.vs y.1 := ap_mem.2 ⟨by omega, by rw [hvst]; exact hap.1, by
          rw [← e1]; unfold pks; rw [hvi]; exact hap.2.2⟩
        have hrw := row_has (vs := s.vs) (S := S) (cs := s.cs) (i := i) (c := y.1) (by rw [← e1]; exact hap.2.1) (hI.has y (List.mem_of_getElem? hy) i hia)
        rw [← hrow] at hrw
        rw [List.isEmpty_iff.1 hem] at hrw
        exact hrw rfl
      repeat (first | refine Pw.runs ?_ | refine Pw.list (Pw.box rfl rfl rfl rfl (fun _ => ?_)) | refine Pw.list (Pw.alloc rfl rfl rfl rfl rfl (fun _ => ?_)))
      refine Pw.drawnG mixed rfl rfl ?_
      refine Pw.takeP 0 (nb 9 1) rfl rfl rfl rfl (by kernel_rfl) np sf ?_
      refine Pw.takeP 1 (nb 9 3) rfl rfl rfl rfl (by kernel_rfl) np sf ?_
      refine Pw.takeO 2 (nb 9 7) rfl rfl rfl (by kernel_rfl) np sf ?_
      refine Pw.takeO 3 (nb 9 15) rfl rfl rfl (by kernel_rfl) np sf ?_
      refine Pw.takeO 4 (nb 9 31) rfl rfl rfl (by kernel_rfl) np sf ?_
      refine Pw.takeO 5 (nb 9 63) rfl rfl rfl (by kernel_rfl) np sf ?_
      refine Pw.takeO 6 (nb 9 127) rfl rfl rfl (by kernel_rfl) np sf ?_
      refine Pw.takeO 7 (nb 9 255) rfl rfl rfl (by kernel_rfl) np sf ?_
      refine Pw.takeP 8 (nb 9 511) rfl rfl rfl rfl (by kernel_rfl) np sf ?_
      refine Pw.done (by kernel_rfl) ?_
      repeat (first | refine Pw.runs ?_ | refine Pw.list (Pw.box rfl rfl rfl rfl (fun _ => ?_)) | refine Pw.list (Pw.alloc rfl rfl rfl rfl rfl (fun _ => ?_)))
      refine Pw.loopJ (σ := Nat) (fun j => j ≤ os.length) (fun j => ⟨[(2, .pointer (some ⟨g2, 0, none⟩)), (5, .slice Ao os.length co), (6, ssV sh zs), (11, .pointer (some ⟨g11, 0, none⟩)), (14, .bool false), (92, .int .i64 s.vs.length), (93, .int .i64 i), (139, .int .i64 os.length), (140, .int .i64 j)], [], [OS os (Ao, co), SS sh zs, snF s, fun W => W.heap[g2]? = some (row [.slice s.zv.1 s.vs.length s.zv.2, sl s.cs s.zc] 25), fun W => W.heap[g11]? = some (row [.int .i64 v.id, .int .u64 v.st, sl v.pk v.z] 44)]⟩) (fun j => os.length - j) 0 (Nat.zero_le _) (Pw.enter ⟨rfl, rfl, rfl, rfl, rfl, rfl, rfl, rfl, rfl, trivial⟩ (fun w h => allCons (hv w h) (allCons (hv w h) (allCons (hv w h) (allCons (fx h) (allCons (fx h) allNil)))))) ?_
      rintro j hj
      dsimp only at hj ⊢
      repeat (first | refine Pw.runs ?_ | refine Pw.list (Pw.box rfl rfl rfl rfl (fun _ => ?_)) | refine Pw.list (Pw.alloc rfl rfl rfl rfl rfl (fun _ => ?_)))
      refine Pw.condD rfl (fun c5 => ?_) (fun c5 => ?_)
      · have hj0 : (0 : Int) ≤ (j : Int) := Int.natCast_nonneg j
        obtain ⟨o, ho, hom⟩ := get_at (show j < os.length by omega)
        refine Pw.use (p := Ao.isSome = true) (fun w h => (fact0 h).has hj0 c5) (fun hA => ?_)
        obtain ⟨ad, rfl⟩ := Option.isSome_iff_exists.1 hA
        repeat (first | refine Pw.runs ?_ | refine Pw.list (Pw.box rfl rfl rfl rfl (fun _ => ?_)) | refine Pw.list (Pw.alloc rfl rfl rfl rfl rfl (fun _ => ?_)))
        refine Pw.drawnG mixed rfl rfl ?_
        refine Pw.takeF 0 (nb 13 1) rfl rfl inferInstance rfl rfl rfl (by kernel_rfl) np sf ?_
        refine Pw.takeP 1 (nb 13 3) rfl rfl rfl rfl (by kernel_rfl) np sf ?_
        refine Pw.takeF 2 (nb 13 7) rfl rfl inferInstance rfl rfl rfl (by kernel_rfl) np sf ?_
        refine Pw.takeP 3 (nb 13 15) rfl rfl rfl rfl (by kernel_rfl) np sf ?_
        refine Pw.takeP 4 (nb 13 31) rfl rfl rfl rfl (by kernel_rfl) np sf ?_
        refine Pw.takeIx 5 (nb 13 63) rfl rfl rfl rfl rfl (by first | assumption | omega) (by first | assumption | omega) rfl rfl (by kernel_rfl) np sf ?_
        refine Pw.takeFS 6 (nb 13 127) rfl rfl rfl rfl rfl rfl rfl rfl (by kernel_rfl) np sf ?_
        refine Pw.takeLF o 7 (nb 13 255) rfl rfl inferInstance rfl (by first | assumption | (rw [Int.toNat_natCast]; assumption)) rfl rfl rfl rfl (by kernel_rfl) np sf ?_
        refine Pw.one 8 (nb 13 511) rfl (by kernel_rfl) ?_
        -- call Op.call { callee := Callee.value (Operand.func 22), args := #[Operand.tmp 143, Operand.tmp 145, Operand.tmp 150], argTypes := #[25, 3, 3] }
        refine Pw.call (rApproves_ct s hW v.id o.at_) rfl rfl rfl (by kernel_rfl) rfl rfl (fun w h => (hv w h)) ?_
        intro _ _
        refine Pw.held sf ?_
        rw [show apB s v.id o.at_ = false from Bool.eq_false_iff.2 (fun h => hnap o hom h)]
        refine Pw.takeP 9 (nb 13 1023) rfl rfl rfl rfl (by kernel_rfl) np sf ?_
        refine Pw.takeO 10 (nb 13 2047) rfl rfl rfl (by kernel_rfl) np sf ?_
        refine Pw.takeO 11 (nb 13 4095) rfl rfl rfl (by kernel_rfl) np sf ?_
        refine Pw.takeP 12 (nb 13 8191) rfl rfl rfl rfl (by kernel_rfl) np sf ?_
        refine Pw.done (by kernel_rfl) ?_
        repeat (first | refine Pw.runs ?_ | refine Pw.list (Pw.box rfl rfl rfl rfl (fun _ => ?_)) | refine Pw.list (Pw.alloc rfl rfl rfl rfl rfl (fun _ => ?_)))
        refine Pw.re (d := 140) (v' := .int .i64 ((j + 1 : Nat) : Int)) rfl (congrArg (Value.int .i64) (i64s (n := 100000) (by omega) (by omega))) ?_
        exact Pw.again (j + 1) (by show j + 1 ≤ os.length; omega) (by show os.length - (j + 1) < os.length - j; omega) ⟨rfl, rfl, rfl, rfl, rfl, rfl, rfl, rfl, rfl, trivial⟩ rfl (fun w h => allTail h)
      · repeat (first | refine Pw.runs ?_ | refine Pw.list (Pw.box rfl rfl rfl rfl (fun _ => ?_)) | refine Pw.list (Pw.alloc rfl rfl rfl rfl rfl (fun _ => ?_)))
        refine Pw.re (d := 93) (v' := .int .i64 ((i + 1 : Nat) : Int)) rfl (congrArg (Value.int .i64) (i64s (n := 100000) (by omega) (by omega))) ?_
        exact Pw.again (i + 1) (by show i + 1 ≤ s.vs.length; omega) (by show s.vs.length - (i + 1) < s.vs.length - i; omega) ⟨rfl, rfl, rfl, rfl, rfl, trivial⟩ rfl (fun w h => allCons (hv w h) (allCons (hv w h) (allCons (hv w h) (allCons (fx h) allNil))))
  · repeat (first | refine Pw.runs ?_ | refine Pw.list (Pw.box rfl rfl rfl rfl (fun _ => ?_)) | refine Pw.list (Pw.alloc rfl rfl rfl rfl rfl (fun _ => ?_)))
    exact Pw.ret_ (x := ()) (.tmp rfl .nil) rfl trivial (fun w h => trivial)
end Go.Proofs.Wk
