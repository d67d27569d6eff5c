/- Walks and their mathematics, merged. No conditions beyond those written. -/
import Derived.Test.YtphmegjmmjmbeaaWmPhragmenIdle5
/- The law PhragmenIdle walked. -/
namespace Go.Proofs.Wk
open Go.RowKit
set_option maxRecDepth 100000
set_option maxHeartbeats 8000000
attribute [local irreducible] Pw OpG
set_option linter.unusedVariables false
set_option linter.unusedSimpArgs false
def cellsV (l : List Vtr) : List Value := l.flatMap encV
theorem cellsV_len (l : List Vtr) : (cellsV l).length = l.length * 3 := by
  unfold cellsV
  induction l with
  | nil => rfl
  | cons x r ih => rw [List.flatMap_cons, List.length_append, ih, List.length_cons]; show 3 + _ = _; omega
theorem encV_one (s : Vtr) : ∀ u ∈ encV s, u.oneCell' = true := by
  intro u hu
  simp only [encV, List.mem_cons, List.not_mem_nil, or_false] at hu
  rcases hu with rfl | rfl | rfl <;> rfl
theorem cellsV_one (l : List Vtr) : ∀ u ∈ cellsV l, u.oneCell' = true := by
  intro u hu
  obtain ⟨s, _, hs⟩ := List.mem_flatMap.1 hu
  exact encV_one s u hs
theorem cellsV_snoc (l : List Vtr) (r : Vtr) : cellsV (l ++ [r]) = cellsV l ++ encV r := by unfold cellsV; simp
theorem permE2 {a : Blk} {X : List Blk} : (a :: (X ++ [])).Perm (X ++ [a]) := by
  rw [List.append_nil]; exact List.perm_append_comm (l₁ := [a])
/-- The same ones are elected: their keys agree. -/
theorem seat_at {l : List On} {S : Est} (h : l.map (fun o => (o.at_, o.a, o.b)) = S.se.map seatQ) {i : Nat} {o : On} (ho : l[i]? = some o) : ∃ y, S.se[i]? = some y ∧ o.at_ = y.1 ∧ o.a = qn (Rat.divInt y.2.1 y.2.2) ∧ o.b = qd (Rat.divInt y.2.1 y.2.2) := by
  have h1 : (l.map (fun o => (o.at_, o.a, o.b)))[i]? = (S.se.map seatQ)[i]? := by rw [h]
  rw [List.getElem?_map, List.getElem?_map, ho] at h1
  cases e : S.se[i]? with
  | none => rw [e] at h1; cases h1
  | some y =>
    rw [e] at h1
    have h2 := Option.some.inj h1
    obtain ⟨h3, h4⟩ := Prod.mk.inj h2
    obtain ⟨h4, h5⟩ := Prod.mk.inj h4
    exact ⟨y, rfl, h3, h4, h5⟩
theorem run_se {vs : List Vtr} {cs : List Int} : ∀ (k : Nat) (S : Est), (runE vs cs k S).se.length ≤ S.se.length + k
  | 0, S => Nat.le_refl _
  | k + 1, S => by
    unfold runE
    cases hr : rnd vs cs S with
    | none => show S.se.length ≤ _; omega
    | some S' =>
      have h1 := run_se (vs := vs) (cs := cs) k S'
      have h2 : S'.se.length = S.se.length + 1 := by
        unfold rnd at hr
        cases hb : best vs S cs with
        | none => rw [hb] at hr; cases hr
        | some b =>
          rw [hb] at hr
          rw [← Option.some.inj hr]
          show (S.se ++ [_]).length = _
          simp
      show (runE vs cs k S').se.length ≤ _
      omega
theorem elect_se (vs : List Vtr) (cs : List Int) (k : Nat) : (electE vs cs k).se.length ≤ k := by
  have := run_se (vs := vs) (cs := cs) k (begE vs)
  have h : (begE vs).se.length = 0 := rfl
  unfold electE
  omega
theorem os_len {s : Sn} {k : Int} {y : Ea} (h : eaOk s k y) (h8 : k ≤ 8) : y.os.length ≤ 8 := by
  have h1 := congrArg List.length h.1
  rw [List.length_map, List.length_map] at h1
  have := elect_se s.vs s.cs k.toNat
  omega
theorem shRow_len (vs : List Vtr) (S : Est) (cs : List Int) (i : Nat) : (shRow vs S cs i).length ≤ cs.length := by
  unfold shRow; exact List.length_filterMap_le ..
theorem shTo_len (vs : List Vtr) (S : Est) (cs : List Int) : ∀ i, (shTo vs cs S i).length ≤ cs.length * i
  | 0 => Nat.le_refl _
  | i + 1 => by
    rw [shTo_succ, List.length_append, Nat.mul_succ]
    have := shTo_len vs S cs i
    have := shRow_len vs S cs i
    omega
theorem sh_len {s : Sn} {k : Int} {y : Ea} (h : eaOk s k y) (h1 : s.vs.length ≤ 32) (h2 : s.cs.length ≤ 32) : y.sh.length ≤ 1024 := by
  have h3 := congrArg List.length h.2
  rw [List.length_map] at h3
  have h4 := shTo_len s.vs (electE s.vs s.cs k.toNat) s.cs s.vs.length
  have h5 : s.cs.length * s.vs.length ≤ 32 * 32 := Nat.mul_le_mul h2 h1
  omega
/-- Bounds of a share's weight. -/
theorem edge_mem {l : List (Int × Int × Int)} {c : Int} {x : Int × Int} (h : edgeOf l c = some x) : (c, x.1, x.2) ∈ l := by
  unfold edgeOf at h
  cases e : l.find? (fun x => decide (x.1 = c)) with
  | none => rw [e] at h; cases h
  | some y =>
    rw [e] at h
    have h1 := List.mem_of_find?_eq_some e
    have h2 : y.1 = c := by simpa using List.find?_some e
    have h3 : y.2 = x := Option.some.inj h
    rw [← h2, ← h3]; exact h1
theorem share_sz {vs : List Vtr} {a : Nat} {S : Est} (hV : VOk vs) (hS : EOk vs a S) {i : Nat} {c : Int} {w : Rat} (h : shareOf vs S i c = some w) : Sz (a + a + 2) w := by
  unfold shareOf at h
  cases e : edgeOf ((S.ed[i]?).getD []) c with
  | none => rw [e] at h; cases h
  | some x =>
    rw [e] at h
    have h1 := edge_mem e
    cases hl : S.ed[i]? with
    | none => rw [hl] at h1; cases h1
    | some l =>
      rw [hl] at h1
      have h1 : (c, x.1, x.2) ∈ l := h1
      obtain ⟨h2, h3⟩ := hS.e0 i l hl
      obtain ⟨q1, q2, q3, q4⟩ := h2 _ h1
      dsimp only at q1 q2 q3 q4
      have q5 := h3 (fun e => by rw [e] at h1; cases h1)
      have q6 := (hS.at i).2
      have hi : i < vs.length := by rw [← hS.el]; exact (List.getElem?_eq_some_iff.1 hl).1
      have s0 := hV.s i
      have s1 : st vs i < pw 2 := by have := st_le hV hi; have := hV.t; have := pw_two; omega
      have d0 := hS.d0
      have d1 := hS.d1
      rw [← Option.some.inj h]
      have m1 := mul_lt_pw (m := a) (n := 2) q1 q2 s1 s0
      have m0 : 0 ≤ x.1 * st vs i := Int.mul_nonneg q1 s0
      have m2 := mul_lt_pw (m := a + 2) (n := a) m0 m1 d1 (by omega)
      have m3 := mul_lt_pw (m := a) (n := a) (a := x.2) (b := at0 S.ld i) (by omega) q4 q6 (by omega)
      exact sz_dI (Int.mul_nonneg m0 (by omega)) (lt_pw_le m2 (by omega)) (Int.mul_pos q3 q5) (lt_pw_le m3 (by omega))
theorem sh_ok {vs : List Vtr} {cs : List Int} {a : Nat} {S : Est} (hV : VOk vs) (hS : EOk vs a S) (ha : a ≤ 100) {n : Nat} {sh : List Shr} (h : sh.map shK = shTo vs cs S n) : ∀ s ∈ sh, ∃ i c w, shareOf vs S i c = some w ∧ s.v = vid vs i ∧ s.c = c ∧ s.a = qn w ∧ s.b = qd w ∧ Sz (a + a + 2) w := by
  intro s hs
  have h1 : shK s ∈ shTo vs cs S n := by rw [← h]; exact List.mem_map_of_mem hs
  unfold shTo shRow shOne at h1
  obtain ⟨i, _, h2⟩ := List.mem_flatMap.1 h1
  obtain ⟨c, _, h3⟩ := List.mem_filterMap.1 h2
  cases hw : shareOf vs S i c with
  | none => rw [hw] at h3; cases h3
  | some w =>
    rw [hw] at h3
    have h4 := Option.some.inj h3
    obtain ⟨e1, h4⟩ := Prod.mk.inj h4
    obtain ⟨e2, h4⟩ := Prod.mk.inj h4
    obtain ⟨e3, e4⟩ := Prod.mk.inj h4
    exact ⟨i, c, w, hw, e1.symm, e2.symm, e3.symm, e4.symm, share_sz hV hS hw⟩
theorem sh_fm {vs : List Vtr} {cs : List Int} {a : Nat} {S : Est} (hV : VOk vs) (hS : EOk vs a S) (ha : a ≤ 100) {n : Nat} {sh : List Shr} (h : sh.map shK = shTo vs cs S n) : ∀ s ∈ sh, Fm s.a ∧ Fm s.b ∧ s.a.length < 1048576 ∧ s.b.length < 1048576 := by
  intro s hs
  obtain ⟨i, c, w, _, _, _, e3, e4, hz⟩ := sh_ok hV hS ha h s hs
  rw [e3, e4]
  exact ⟨natL_fm _, natL_fm _, by have := hz.ln; omega, by have := hz.ld; omega⟩
abbrev idV (stake pick : Int) (zp : Option Addr × Nat) : Vtr := ⟨1073741824, stake, [pick], zp⟩
theorem PhragmenIdle_ct (s : Sn) (hW : snW s) (k stake pick : Int) (hk : 0 ≤ k ∧ k ≤ 255) (hst : 0 ≤ stake ∧ stake ≤ 4294967295) :
    Ct Try.prog 4 #[snV s, .int .u8 k, .int .u32 stake, .int .i64 pick] (snF s) (fun _ : Unit => .bool true) Tt (fun _ _ => True) := by
  refine Ct.start Try.func4 rfl rfl (slots_of rfl slots4) (fun D w0 => ?_)
  repeat (first | (with_reducible first | refine Pw.seq ?_ | refine Pw.region ?_ | refine Pw.nil ?_ | refine Pw.then_ ?_ | refine Pw.skip ?_ | refine Pw.block ?_ | refine Pw.exit ?_ | refine Pw.inX ?_ | refine Pw.inN ?_ | refine Pw.inR ?_ | refine Pw.thenX ?_ | refine Pw.thenR ?_ | refine Pw.ret ?_) | refine Pw.list (Pw.pure rfl rfl rfl ?_) | refine Pw.inY rfl ?_ | refine Pw.list (Pw.off rfl rfl ?_) | refine Pw.condT rfl ?_ | refine Pw.condF rfl ?_)
  refine Pw.list (Pw.box rfl rfl rfl rfl (fun g4 => freeHead ?_))
  repeat (first | (with_reducible first | refine Pw.seq ?_ | refine Pw.region ?_ | refine Pw.nil ?_ | refine Pw.then_ ?_ | refine Pw.skip ?_ | refine Pw.block ?_ | refine Pw.exit ?_ | refine Pw.inX ?_ | refine Pw.inN ?_ | refine Pw.inR ?_ | refine Pw.thenX ?_ | refine Pw.thenR ?_ | refine Pw.ret ?_) | refine Pw.list (Pw.pure rfl rfl rfl ?_) | refine Pw.inY rfl ?_ | refine Pw.list (Pw.off rfl rfl ?_) | refine Pw.condT rfl ?_ | refine Pw.condF rfl ?_ | refine Pw.list (Pw.box rfl rfl rfl rfl (fun _ => ?_)) | refine Pw.list (Pw.alloc rfl rfl rfl rfl rfl (fun _ => ?_)) | refine Pw.list (Pw.build rfl rfl rfl rfl ?_) | refine Pw.list (Pw.ld rfl inferInstance rfl rfl rfl ?_) | refine Pw.list (Pw.sto rfl rfl inferInstance rfl rfl rfl rfl rfl inferInstance rfl ?_))
  refine Pw.list (Pw.call eawake_ct rfl rfl rfl (by kernel_rfl) rfl rfl (fun w h => trivial) ?_)
  intro _ _
  repeat (first | (with_reducible first | refine Pw.seq ?_ | refine Pw.region ?_ | refine Pw.nil ?_ | refine Pw.then_ ?_ | refine Pw.skip ?_ | refine Pw.block ?_ | refine Pw.exit ?_ | refine Pw.inX ?_ | refine Pw.inN ?_ | refine Pw.inR ?_ | refine Pw.thenX ?_ | refine Pw.thenR ?_ | refine Pw.ret ?_) | refine Pw.list (Pw.pure rfl rfl rfl ?_) | refine Pw.inY rfl ?_ | refine Pw.list (Pw.off rfl rfl ?_) | refine Pw.condT rfl ?_ | refine Pw.condF rfl ?_ | refine Pw.list (Pw.box rfl rfl rfl rfl (fun _ => ?_)) | refine Pw.list (Pw.alloc rfl rfl rfl rfl rfl (fun _ => ?_)) | refine Pw.list (Pw.build rfl rfl rfl rfl ?_) | refine Pw.list (Pw.ld rfl inferInstance rfl rfl rfl ?_) | refine Pw.list (Pw.sto rfl rfl inferInstance rfl rfl rfl rfl rfl inferInstance rfl ?_))
  refine Pw.list (Pw.call (Small_ct s) rfl rfl rfl (by kernel_rfl) rfl rfl (fun w h => (hv w h)) ?_)
  intro r hr
  cases r
  · repeat (first | (with_reducible first | refine Pw.seq ?_ | refine Pw.region ?_ | refine Pw.nil ?_ | refine Pw.then_ ?_ | refine Pw.skip ?_ | refine Pw.block ?_ | refine Pw.exit ?_ | refine Pw.inX ?_ | refine Pw.inN ?_ | refine Pw.inR ?_ | refine Pw.thenX ?_ | refine Pw.thenR ?_ | refine Pw.ret ?_) | refine Pw.list (Pw.pure rfl rfl rfl ?_) | refine Pw.inY rfl ?_ | refine Pw.list (Pw.off rfl rfl ?_) | refine Pw.condT rfl ?_ | refine Pw.condF rfl ?_ | refine Pw.list (Pw.box rfl rfl rfl rfl (fun _ => ?_)) | refine Pw.list (Pw.alloc rfl rfl rfl rfl rfl (fun _ => ?_)) | refine Pw.list (Pw.build rfl rfl rfl rfl ?_) | refine Pw.list (Pw.ld rfl inferInstance rfl rfl rfl ?_) | refine Pw.list (Pw.sto rfl rfl inferInstance rfl rfl rfl rfl rfl inferInstance rfl ?_))
    refine Pw.list (Pw.call eawake_ct rfl rfl rfl (by kernel_rfl) rfl rfl (fun w h => trivial) ?_)
    intro _ _
    repeat (first | (with_reducible first | refine Pw.seq ?_ | refine Pw.region ?_ | refine Pw.nil ?_ | refine Pw.then_ ?_ | refine Pw.skip ?_ | refine Pw.block ?_ | refine Pw.exit ?_ | refine Pw.inX ?_ | refine Pw.inN ?_ | refine Pw.inR ?_ | refine Pw.thenX ?_ | refine Pw.thenR ?_ | refine Pw.ret ?_) | refine Pw.list (Pw.pure rfl rfl rfl ?_) | refine Pw.inY rfl ?_ | refine Pw.list (Pw.off rfl rfl ?_) | refine Pw.condT rfl ?_ | refine Pw.condF rfl ?_ | refine Pw.list (Pw.box rfl rfl rfl rfl (fun _ => ?_)) | refine Pw.list (Pw.alloc rfl rfl rfl rfl rfl (fun _ => ?_)) | refine Pw.list (Pw.build rfl rfl rfl rfl ?_) | refine Pw.list (Pw.ld rfl inferInstance rfl rfl rfl ?_) | refine Pw.list (Pw.sto rfl rfl inferInstance rfl rfl rfl rfl rfl inferInstance rfl ?_))
    exact Pw.ret_ (x := ()) (.tmp rfl .nil) rfl trivial (fun w h => by trivial)
  obtain ⟨hl, hl2⟩ := hr rfl
  repeat (first | (with_reducible first | refine Pw.seq ?_ | refine Pw.region ?_ | refine Pw.nil ?_ | refine Pw.then_ ?_ | refine Pw.skip ?_ | refine Pw.block ?_ | refine Pw.exit ?_ | refine Pw.inX ?_ | refine Pw.inN ?_ | refine Pw.inR ?_ | refine Pw.thenX ?_ | refine Pw.thenR ?_ | refine Pw.ret ?_) | refine Pw.list (Pw.pure rfl rfl rfl ?_) | refine Pw.inY rfl ?_ | refine Pw.list (Pw.off rfl rfl ?_) | refine Pw.condT rfl ?_ | refine Pw.condF rfl ?_ | refine Pw.list (Pw.box rfl rfl rfl rfl (fun _ => ?_)) | refine Pw.list (Pw.alloc rfl rfl rfl rfl rfl (fun _ => ?_)) | refine Pw.list (Pw.build rfl rfl rfl rfl ?_) | refine Pw.list (Pw.ld rfl inferInstance rfl rfl rfl ?_) | refine Pw.list (Pw.sto rfl rfl inferInstance rfl rfl rfl rfl rfl inferInstance rfl ?_))
  refine Pw.joinQ (σ := (Option Addr × Nat) × (Option Addr × Nat) × Nat) (fun _ => True) (fun t => ⟨[(1, .int .u8 k), (2, .int .u32 stake), (3, .int .i64 pick), (4, .pointer (some ⟨g4, 0, none⟩)), (9, .pointer (some ⟨t.2.2, 0, none⟩))], [⟨t.2.2, row [.slice t.1.1 (s.vs ++ [idV stake pick t.2.1]).length t.1.2, sl s.cs s.zc] 25⟩], [snF s, VS (s.vs ++ [idV stake pick t.2.1]) t.1, fun W => W.heap[g4]? = some (row [.slice s.zv.1 s.vs.length s.zv.2, sl s.cs s.zc] 25)]⟩) ?_ ?_
  · have hb0 : s.vs.length ≤ 100 := hl
    refine Pw.facts (G' := [snF s, VS s.vs s.zv, fun W => W.heap[g4]? = some (row [.slice s.zv.1 s.vs.length s.zv.2, sl s.cs s.zc] 25)]) (fun w h => allCons (hv w h) (allCons (hv w h : snF s w).1 (allCons (by first | exact fact0 (h) | exact fact0 (allTail (h)) | exact fact0 (allTail (allTail (h))) | exact fact0 (allTail (allTail (allTail (h)))) | exact fact0 (allTail (allTail (allTail (allTail (h))))) | exact fact0 (allTail (allTail (allTail (allTail (allTail (h)))))) | exact fact0 (allTail (allTail (allTail (allTail (allTail (allTail (h))))))) | exact fact0 (allTail (allTail (allTail (allTail (allTail (allTail (allTail (h)))))))) | exact fact0 (allTail (allTail (allTail (allTail (allTail (allTail (allTail (allTail (h))))))))) | exact fact0 (allTail (allTail (allTail (allTail (allTail (allTail (allTail (allTail (allTail (h))))))))))) allNil))) ?_
    refine Pw.drawnG mixed rfl rfl ?_
    refine Pw.takeP 0 (nb 16 1) rfl rfl rfl rfl (by kernel_rfl) np sf ?_
    refine Pw.takeF 1 (nb 16 3) rfl rfl inferInstance rfl rfl rfl (by kernel_rfl) np sf ?_
    refine Pw.takeP 3 (nb 16 11) rfl rfl rfl rfl (by kernel_rfl) np sf ?_
    refine Pw.takeF 4 (nb 16 27) rfl rfl inferInstance rfl rfl rfl (by kernel_rfl) np sf ?_
    refine Pw.takeP 6 (nb 16 91) rfl rfl rfl rfl (by kernel_rfl) np sf ?_
    refine Pw.takeP 7 (nb 16 219) rfl rfl rfl rfl (by kernel_rfl) np sf ?_
    refine Pw.re (d := 32) (v' := .int .u64 stake) rfl (congrArg (Value.int .u64) (wu (by omega) (by omega))) ?_
    refine Pw.takeP 8 (nb 16 475) rfl rfl rfl rfl (by kernel_rfl) np sf ?_
    refine Pw.three 2 9 14 (nb 16 479) (nb 16 987) (nb 16 16859) rfl rfl rfl (by kernel_rfl) ?_ ?_ ?_
    · skip
      refine Pw.lit0 rfl rfl rfl rfl (fun ga => ?_)
      refine Pw.held sf ?_
      refine Pw.three 5 9 14 (nb 16 511) (nb 16 991) (nb 16 16863) rfl rfl rfl (by kernel_rfl) ?_ ?_ ?_
      · skip
        refine Pw.pushG (s := some (ga, 0, [])) (m := 0) (cells := []) (news := cellsV s.vs) rfl rfl rfl rfl rfl rfl rfl ⟨rfl, Nat.le_refl _, rfl⟩ (cellsV_len s.vs) (cellsV_one s.vs) (fun w hs j u hu => (hv w hs.all : VS s.vs s.zv w).toCellsE (by omega) j u hu) (by show 0 < 3; omega) (by simp only [maxLen]; omega) (by show (0 + s.vs.length) * 40 ≤ _; omega) rfl rfl (fun qa hqa => ?_)
        rw [List.nil_append, Nat.zero_add] at hqa ⊢
        refine Pw.held sf ?_
        refine Pw.two 9 14 (nb 16 1023) (nb 16 16895) rfl rfl (by kernel_rfl) ?_ ?_
        · skip
          refine Pw.lit1 rfl rfl rfl rfl rfl rfl rfl rfl rfl (fun gp => freeHead ?_)
          refine Pw.held sf ?_
          refine Pw.takeBuild 10 (nb 16 2047) rfl rfl rfl rfl rfl (by kernel_rfl) np sf ?_
          refine Pw.two 11 14 (nb 16 4095) (nb 16 18431) rfl rfl (by kernel_rfl) ?_ ?_
          · skip
            refine Pw.lit13 rfl rfl rfl rfl rfl rfl rfl rfl rfl (fun gv1 => freeHead ?_)
            refine Pw.held sf ?_
            refine Pw.two 12 14 (nb 16 8191) (nb 16 20479) rfl rfl (by kernel_rfl) ?_ ?_
            · skip
              refine Pw.push (s := qa) (m := s.vs.length) (cells := cellsV s.vs) (news := encV (idV stake pick (some ⟨gp, 0, none⟩, 1))) rfl rfl rfl rfl rfl rfl rfl hqa rfl (encV_one _) (fun w hs j u hu => by
                have h1 : w.heap[gv1]? = some (row (encV (idV stake pick (some ⟨gp, 0, none⟩, 1))) 44) := by
                  have h := hs.all
                  exact (by first | exact fact0 (h) | exact fact0 (allTail (h)) | exact fact0 (allTail (allTail (h))) | exact fact0 (allTail (allTail (allTail (h)))) | exact fact0 (allTail (allTail (allTail (allTail (h))))) | exact fact0 (allTail (allTail (allTail (allTail (allTail (h)))))) | exact fact0 (allTail (allTail (allTail (allTail (allTail (allTail (h))))))) | exact fact0 (allTail (allTail (allTail (allTail (allTail (allTail (allTail (h)))))))) | exact fact0 (allTail (allTail (allTail (allTail (allTail (allTail (allTail (allTail (h))))))))) | exact fact0 (allTail (allTail (allTail (allTail (allTail (allTail (allTail (allTail (allTail (h)))))))))))
                rw [add_none, cell_of_blk h1]
                simpa using hu) (by omega) (by simp only [maxLen]; omega) (by show (s.vs.length + 1) * 40 ≤ _; omega) rfl rfl (fun qb hqb => ?_)
              rw [← cellsV_snoc] at hqb ⊢
              refine Pw.freeG hqb (fun A' c' e hc => ?_)
              refine Pw.re (d := 37) (v' := .slice A' (s.vs ++ [idV stake pick (some ⟨gp, 0, none⟩, 1)]).length c') rfl (by rw [e, List.length_append]; rfl) ?_
              refine Pw.more (φ := VS (s.vs ++ [idV stake pick (some ⟨gp, 0, none⟩, 1)]) (A', c')) (fun w h => rows_of_cells (fun _ _ => rfl) (fun y hy => by
                rcases List.mem_append.1 hy with hy | hy
                · obtain ⟨j, hj⟩ := List.getElem?_of_mem hy
                  have h1 : VS s.vs s.zv w := (hv w h)
                  obtain ⟨ad, cs, e1, _, ⟨_, h2⟩, _⟩ := h1.2.2 j y hj
                  exact h2
                · rw [List.mem_singleton.1 hy]
                  exact ints_of_row' (l := [pick]) (by first | exact fact0 (h) | exact fact0 (allTail (h)) | exact fact0 (allTail (allTail (h))) | exact fact0 (allTail (allTail (allTail (h)))) | exact fact0 (allTail (allTail (allTail (allTail (h))))) | exact fact0 (allTail (allTail (allTail (allTail (allTail (h)))))) | exact fact0 (allTail (allTail (allTail (allTail (allTail (allTail (h))))))) | exact fact0 (allTail (allTail (allTail (allTail (allTail (allTail (allTail (h)))))))) | exact fact0 (allTail (allTail (allTail (allTail (allTail (allTail (allTail (allTail (h))))))))) | exact fact0 (allTail (allTail (allTail (allTail (allTail (allTail (allTail (allTail (allTail (h))))))))))) (by simp) (by simp [maxLen])) (by rw [List.length_append]; exact hc) (by rw [List.length_append, List.length_singleton]; simp only [maxLen]; omega) (by omega) (fact0 h)) ?_
              refine Pw.held sf ?_
              refine Pw.takeBuild 13 (nb 16 16383) rfl rfl rfl rfl rfl (by kernel_rfl) np sf ?_
              refine Pw.one 14 (nb 16 32767) rfl (by kernel_rfl) ?_
              refine Pw.alloc rfl rfl rfl rfl rfl (fun g9 => ?_)
              first | refine Pw.perm (permE2 (X := gL _ _ _)) ?_ | refine Pw.perm (List.Perm.swap _ _ []) ?_ | skip
              refine Pw.held sf ?_
              refine Pw.one 15 (nb 16 65535) rfl (by kernel_rfl) ?_
              refine Pw.sto rfl rfl inferInstance rfl rfl rfl rfl rfl inferInstance rfl ?_
              refine Pw.held sf ?_
              refine Pw.done (by kernel_rfl) ?_
              exact Pw.then_ (Pw.arrive ((A', c'), (some ⟨gp, 0, none⟩, 1), g9) trivial ⟨rfl, rfl, rfl, rfl, rfl, trivial⟩ rfl (fun w h => allCons (hv w h) (allCons (hv w h) (allCons (by first | exact fact0 (h) | exact fact0 (allTail (h)) | exact fact0 (allTail (allTail (h))) | exact fact0 (allTail (allTail (allTail (h)))) | exact fact0 (allTail (allTail (allTail (allTail (h))))) | exact fact0 (allTail (allTail (allTail (allTail (allTail (h)))))) | exact fact0 (allTail (allTail (allTail (allTail (allTail (allTail (h))))))) | exact fact0 (allTail (allTail (allTail (allTail (allTail (allTail (allTail (h)))))))) | exact fact0 (allTail (allTail (allTail (allTail (allTail (allTail (allTail (allTail (h))))))))) | exact fact0 (allTail (allTail (allTail (allTail (allTail (allTail (allTail (allTail (allTail (h))))))))))) allNil))))
            · skip
              refine Pw.alloc rfl rfl rfl rfl rfl (fun g9 => ?_)
              first | refine Pw.perm (permE2 (X := gL _ _ _)) ?_ | refine Pw.perm (List.Perm.swap _ _ []) ?_ | skip
              refine Pw.held sf ?_
              refine Pw.one 12 (nb 16 24575) rfl (by kernel_rfl) ?_
              refine Pw.push (s := qa) (m := s.vs.length) (cells := cellsV s.vs) (news := encV (idV stake pick (some ⟨gp, 0, none⟩, 1))) rfl rfl rfl rfl rfl rfl rfl hqa rfl (encV_one _) (fun w hs j u hu => by
                have h1 : w.heap[gv1]? = some (row (encV (idV stake pick (some ⟨gp, 0, none⟩, 1))) 44) := by
                  have h := hs.all
                  exact (by first | exact fact0 (h) | exact fact0 (allTail (h)) | exact fact0 (allTail (allTail (h))) | exact fact0 (allTail (allTail (allTail (h)))) | exact fact0 (allTail (allTail (allTail (allTail (h))))) | exact fact0 (allTail (allTail (allTail (allTail (allTail (h)))))) | exact fact0 (allTail (allTail (allTail (allTail (allTail (allTail (h))))))) | exact fact0 (allTail (allTail (allTail (allTail (allTail (allTail (allTail (h)))))))) | exact fact0 (allTail (allTail (allTail (allTail (allTail (allTail (allTail (allTail (h))))))))) | exact fact0 (allTail (allTail (allTail (allTail (allTail (allTail (allTail (allTail (allTail (h)))))))))))
                rw [add_none, cell_of_blk h1]
                simpa using hu) (by omega) (by simp only [maxLen]; omega) (by show (s.vs.length + 1) * 40 ≤ _; omega) rfl rfl (fun qb hqb => ?_)
              rw [← cellsV_snoc] at hqb ⊢
              refine Pw.freeG hqb (fun A' c' e hc => ?_)
              refine Pw.re (d := 37) (v' := .slice A' (s.vs ++ [idV stake pick (some ⟨gp, 0, none⟩, 1)]).length c') rfl (by rw [e, List.length_append]; rfl) ?_
              refine Pw.more (φ := VS (s.vs ++ [idV stake pick (some ⟨gp, 0, none⟩, 1)]) (A', c')) (fun w h => rows_of_cells (fun _ _ => rfl) (fun y hy => by
                rcases List.mem_append.1 hy with hy | hy
                · obtain ⟨j, hj⟩ := List.getElem?_of_mem hy
                  have h1 : VS s.vs s.zv w := (hv w h)
                  obtain ⟨ad, cs, e1, _, ⟨_, h2⟩, _⟩ := h1.2.2 j y hj
                  exact h2
                · rw [List.mem_singleton.1 hy]
                  exact ints_of_row' (l := [pick]) (by first | exact fact0 (h) | exact fact0 (allTail (h)) | exact fact0 (allTail (allTail (h))) | exact fact0 (allTail (allTail (allTail (h)))) | exact fact0 (allTail (allTail (allTail (allTail (h))))) | exact fact0 (allTail (allTail (allTail (allTail (allTail (h)))))) | exact fact0 (allTail (allTail (allTail (allTail (allTail (allTail (h))))))) | exact fact0 (allTail (allTail (allTail (allTail (allTail (allTail (allTail (h)))))))) | exact fact0 (allTail (allTail (allTail (allTail (allTail (allTail (allTail (allTail (h))))))))) | exact fact0 (allTail (allTail (allTail (allTail (allTail (allTail (allTail (allTail (allTail (h))))))))))) (by simp) (by simp [maxLen])) (by rw [List.length_append]; exact hc) (by rw [List.length_append, List.length_singleton]; simp only [maxLen]; omega) (by omega) (fact0 h)) ?_
              refine Pw.held sf ?_
              refine Pw.takeBuild 13 (nb 16 32767) rfl rfl rfl rfl rfl (by kernel_rfl) np sf ?_
              refine Pw.one 15 (nb 16 65535) rfl (by kernel_rfl) ?_
              refine Pw.sto rfl rfl inferInstance rfl rfl rfl rfl rfl inferInstance rfl ?_
              refine Pw.held sf ?_
              refine Pw.done (by kernel_rfl) ?_
              exact Pw.then_ (Pw.arrive ((A', c'), (some ⟨gp, 0, none⟩, 1), g9) trivial ⟨rfl, rfl, rfl, rfl, rfl, trivial⟩ rfl (fun w h => allCons (hv w h) (allCons (hv w h) (allCons (by first | exact fact0 (h) | exact fact0 (allTail (h)) | exact fact0 (allTail (allTail (h))) | exact fact0 (allTail (allTail (allTail (h)))) | exact fact0 (allTail (allTail (allTail (allTail (h))))) | exact fact0 (allTail (allTail (allTail (allTail (allTail (h)))))) | exact fact0 (allTail (allTail (allTail (allTail (allTail (allTail (h))))))) | exact fact0 (allTail (allTail (allTail (allTail (allTail (allTail (allTail (h)))))))) | exact fact0 (allTail (allTail (allTail (allTail (allTail (allTail (allTail (allTail (h))))))))) | exact fact0 (allTail (allTail (allTail (allTail (allTail (allTail (allTail (allTail (allTail (h))))))))))) allNil))))
          · skip
            refine Pw.alloc rfl rfl rfl rfl rfl (fun g9 => ?_)
            first | refine Pw.perm (permE2 (X := gL _ _ _)) ?_ | refine Pw.perm (List.Perm.swap _ _ []) ?_ | skip
            refine Pw.held sf ?_
            refine Pw.one 11 (nb 16 20479) rfl (by kernel_rfl) ?_
            refine Pw.lit13 rfl rfl rfl rfl rfl rfl rfl rfl rfl (fun gv1 => freeHead ?_)
            refine Pw.held sf ?_
            refine Pw.one 12 (nb 16 24575) rfl (by kernel_rfl) ?_
            refine Pw.push (s := qa) (m := s.vs.length) (cells := cellsV s.vs) (news := encV (idV stake pick (some ⟨gp, 0, none⟩, 1))) rfl rfl rfl rfl rfl rfl rfl hqa rfl (encV_one _) (fun w hs j u hu => by
              have h1 : w.heap[gv1]? = some (row (encV (idV stake pick (some ⟨gp, 0, none⟩, 1))) 44) := by
                have h := hs.all
                exact (by first | exact fact0 (h) | exact fact0 (allTail (h)) | exact fact0 (allTail (allTail (h))) | exact fact0 (allTail (allTail (allTail (h)))) | exact fact0 (allTail (allTail (allTail (allTail (h))))) | exact fact0 (allTail (allTail (allTail (allTail (allTail (h)))))) | exact fact0 (allTail (allTail (allTail (allTail (allTail (allTail (h))))))) | exact fact0 (allTail (allTail (allTail (allTail (allTail (allTail (allTail (h)))))))) | exact fact0 (allTail (allTail (allTail (allTail (allTail (allTail (allTail (allTail (h))))))))) | exact fact0 (allTail (allTail (allTail (allTail (allTail (allTail (allTail (allTail (allTail (h)))))))))))
              rw [add_none, cell_of_blk h1]
              simpa using hu) (by omega) (by simp only [maxLen]; omega) (by show (s.vs.length + 1) * 40 ≤ _; omega) rfl rfl (fun qb hqb => ?_)
            rw [← cellsV_snoc] at hqb ⊢
            refine Pw.freeG hqb (fun A' c' e hc => ?_)
            refine Pw.re (d := 37) (v' := .slice A' (s.vs ++ [idV stake pick (some ⟨gp, 0, none⟩, 1)]).length c') rfl (by rw [e, List.length_append]; rfl) ?_
            refine Pw.more (φ := VS (s.vs ++ [idV stake pick (some ⟨gp, 0, none⟩, 1)]) (A', c')) (fun w h => rows_of_cells (fun _ _ => rfl) (fun y hy => by
              rcases List.mem_append.1 hy with hy | hy
              · obtain ⟨j, hj⟩ := List.getElem?_of_mem hy
                have h1 : VS s.vs s.zv w := (hv w h)
                obtain ⟨ad, cs, e1, _, ⟨_, h2⟩, _⟩ := h1.2.2 j y hj
                exact h2
              · rw [List.mem_singleton.1 hy]
                exact ints_of_row' (l := [pick]) (by first | exact fact0 (h) | exact fact0 (allTail (h)) | exact fact0 (allTail (allTail (h))) | exact fact0 (allTail (allTail (allTail (h)))) | exact fact0 (allTail (allTail (allTail (allTail (h))))) | exact fact0 (allTail (allTail (allTail (allTail (allTail (h)))))) | exact fact0 (allTail (allTail (allTail (allTail (allTail (allTail (h))))))) | exact fact0 (allTail (allTail (allTail (allTail (allTail (allTail (allTail (h)))))))) | exact fact0 (allTail (allTail (allTail (allTail (allTail (allTail (allTail (allTail (h))))))))) | exact fact0 (allTail (allTail (allTail (allTail (allTail (allTail (allTail (allTail (allTail (h))))))))))) (by simp) (by simp [maxLen])) (by rw [List.length_append]; exact hc) (by rw [List.length_append, List.length_singleton]; simp only [maxLen]; omega) (by omega) (fact0 h)) ?_
            refine Pw.held sf ?_
            refine Pw.takeBuild 13 (nb 16 32767) rfl rfl rfl rfl rfl (by kernel_rfl) np sf ?_
            refine Pw.one 15 (nb 16 65535) rfl (by kernel_rfl) ?_
            refine Pw.sto rfl rfl inferInstance rfl rfl rfl rfl rfl inferInstance rfl ?_
            refine Pw.held sf ?_
            refine Pw.done (by kernel_rfl) ?_
            exact Pw.then_ (Pw.arrive ((A', c'), (some ⟨gp, 0, none⟩, 1), g9) trivial ⟨rfl, rfl, rfl, rfl, rfl, trivial⟩ rfl (fun w h => allCons (hv w h) (allCons (hv w h) (allCons (by first | exact fact0 (h) | exact fact0 (allTail (h)) | exact fact0 (allTail (allTail (h))) | exact fact0 (allTail (allTail (allTail (h)))) | exact fact0 (allTail (allTail (allTail (allTail (h))))) | exact fact0 (allTail (allTail (allTail (allTail (allTail (h)))))) | exact fact0 (allTail (allTail (allTail (allTail (allTail (allTail (h))))))) | exact fact0 (allTail (allTail (allTail (allTail (allTail (allTail (allTail (h)))))))) | exact fact0 (allTail (allTail (allTail (allTail (allTail (allTail (allTail (allTail (h))))))))) | exact fact0 (allTail (allTail (allTail (allTail (allTail (allTail (allTail (allTail (allTail (h))))))))))) allNil))))
        · skip
          refine Pw.alloc rfl rfl rfl rfl rfl (fun g9 => ?_)
          first | refine Pw.perm (permE2 (X := gL _ _ _)) ?_ | refine Pw.perm (List.Perm.swap _ _ []) ?_ | skip
          refine Pw.held sf ?_
          refine Pw.one 9 (nb 16 17407) rfl (by kernel_rfl) ?_
          refine Pw.lit1 rfl rfl rfl rfl rfl rfl rfl rfl rfl (fun gp => freeHead ?_)
          refine Pw.held sf ?_
          refine Pw.takeBuild 10 (nb 16 18431) rfl rfl rfl rfl rfl (by kernel_rfl) np sf ?_
          refine Pw.one 11 (nb 16 20479) rfl (by kernel_rfl) ?_
          refine Pw.lit13 rfl rfl rfl rfl rfl rfl rfl rfl rfl (fun gv1 => freeHead ?_)
          refine Pw.held sf ?_
          refine Pw.one 12 (nb 16 24575) rfl (by kernel_rfl) ?_
          refine Pw.push (s := qa) (m := s.vs.length) (cells := cellsV s.vs) (news := encV (idV stake pick (some ⟨gp, 0, none⟩, 1))) rfl rfl rfl rfl rfl rfl rfl hqa rfl (encV_one _) (fun w hs j u hu => by
            have h1 : w.heap[gv1]? = some (row (encV (idV stake pick (some ⟨gp, 0, none⟩, 1))) 44) := by
              have h := hs.all
              exact (by first | exact fact0 (h) | exact fact0 (allTail (h)) | exact fact0 (allTail (allTail (h))) | exact fact0 (allTail (allTail (allTail (h)))) | exact fact0 (allTail (allTail (allTail (allTail (h))))) | exact fact0 (allTail (allTail (allTail (allTail (allTail (h)))))) | exact fact0 (allTail (allTail (allTail (allTail (allTail (allTail (h))))))) | exact fact0 (allTail (allTail (allTail (allTail (allTail (allTail (allTail (h)))))))) | exact fact0 (allTail (allTail (allTail (allTail (allTail (allTail (allTail (allTail (h))))))))) | exact fact0 (allTail (allTail (allTail (allTail (allTail (allTail (allTail (allTail (allTail (h)))))))))))
            rw [add_none, cell_of_blk h1]
            simpa using hu) (by omega) (by simp only [maxLen]; omega) (by show (s.vs.length + 1) * 40 ≤ _; omega) rfl rfl (fun qb hqb => ?_)
          rw [← cellsV_snoc] at hqb ⊢
          refine Pw.freeG hqb (fun A' c' e hc => ?_)
          refine Pw.re (d := 37) (v' := .slice A' (s.vs ++ [idV stake pick (some ⟨gp, 0, none⟩, 1)]).length c') rfl (by rw [e, List.length_append]; rfl) ?_
          refine Pw.more (φ := VS (s.vs ++ [idV stake pick (some ⟨gp, 0, none⟩, 1)]) (A', c')) (fun w h => rows_of_cells (fun _ _ => rfl) (fun y hy => by
            rcases List.mem_append.1 hy with hy | hy
            · obtain ⟨j, hj⟩ := List.getElem?_of_mem hy
              have h1 : VS s.vs s.zv w := (hv w h)
              obtain ⟨ad, cs, e1, _, ⟨_, h2⟩, _⟩ := h1.2.2 j y hj
              exact h2
            · rw [List.mem_singleton.1 hy]
              exact ints_of_row' (l := [pick]) (by first | exact fact0 (h) | exact fact0 (allTail (h)) | exact fact0 (allTail (allTail (h))) | exact fact0 (allTail (allTail (allTail (h)))) | exact fact0 (allTail (allTail (allTail (allTail (h))))) | exact fact0 (allTail (allTail (allTail (allTail (allTail (h)))))) | exact fact0 (allTail (allTail (allTail (allTail (allTail (allTail (h))))))) | exact fact0 (allTail (allTail (allTail (allTail (allTail (allTail (allTail (h)))))))) | exact fact0 (allTail (allTail (allTail (allTail (allTail (allTail (allTail (allTail (h))))))))) | exact fact0 (allTail (allTail (allTail (allTail (allTail (allTail (allTail (allTail (allTail (h))))))))))) (by simp) (by simp [maxLen])) (by rw [List.length_append]; exact hc) (by rw [List.length_append, List.length_singleton]; simp only [maxLen]; omega) (by omega) (fact0 h)) ?_
          refine Pw.held sf ?_
          refine Pw.takeBuild 13 (nb 16 32767) rfl rfl rfl rfl rfl (by kernel_rfl) np sf ?_
          refine Pw.one 15 (nb 16 65535) rfl (by kernel_rfl) ?_
          refine Pw.sto rfl rfl inferInstance rfl rfl rfl rfl rfl inferInstance rfl ?_
          refine Pw.held sf ?_
          refine Pw.done (by kernel_rfl) ?_
          exact Pw.then_ (Pw.arrive ((A', c'), (some ⟨gp, 0, none⟩, 1), g9) trivial ⟨rfl, rfl, rfl, rfl, rfl, trivial⟩ rfl (fun w h => allCons (hv w h) (allCons (hv w h) (allCons (by first | exact fact0 (h) | exact fact0 (allTail (h)) | exact fact0 (allTail (allTail (h))) | exact fact0 (allTail (allTail (allTail (h)))) | exact fact0 (allTail (allTail (allTail (allTail (h))))) | exact fact0 (allTail (allTail (allTail (allTail (allTail (h)))))) | exact fact0 (allTail (allTail (allTail (allTail (allTail (allTail (h))))))) | exact fact0 (allTail (allTail (allTail (allTail (allTail (allTail (allTail (h)))))))) | exact fact0 (allTail (allTail (allTail (allTail (allTail (allTail (allTail (allTail (h))))))))) | exact fact0 (allTail (allTail (allTail (allTail (allTail (allTail (allTail (allTail (allTail (h))))))))))) allNil))))
      · skip
        refine Pw.lit1 rfl rfl rfl rfl rfl rfl rfl rfl rfl (fun gp => freeHead ?_)
        refine Pw.held sf ?_
        refine Pw.takeBuild 10 (nb 16 2015) rfl rfl rfl rfl rfl (by kernel_rfl) np sf ?_
        refine Pw.three 5 11 14 (nb 16 2047) (nb 16 4063) (nb 16 18399) rfl rfl rfl (by kernel_rfl) ?_ ?_ ?_
        · skip
          refine Pw.pushG (s := some (ga, 0, [])) (m := 0) (cells := []) (news := cellsV s.vs) rfl rfl rfl rfl rfl rfl rfl ⟨rfl, Nat.le_refl _, rfl⟩ (cellsV_len s.vs) (cellsV_one s.vs) (fun w hs j u hu => (hv w hs.all : VS s.vs s.zv w).toCellsE (by omega) j u hu) (by show 0 < 3; omega) (by simp only [maxLen]; omega) (by show (0 + s.vs.length) * 40 ≤ _; omega) rfl rfl (fun qa hqa => ?_)
          rw [List.nil_append, Nat.zero_add] at hqa ⊢
          refine Pw.held sf ?_
          refine Pw.two 11 14 (nb 16 4095) (nb 16 18431) rfl rfl (by kernel_rfl) ?_ ?_
          · skip
            refine Pw.lit13 rfl rfl rfl rfl rfl rfl rfl rfl rfl (fun gv1 => freeHead ?_)
            refine Pw.held sf ?_
            refine Pw.two 12 14 (nb 16 8191) (nb 16 20479) rfl rfl (by kernel_rfl) ?_ ?_
            · skip
              refine Pw.push (s := qa) (m := s.vs.length) (cells := cellsV s.vs) (news := encV (idV stake pick (some ⟨gp, 0, none⟩, 1))) rfl rfl rfl rfl rfl rfl rfl hqa rfl (encV_one _) (fun w hs j u hu => by
                have h1 : w.heap[gv1]? = some (row (encV (idV stake pick (some ⟨gp, 0, none⟩, 1))) 44) := by
                  have h := hs.all
                  exact (by first | exact fact0 (h) | exact fact0 (allTail (h)) | exact fact0 (allTail (allTail (h))) | exact fact0 (allTail (allTail (allTail (h)))) | exact fact0 (allTail (allTail (allTail (allTail (h))))) | exact fact0 (allTail (allTail (allTail (allTail (allTail (h)))))) | exact fact0 (allTail (allTail (allTail (allTail (allTail (allTail (h))))))) | exact fact0 (allTail (allTail (allTail (allTail (allTail (allTail (allTail (h)))))))) | exact fact0 (allTail (allTail (allTail (allTail (allTail (allTail (allTail (allTail (h))))))))) | exact fact0 (allTail (allTail (allTail (allTail (allTail (allTail (allTail (allTail (allTail (h)))))))))))
                rw [add_none, cell_of_blk h1]
                simpa using hu) (by omega) (by simp only [maxLen]; omega) (by show (s.vs.length + 1) * 40 ≤ _; omega) rfl rfl (fun qb hqb => ?_)
              rw [← cellsV_snoc] at hqb ⊢
              refine Pw.freeG hqb (fun A' c' e hc => ?_)
              refine Pw.re (d := 37) (v' := .slice A' (s.vs ++ [idV stake pick (some ⟨gp, 0, none⟩, 1)]).length c') rfl (by rw [e, List.length_append]; rfl) ?_
              refine Pw.more (φ := VS (s.vs ++ [idV stake pick (some ⟨gp, 0, none⟩, 1)]) (A', c')) (fun w h => rows_of_cells (fun _ _ => rfl) (fun y hy => by
                rcases List.mem_append.1 hy with hy | hy
                · obtain ⟨j, hj⟩ := List.getElem?_of_mem hy
                  have h1 : VS s.vs s.zv w := (hv w h)
                  obtain ⟨ad, cs, e1, _, ⟨_, h2⟩, _⟩ := h1.2.2 j y hj
                  exact h2
                · rw [List.mem_singleton.1 hy]
                  exact ints_of_row' (l := [pick]) (by first | exact fact0 (h) | exact fact0 (allTail (h)) | exact fact0 (allTail (allTail (h))) | exact fact0 (allTail (allTail (allTail (h)))) | exact fact0 (allTail (allTail (allTail (allTail (h))))) | exact fact0 (allTail (allTail (allTail (allTail (allTail (h)))))) | exact fact0 (allTail (allTail (allTail (allTail (allTail (allTail (h))))))) | exact fact0 (allTail (allTail (allTail (allTail (allTail (allTail (allTail (h)))))))) | exact fact0 (allTail (allTail (allTail (allTail (allTail (allTail (allTail (allTail (h))))))))) | exact fact0 (allTail (allTail (allTail (allTail (allTail (allTail (allTail (allTail (allTail (h))))))))))) (by simp) (by simp [maxLen])) (by rw [List.length_append]; exact hc) (by rw [List.length_append, List.length_singleton]; simp only [maxLen]; omega) (by omega) (fact0 h)) ?_
              refine Pw.held sf ?_
              refine Pw.takeBuild 13 (nb 16 16383) rfl rfl rfl rfl rfl (by kernel_rfl) np sf ?_
              refine Pw.one 14 (nb 16 32767) rfl (by kernel_rfl) ?_
              refine Pw.alloc rfl rfl rfl rfl rfl (fun g9 => ?_)
              first | refine Pw.perm (permE2 (X := gL _ _ _)) ?_ | refine Pw.perm (List.Perm.swap _ _ []) ?_ | skip
              refine Pw.held sf ?_
              refine Pw.one 15 (nb 16 65535) rfl (by kernel_rfl) ?_
              refine Pw.sto rfl rfl inferInstance rfl rfl rfl rfl rfl inferInstance rfl ?_
              refine Pw.held sf ?_
              refine Pw.done (by kernel_rfl) ?_
              exact Pw.then_ (Pw.arrive ((A', c'), (some ⟨gp, 0, none⟩, 1), g9) trivial ⟨rfl, rfl, rfl, rfl, rfl, trivial⟩ rfl (fun w h => allCons (hv w h) (allCons (hv w h) (allCons (by first | exact fact0 (h) | exact fact0 (allTail (h)) | exact fact0 (allTail (allTail (h))) | exact fact0 (allTail (allTail (allTail (h)))) | exact fact0 (allTail (allTail (allTail (allTail (h))))) | exact fact0 (allTail (allTail (allTail (allTail (allTail (h)))))) | exact fact0 (allTail (allTail (allTail (allTail (allTail (allTail (h))))))) | exact fact0 (allTail (allTail (allTail (allTail (allTail (allTail (allTail (h)))))))) | exact fact0 (allTail (allTail (allTail (allTail (allTail (allTail (allTail (allTail (h))))))))) | exact fact0 (allTail (allTail (allTail (allTail (allTail (allTail (allTail (allTail (allTail (h))))))))))) allNil))))
            · skip
              refine Pw.alloc rfl rfl rfl rfl rfl (fun g9 => ?_)
              first | refine Pw.perm (permE2 (X := gL _ _ _)) ?_ | refine Pw.perm (List.Perm.swap _ _ []) ?_ | skip
              refine Pw.held sf ?_
              refine Pw.one 12 (nb 16 24575) rfl (by kernel_rfl) ?_
              refine Pw.push (s := qa) (m := s.vs.length) (cells := cellsV s.vs) (news := encV (idV stake pick (some ⟨gp, 0, none⟩, 1))) rfl rfl rfl rfl rfl rfl rfl hqa rfl (encV_one _) (fun w hs j u hu => by
                have h1 : w.heap[gv1]? = some (row (encV (idV stake pick (some ⟨gp, 0, none⟩, 1))) 44) := by
                  have h := hs.all
                  exact (by first | exact fact0 (h) | exact fact0 (allTail (h)) | exact fact0 (allTail (allTail (h))) | exact fact0 (allTail (allTail (allTail (h)))) | exact fact0 (allTail (allTail (allTail (allTail (h))))) | exact fact0 (allTail (allTail (allTail (allTail (allTail (h)))))) | exact fact0 (allTail (allTail (allTail (allTail (allTail (allTail (h))))))) | exact fact0 (allTail (allTail (allTail (allTail (allTail (allTail (allTail (h)))))))) | exact fact0 (allTail (allTail (allTail (allTail (allTail (allTail (allTail (allTail (h))))))))) | exact fact0 (allTail (allTail (allTail (allTail (allTail (allTail (allTail (allTail (allTail (h)))))))))))
                rw [add_none, cell_of_blk h1]
                simpa using hu) (by omega) (by simp only [maxLen]; omega) (by show (s.vs.length + 1) * 40 ≤ _; omega) rfl rfl (fun qb hqb => ?_)
              rw [← cellsV_snoc] at hqb ⊢
              refine Pw.freeG hqb (fun A' c' e hc => ?_)
              refine Pw.re (d := 37) (v' := .slice A' (s.vs ++ [idV stake pick (some ⟨gp, 0, none⟩, 1)]).length c') rfl (by rw [e, List.length_append]; rfl) ?_
              refine Pw.more (φ := VS (s.vs ++ [idV stake pick (some ⟨gp, 0, none⟩, 1)]) (A', c')) (fun w h => rows_of_cells (fun _ _ => rfl) (fun y hy => by
                rcases List.mem_append.1 hy with hy | hy
                · obtain ⟨j, hj⟩ := List.getElem?_of_mem hy
                  have h1 : VS s.vs s.zv w := (hv w h)
                  obtain ⟨ad, cs, e1, _, ⟨_, h2⟩, _⟩ := h1.2.2 j y hj
                  exact h2
                · rw [List.mem_singleton.1 hy]
                  exact ints_of_row' (l := [pick]) (by first | exact fact0 (h) | exact fact0 (allTail (h)) | exact fact0 (allTail (allTail (h))) | exact fact0 (allTail (allTail (allTail (h)))) | exact fact0 (allTail (allTail (allTail (allTail (h))))) | exact fact0 (allTail (allTail (allTail (allTail (allTail (h)))))) | exact fact0 (allTail (allTail (allTail (allTail (allTail (allTail (h))))))) | exact fact0 (allTail (allTail (allTail (allTail (allTail (allTail (allTail (h)))))))) | exact fact0 (allTail (allTail (allTail (allTail (allTail (allTail (allTail (allTail (h))))))))) | exact fact0 (allTail (allTail (allTail (allTail (allTail (allTail (allTail (allTail (allTail (h))))))))))) (by simp) (by simp [maxLen])) (by rw [List.length_append]; exact hc) (by rw [List.length_append, List.length_singleton]; simp only [maxLen]; omega) (by omega) (fact0 h)) ?_
              refine Pw.held sf ?_
              refine Pw.takeBuild 13 (nb 16 32767) rfl rfl rfl rfl rfl (by kernel_rfl) np sf ?_
              refine Pw.one 15 (nb 16 65535) rfl (by kernel_rfl) ?_
              refine Pw.sto rfl rfl inferInstance rfl rfl rfl rfl rfl inferInstance rfl ?_
              refine Pw.held sf ?_
              refine Pw.done (by kernel_rfl) ?_
              exact Pw.then_ (Pw.arrive ((A', c'), (some ⟨gp, 0, none⟩, 1), g9) trivial ⟨rfl, rfl, rfl, rfl, rfl, trivial⟩ rfl (fun w h => allCons (hv w h) (allCons (hv w h) (allCons (by first | exact fact0 (h) | exact fact0 (allTail (h)) | exact fact0 (allTail (allTail (h))) | exact fact0 (allTail (allTail (allTail (h)))) | exact fact0 (allTail (allTail (allTail (allTail (h))))) | exact fact0 (allTail (allTail (allTail (allTail (allTail (h)))))) | exact fact0 (allTail (allTail (allTail (allTail (allTail (allTail (h))))))) | exact fact0 (allTail (allTail (allTail (allTail (allTail (allTail (allTail (h)))))))) | exact fact0 (allTail (allTail (allTail (allTail (allTail (allTail (allTail (allTail (h))))))))) | exact fact0 (allTail (allTail (allTail (allTail (allTail (allTail (allTail (allTail (allTail (h))))))))))) allNil))))
          · skip
            refine Pw.alloc rfl rfl rfl rfl rfl (fun g9 => ?_)
            first | refine Pw.perm (permE2 (X := gL _ _ _)) ?_ | refine Pw.perm (List.Perm.swap _ _ []) ?_ | skip
            refine Pw.held sf ?_
            refine Pw.one 11 (nb 16 20479) rfl (by kernel_rfl) ?_
            refine Pw.lit13 rfl rfl rfl rfl rfl rfl rfl rfl rfl (fun gv1 => freeHead ?_)
            refine Pw.held sf ?_
            refine Pw.one 12 (nb 16 24575) rfl (by kernel_rfl) ?_
            refine Pw.push (s := qa) (m := s.vs.length) (cells := cellsV s.vs) (news := encV (idV stake pick (some ⟨gp, 0, none⟩, 1))) rfl rfl rfl rfl rfl rfl rfl hqa rfl (encV_one _) (fun w hs j u hu => by
              have h1 : w.heap[gv1]? = some (row (encV (idV stake pick (some ⟨gp, 0, none⟩, 1))) 44) := by
                have h := hs.all
                exact (by first | exact fact0 (h) | exact fact0 (allTail (h)) | exact fact0 (allTail (allTail (h))) | exact fact0 (allTail (allTail (allTail (h)))) | exact fact0 (allTail (allTail (allTail (allTail (h))))) | exact fact0 (allTail (allTail (allTail (allTail (allTail (h)))))) | exact fact0 (allTail (allTail (allTail (allTail (allTail (allTail (h))))))) | exact fact0 (allTail (allTail (allTail (allTail (allTail (allTail (allTail (h)))))))) | exact fact0 (allTail (allTail (allTail (allTail (allTail (allTail (allTail (allTail (h))))))))) | exact fact0 (allTail (allTail (allTail (allTail (allTail (allTail (allTail (allTail (allTail (h)))))))))))
              rw [add_none, cell_of_blk h1]
              simpa using hu) (by omega) (by simp only [maxLen]; omega) (by show (s.vs.length + 1) * 40 ≤ _; omega) rfl rfl (fun qb hqb => ?_)
            rw [← cellsV_snoc] at hqb ⊢
            refine Pw.freeG hqb (fun A' c' e hc => ?_)
            refine Pw.re (d := 37) (v' := .slice A' (s.vs ++ [idV stake pick (some ⟨gp, 0, none⟩, 1)]).length c') rfl (by rw [e, List.length_append]; rfl) ?_
            refine Pw.more (φ := VS (s.vs ++ [idV stake pick (some ⟨gp, 0, none⟩, 1)]) (A', c')) (fun w h => rows_of_cells (fun _ _ => rfl) (fun y hy => by
              rcases List.mem_append.1 hy with hy | hy
              · obtain ⟨j, hj⟩ := List.getElem?_of_mem hy
                have h1 : VS s.vs s.zv w := (hv w h)
                obtain ⟨ad, cs, e1, _, ⟨_, h2⟩, _⟩ := h1.2.2 j y hj
                exact h2
              · rw [List.mem_singleton.1 hy]
                exact ints_of_row' (l := [pick]) (by first | exact fact0 (h) | exact fact0 (allTail (h)) | exact fact0 (allTail (allTail (h))) | exact fact0 (allTail (allTail (allTail (h)))) | exact fact0 (allTail (allTail (allTail (allTail (h))))) | exact fact0 (allTail (allTail (allTail (allTail (allTail (h)))))) | exact fact0 (allTail (allTail (allTail (allTail (allTail (allTail (h))))))) | exact fact0 (allTail (allTail (allTail (allTail (allTail (allTail (allTail (h)))))))) | exact fact0 (allTail (allTail (allTail (allTail (allTail (allTail (allTail (allTail (h))))))))) | exact fact0 (allTail (allTail (allTail (allTail (allTail (allTail (allTail (allTail (allTail (h))))))))))) (by simp) (by simp [maxLen])) (by rw [List.length_append]; exact hc) (by rw [List.length_append, List.length_singleton]; simp only [maxLen]; omega) (by omega) (fact0 h)) ?_
            refine Pw.held sf ?_
            refine Pw.takeBuild 13 (nb 16 32767) rfl rfl rfl rfl rfl (by kernel_rfl) np sf ?_
            refine Pw.one 15 (nb 16 65535) rfl (by kernel_rfl) ?_
            refine Pw.sto rfl rfl inferInstance rfl rfl rfl rfl rfl inferInstance rfl ?_
            refine Pw.held sf ?_
            refine Pw.done (by kernel_rfl) ?_
            exact Pw.then_ (Pw.arrive ((A', c'), (some ⟨gp, 0, none⟩, 1), g9) trivial ⟨rfl, rfl, rfl, rfl, rfl, trivial⟩ rfl (fun w h => allCons (hv w h) (allCons (hv w h) (allCons (by first | exact fact0 (h) | exact fact0 (allTail (h)) | exact fact0 (allTail (allTail (h))) | exact fact0 (allTail (allTail (allTail (h)))) | exact fact0 (allTail (allTail (allTail (allTail (h))))) | exact fact0 (allTail (allTail (allTail (allTail (allTail (h)))))) | exact fact0 (allTail (allTail (allTail (allTail (allTail (allTail (h))))))) | exact fact0 (allTail (allTail (allTail (allTail (allTail (allTail (allTail (h)))))))) | exact fact0 (allTail (allTail (allTail (allTail (allTail (allTail (allTail (allTail (h))))))))) | exact fact0 (allTail (allTail (allTail (allTail (allTail (allTail (allTail (allTail (allTail (h))))))))))) allNil))))
        · skip
          refine Pw.lit13 rfl rfl rfl rfl rfl rfl rfl rfl rfl (fun gv1 => freeHead ?_)
          refine Pw.held sf ?_
          refine Pw.two 5 14 (nb 16 4095) (nb 16 20447) rfl rfl (by kernel_rfl) ?_ ?_
          · skip
            refine Pw.pushG (s := some (ga, 0, [])) (m := 0) (cells := []) (news := cellsV s.vs) rfl rfl rfl rfl rfl rfl rfl ⟨rfl, Nat.le_refl _, rfl⟩ (cellsV_len s.vs) (cellsV_one s.vs) (fun w hs j u hu => (hv w hs.all : VS s.vs s.zv w).toCellsE (by omega) j u hu) (by show 0 < 3; omega) (by simp only [maxLen]; omega) (by show (0 + s.vs.length) * 40 ≤ _; omega) rfl rfl (fun qa hqa => ?_)
            rw [List.nil_append, Nat.zero_add] at hqa ⊢
            refine Pw.held sf ?_
            refine Pw.two 12 14 (nb 16 8191) (nb 16 20479) rfl rfl (by kernel_rfl) ?_ ?_
            · skip
              refine Pw.push (s := qa) (m := s.vs.length) (cells := cellsV s.vs) (news := encV (idV stake pick (some ⟨gp, 0, none⟩, 1))) rfl rfl rfl rfl rfl rfl rfl hqa rfl (encV_one _) (fun w hs j u hu => by
                have h1 : w.heap[gv1]? = some (row (encV (idV stake pick (some ⟨gp, 0, none⟩, 1))) 44) := by
                  have h := hs.all
                  exact (by first | exact fact0 (h) | exact fact0 (allTail (h)) | exact fact0 (allTail (allTail (h))) | exact fact0 (allTail (allTail (allTail (h)))) | exact fact0 (allTail (allTail (allTail (allTail (h))))) | exact fact0 (allTail (allTail (allTail (allTail (allTail (h)))))) | exact fact0 (allTail (allTail (allTail (allTail (allTail (allTail (h))))))) | exact fact0 (allTail (allTail (allTail (allTail (allTail (allTail (allTail (h)))))))) | exact fact0 (allTail (allTail (allTail (allTail (allTail (allTail (allTail (allTail (h))))))))) | exact fact0 (allTail (allTail (allTail (allTail (allTail (allTail (allTail (allTail (allTail (h)))))))))))
                rw [add_none, cell_of_blk h1]
                simpa using hu) (by omega) (by simp only [maxLen]; omega) (by show (s.vs.length + 1) * 40 ≤ _; omega) rfl rfl (fun qb hqb => ?_)
              rw [← cellsV_snoc] at hqb ⊢
              refine Pw.freeG hqb (fun A' c' e hc => ?_)
              refine Pw.re (d := 37) (v' := .slice A' (s.vs ++ [idV stake pick (some ⟨gp, 0, none⟩, 1)]).length c') rfl (by rw [e, List.length_append]; rfl) ?_
              refine Pw.more (φ := VS (s.vs ++ [idV stake pick (some ⟨gp, 0, none⟩, 1)]) (A', c')) (fun w h => rows_of_cells (fun _ _ => rfl) (fun y hy => by
                rcases List.mem_append.1 hy with hy | hy
                · obtain ⟨j, hj⟩ := List.getElem?_of_mem hy
                  have h1 : VS s.vs s.zv w := (hv w h)
                  obtain ⟨ad, cs, e1, _, ⟨_, h2⟩, _⟩ := h1.2.2 j y hj
                  exact h2
                · rw [List.mem_singleton.1 hy]
                  exact ints_of_row' (l := [pick]) (by first | exact fact0 (h) | exact fact0 (allTail (h)) | exact fact0 (allTail (allTail (h))) | exact fact0 (allTail (allTail (allTail (h)))) | exact fact0 (allTail (allTail (allTail (allTail (h))))) | exact fact0 (allTail (allTail (allTail (allTail (allTail (h)))))) | exact fact0 (allTail (allTail (allTail (allTail (allTail (allTail (h))))))) | exact fact0 (allTail (allTail (allTail (allTail (allTail (allTail (allTail (h)))))))) | exact fact0 (allTail (allTail (allTail (allTail (allTail (allTail (allTail (allTail (h))))))))) | exact fact0 (allTail (allTail (allTail (allTail (allTail (allTail (allTail (allTail (allTail (h))))))))))) (by simp) (by simp [maxLen])) (by rw [List.length_append]; exact hc) (by rw [List.length_append, List.length_singleton]; simp only [maxLen]; omega) (by omega) (fact0 h)) ?_
              refine Pw.held sf ?_
              refine Pw.takeBuild 13 (nb 16 16383) rfl rfl rfl rfl rfl (by kernel_rfl) np sf ?_
              refine Pw.one 14 (nb 16 32767) rfl (by kernel_rfl) ?_
              refine Pw.alloc rfl rfl rfl rfl rfl (fun g9 => ?_)
              first | refine Pw.perm (permE2 (X := gL _ _ _)) ?_ | refine Pw.perm (List.Perm.swap _ _ []) ?_ | skip
              refine Pw.held sf ?_
              refine Pw.one 15 (nb 16 65535) rfl (by kernel_rfl) ?_
              refine Pw.sto rfl rfl inferInstance rfl rfl rfl rfl rfl inferInstance rfl ?_
              refine Pw.held sf ?_
              refine Pw.done (by kernel_rfl) ?_
              exact Pw.then_ (Pw.arrive ((A', c'), (some ⟨gp, 0, none⟩, 1), g9) trivial ⟨rfl, rfl, rfl, rfl, rfl, trivial⟩ rfl (fun w h => allCons (hv w h) (allCons (hv w h) (allCons (by first | exact fact0 (h) | exact fact0 (allTail (h)) | exact fact0 (allTail (allTail (h))) | exact fact0 (allTail (allTail (allTail (h)))) | exact fact0 (allTail (allTail (allTail (allTail (h))))) | exact fact0 (allTail (allTail (allTail (allTail (allTail (h)))))) | exact fact0 (allTail (allTail (allTail (allTail (allTail (allTail (h))))))) | exact fact0 (allTail (allTail (allTail (allTail (allTail (allTail (allTail (h)))))))) | exact fact0 (allTail (allTail (allTail (allTail (allTail (allTail (allTail (allTail (h))))))))) | exact fact0 (allTail (allTail (allTail (allTail (allTail (allTail (allTail (allTail (allTail (h))))))))))) allNil))))
            · skip
              refine Pw.alloc rfl rfl rfl rfl rfl (fun g9 => ?_)
              first | refine Pw.perm (permE2 (X := gL _ _ _)) ?_ | refine Pw.perm (List.Perm.swap _ _ []) ?_ | skip
              refine Pw.held sf ?_
              refine Pw.one 12 (nb 16 24575) rfl (by kernel_rfl) ?_
              refine Pw.push (s := qa) (m := s.vs.length) (cells := cellsV s.vs) (news := encV (idV stake pick (some ⟨gp, 0, none⟩, 1))) rfl rfl rfl rfl rfl rfl rfl hqa rfl (encV_one _) (fun w hs j u hu => by
                have h1 : w.heap[gv1]? = some (row (encV (idV stake pick (some ⟨gp, 0, none⟩, 1))) 44) := by
                  have h := hs.all
                  exact (by first | exact fact0 (h) | exact fact0 (allTail (h)) | exact fact0 (allTail (allTail (h))) | exact fact0 (allTail (allTail (allTail (h)))) | exact fact0 (allTail (allTail (allTail (allTail (h))))) | exact fact0 (allTail (allTail (allTail (allTail (allTail (h)))))) | exact fact0 (allTail (allTail (allTail (allTail (allTail (allTail (h))))))) | exact fact0 (allTail (allTail (allTail (allTail (allTail (allTail (allTail (h)))))))) | exact fact0 (allTail (allTail (allTail (allTail (allTail (allTail (allTail (allTail (h))))))))) | exact fact0 (allTail (allTail (allTail (allTail (allTail (allTail (allTail (allTail (allTail (h)))))))))))
                rw [add_none, cell_of_blk h1]
                simpa using hu) (by omega) (by simp only [maxLen]; omega) (by show (s.vs.length + 1) * 40 ≤ _; omega) rfl rfl (fun qb hqb => ?_)
              rw [← cellsV_snoc] at hqb ⊢
              refine Pw.freeG hqb (fun A' c' e hc => ?_)
              refine Pw.re (d := 37) (v' := .slice A' (s.vs ++ [idV stake pick (some ⟨gp, 0, none⟩, 1)]).length c') rfl (by rw [e, List.length_append]; rfl) ?_
              refine Pw.more (φ := VS (s.vs ++ [idV stake pick (some ⟨gp, 0, none⟩, 1)]) (A', c')) (fun w h => rows_of_cells (fun _ _ => rfl) (fun y hy => by
                rcases List.mem_append.1 hy with hy | hy
                · obtain ⟨j, hj⟩ := List.getElem?_of_mem hy
                  have h1 : VS s.vs s.zv w := (hv w h)
                  obtain ⟨ad, cs, e1, _, ⟨_, h2⟩, _⟩ := h1.2.2 j y hj
                  exact h2
                · rw [List.mem_singleton.1 hy]
                  exact ints_of_row' (l := [pick]) (by first | exact fact0 (h) | exact fact0 (allTail (h)) | exact fact0 (allTail (allTail (h))) | exact fact0 (allTail (allTail (allTail (h)))) | exact fact0 (allTail (allTail (allTail (allTail (h))))) | exact fact0 (allTail (allTail (allTail (allTail (allTail (h)))))) | exact fact0 (allTail (allTail (allTail (allTail (allTail (allTail (h))))))) | exact fact0 (allTail (allTail (allTail (allTail (allTail (allTail (allTail (h)))))))) | exact fact0 (allTail (allTail (allTail (allTail (allTail (allTail (allTail (allTail (h))))))))) | exact fact0 (allTail (allTail (allTail (allTail (allTail (allTail (allTail (allTail (allTail (h))))))))))) (by simp) (by simp [maxLen])) (by rw [List.length_append]; exact hc) (by rw [List.length_append, List.length_singleton]; simp only [maxLen]; omega) (by omega) (fact0 h)) ?_
              refine Pw.held sf ?_
              refine Pw.takeBuild 13 (nb 16 32767) rfl rfl rfl rfl rfl (by kernel_rfl) np sf ?_
              refine Pw.one 15 (nb 16 65535) rfl (by kernel_rfl) ?_
              refine Pw.sto rfl rfl inferInstance rfl rfl rfl rfl rfl inferInstance rfl ?_
              refine Pw.held sf ?_
              refine Pw.done (by kernel_rfl) ?_
              exact Pw.then_ (Pw.arrive ((A', c'), (some ⟨gp, 0, none⟩, 1), g9) trivial ⟨rfl, rfl, rfl, rfl, rfl, trivial⟩ rfl (fun w h => allCons (hv w h) (allCons (hv w h) (allCons (by first | exact fact0 (h) | exact fact0 (allTail (h)) | exact fact0 (allTail (allTail (h))) | exact fact0 (allTail (allTail (allTail (h)))) | exact fact0 (allTail (allTail (allTail (allTail (h))))) | exact fact0 (allTail (allTail (allTail (allTail (allTail (h)))))) | exact fact0 (allTail (allTail (allTail (allTail (allTail (allTail (h))))))) | exact fact0 (allTail (allTail (allTail (allTail (allTail (allTail (allTail (h)))))))) | exact fact0 (allTail (allTail (allTail (allTail (allTail (allTail (allTail (allTail (h))))))))) | exact fact0 (allTail (allTail (allTail (allTail (allTail (allTail (allTail (allTail (allTail (h))))))))))) allNil))))
          · skip
            refine Pw.alloc rfl rfl rfl rfl rfl (fun g9 => ?_)
            first | refine Pw.perm (permE2 (X := gL _ _ _)) ?_ | refine Pw.perm (List.Perm.swap _ _ []) ?_ | skip
            refine Pw.held sf ?_
            refine Pw.one 5 (nb 16 20479) rfl (by kernel_rfl) ?_
            refine Pw.pushG (s := some (ga, 0, [])) (m := 0) (cells := []) (news := cellsV s.vs) rfl rfl rfl rfl rfl rfl rfl ⟨rfl, Nat.le_refl _, rfl⟩ (cellsV_len s.vs) (cellsV_one s.vs) (fun w hs j u hu => (hv w hs.all : VS s.vs s.zv w).toCellsE (by omega) j u hu) (by show 0 < 3; omega) (by simp only [maxLen]; omega) (by show (0 + s.vs.length) * 40 ≤ _; omega) rfl rfl (fun qa hqa => ?_)
            rw [List.nil_append, Nat.zero_add] at hqa ⊢
            refine Pw.held sf ?_
            refine Pw.one 12 (nb 16 24575) rfl (by kernel_rfl) ?_
            refine Pw.push (s := qa) (m := s.vs.length) (cells := cellsV s.vs) (news := encV (idV stake pick (some ⟨gp, 0, none⟩, 1))) rfl rfl rfl rfl rfl rfl rfl hqa rfl (encV_one _) (fun w hs j u hu => by
              have h1 : w.heap[gv1]? = some (row (encV (idV stake pick (some ⟨gp, 0, none⟩, 1))) 44) := by
                have h := hs.all
                exact (by first | exact fact0 (h) | exact fact0 (allTail (h)) | exact fact0 (allTail (allTail (h))) | exact fact0 (allTail (allTail (allTail (h)))) | exact fact0 (allTail (allTail (allTail (allTail (h))))) | exact fact0 (allTail (allTail (allTail (allTail (allTail (h)))))) | exact fact0 (allTail (allTail (allTail (allTail (allTail (allTail (h))))))) | exact fact0 (allTail (allTail (allTail (allTail (allTail (allTail (allTail (h)))))))) | exact fact0 (allTail (allTail (allTail (allTail (allTail (allTail (allTail (allTail (h))))))))) | exact fact0 (allTail (allTail (allTail (allTail (allTail (allTail (allTail (allTail (allTail (h)))))))))))
              rw [add_none, cell_of_blk h1]
              simpa using hu) (by omega) (by simp only [maxLen]; omega) (by show (s.vs.length + 1) * 40 ≤ _; omega) rfl rfl (fun qb hqb => ?_)
            rw [← cellsV_snoc] at hqb ⊢
            refine Pw.freeG hqb (fun A' c' e hc => ?_)
            refine Pw.re (d := 37) (v' := .slice A' (s.vs ++ [idV stake pick (some ⟨gp, 0, none⟩, 1)]).length c') rfl (by rw [e, List.length_append]; rfl) ?_
            refine Pw.more (φ := VS (s.vs ++ [idV stake pick (some ⟨gp, 0, none⟩, 1)]) (A', c')) (fun w h => rows_of_cells (fun _ _ => rfl) (fun y hy => by
              rcases List.mem_append.1 hy with hy | hy
              · obtain ⟨j, hj⟩ := List.getElem?_of_mem hy
                have h1 : VS s.vs s.zv w := (hv w h)
                obtain ⟨ad, cs, e1, _, ⟨_, h2⟩, _⟩ := h1.2.2 j y hj
                exact h2
              · rw [List.mem_singleton.1 hy]
                exact ints_of_row' (l := [pick]) (by first | exact fact0 (h) | exact fact0 (allTail (h)) | exact fact0 (allTail (allTail (h))) | exact fact0 (allTail (allTail (allTail (h)))) | exact fact0 (allTail (allTail (allTail (allTail (h))))) | exact fact0 (allTail (allTail (allTail (allTail (allTail (h)))))) | exact fact0 (allTail (allTail (allTail (allTail (allTail (allTail (h))))))) | exact fact0 (allTail (allTail (allTail (allTail (allTail (allTail (allTail (h)))))))) | exact fact0 (allTail (allTail (allTail (allTail (allTail (allTail (allTail (allTail (h))))))))) | exact fact0 (allTail (allTail (allTail (allTail (allTail (allTail (allTail (allTail (allTail (h))))))))))) (by simp) (by simp [maxLen])) (by rw [List.length_append]; exact hc) (by rw [List.length_append, List.length_singleton]; simp only [maxLen]; omega) (by omega) (fact0 h)) ?_
            refine Pw.held sf ?_
            refine Pw.takeBuild 13 (nb 16 32767) rfl rfl rfl rfl rfl (by kernel_rfl) np sf ?_
            refine Pw.one 15 (nb 16 65535) rfl (by kernel_rfl) ?_
            refine Pw.sto rfl rfl inferInstance rfl rfl rfl rfl rfl inferInstance rfl ?_
            refine Pw.held sf ?_
            refine Pw.done (by kernel_rfl) ?_
            exact Pw.then_ (Pw.arrive ((A', c'), (some ⟨gp, 0, none⟩, 1), g9) trivial ⟨rfl, rfl, rfl, rfl, rfl, trivial⟩ rfl (fun w h => allCons (hv w h) (allCons (hv w h) (allCons (by first | exact fact0 (h) | exact fact0 (allTail (h)) | exact fact0 (allTail (allTail (h))) | exact fact0 (allTail (allTail (allTail (h)))) | exact fact0 (allTail (allTail (allTail (allTail (h))))) | exact fact0 (allTail (allTail (allTail (allTail (allTail (h)))))) | exact fact0 (allTail (allTail (allTail (allTail (allTail (allTail (h))))))) | exact fact0 (allTail (allTail (allTail (allTail (allTail (allTail (allTail (h)))))))) | exact fact0 (allTail (allTail (allTail (allTail (allTail (allTail (allTail (allTail (h))))))))) | exact fact0 (allTail (allTail (allTail (allTail (allTail (allTail (allTail (allTail (allTail (h))))))))))) allNil))))
        · skip
          refine Pw.alloc rfl rfl rfl rfl rfl (fun g9 => ?_)
          first | refine Pw.perm (permE2 (X := gL _ _ _)) ?_ | refine Pw.perm (List.Perm.swap _ _ []) ?_ | skip
          refine Pw.held sf ?_
          refine Pw.two 5 11 (nb 16 18431) (nb 16 20447) rfl rfl (by kernel_rfl) ?_ ?_
          · skip
            refine Pw.pushG (s := some (ga, 0, [])) (m := 0) (cells := []) (news := cellsV s.vs) rfl rfl rfl rfl rfl rfl rfl ⟨rfl, Nat.le_refl _, rfl⟩ (cellsV_len s.vs) (cellsV_one s.vs) (fun w hs j u hu => (hv w hs.all : VS s.vs s.zv w).toCellsE (by omega) j u hu) (by show 0 < 3; omega) (by simp only [maxLen]; omega) (by show (0 + s.vs.length) * 40 ≤ _; omega) rfl rfl (fun qa hqa => ?_)
            rw [List.nil_append, Nat.zero_add] at hqa ⊢
            refine Pw.held sf ?_
            refine Pw.one 11 (nb 16 20479) rfl (by kernel_rfl) ?_
            refine Pw.lit13 rfl rfl rfl rfl rfl rfl rfl rfl rfl (fun gv1 => freeHead ?_)
            refine Pw.held sf ?_
            refine Pw.one 12 (nb 16 24575) rfl (by kernel_rfl) ?_
            refine Pw.push (s := qa) (m := s.vs.length) (cells := cellsV s.vs) (news := encV (idV stake pick (some ⟨gp, 0, none⟩, 1))) rfl rfl rfl rfl rfl rfl rfl hqa rfl (encV_one _) (fun w hs j u hu => by
              have h1 : w.heap[gv1]? = some (row (encV (idV stake pick (some ⟨gp, 0, none⟩, 1))) 44) := by
                have h := hs.all
                exact (by first | exact fact0 (h) | exact fact0 (allTail (h)) | exact fact0 (allTail (allTail (h))) | exact fact0 (allTail (allTail (allTail (h)))) | exact fact0 (allTail (allTail (allTail (allTail (h))))) | exact fact0 (allTail (allTail (allTail (allTail (allTail (h)))))) | exact fact0 (allTail (allTail (allTail (allTail (allTail (allTail (h))))))) | exact fact0 (allTail (allTail (allTail (allTail (allTail (allTail (allTail (h)))))))) | exact fact0 (allTail (allTail (allTail (allTail (allTail (allTail (allTail (allTail (h))))))))) | exact fact0 (allTail (allTail (allTail (allTail (allTail (allTail (allTail (allTail (allTail (h)))))))))))
              rw [add_none, cell_of_blk h1]
              simpa using hu) (by omega) (by simp only [maxLen]; omega) (by show (s.vs.length + 1) * 40 ≤ _; omega) rfl rfl (fun qb hqb => ?_)
            rw [← cellsV_snoc] at hqb ⊢
            refine Pw.freeG hqb (fun A' c' e hc => ?_)
            refine Pw.re (d := 37) (v' := .slice A' (s.vs ++ [idV stake pick (some ⟨gp, 0, none⟩, 1)]).length c') rfl (by rw [e, List.length_append]; rfl) ?_
            refine Pw.more (φ := VS (s.vs ++ [idV stake pick (some ⟨gp, 0, none⟩, 1)]) (A', c')) (fun w h => rows_of_cells (fun _ _ => rfl) (fun y hy => by
              rcases List.mem_append.1 hy with hy | hy
              · obtain ⟨j, hj⟩ := List.getElem?_of_mem hy
                have h1 : VS s.vs s.zv w := (hv w h)
                obtain ⟨ad, cs, e1, _, ⟨_, h2⟩, _⟩ := h1.2.2 j y hj
                exact h2
              · rw [List.mem_singleton.1 hy]
                exact ints_of_row' (l := [pick]) (by first | exact fact0 (h) | exact fact0 (allTail (h)) | exact fact0 (allTail (allTail (h))) | exact fact0 (allTail (allTail (allTail (h)))) | exact fact0 (allTail (allTail (allTail (allTail (h))))) | exact fact0 (allTail (allTail (allTail (allTail (allTail (h)))))) | exact fact0 (allTail (allTail (allTail (allTail (allTail (allTail (h))))))) | exact fact0 (allTail (allTail (allTail (allTail (allTail (allTail (allTail (h)))))))) | exact fact0 (allTail (allTail (allTail (allTail (allTail (allTail (allTail (allTail (h))))))))) | exact fact0 (allTail (allTail (allTail (allTail (allTail (allTail (allTail (allTail (allTail (h))))))))))) (by simp) (by simp [maxLen])) (by rw [List.length_append]; exact hc) (by rw [List.length_append, List.length_singleton]; simp only [maxLen]; omega) (by omega) (fact0 h)) ?_
            refine Pw.held sf ?_
            refine Pw.takeBuild 13 (nb 16 32767) rfl rfl rfl rfl rfl (by kernel_rfl) np sf ?_
            refine Pw.one 15 (nb 16 65535) rfl (by kernel_rfl) ?_
            refine Pw.sto rfl rfl inferInstance rfl rfl rfl rfl rfl inferInstance rfl ?_
            refine Pw.held sf ?_
            refine Pw.done (by kernel_rfl) ?_
            exact Pw.then_ (Pw.arrive ((A', c'), (some ⟨gp, 0, none⟩, 1), g9) trivial ⟨rfl, rfl, rfl, rfl, rfl, trivial⟩ rfl (fun w h => allCons (hv w h) (allCons (hv w h) (allCons (by first | exact fact0 (h) | exact fact0 (allTail (h)) | exact fact0 (allTail (allTail (h))) | exact fact0 (allTail (allTail (allTail (h)))) | exact fact0 (allTail (allTail (allTail (allTail (h))))) | exact fact0 (allTail (allTail (allTail (allTail (allTail (h)))))) | exact fact0 (allTail (allTail (allTail (allTail (allTail (allTail (h))))))) | exact fact0 (allTail (allTail (allTail (allTail (allTail (allTail (allTail (h)))))))) | exact fact0 (allTail (allTail (allTail (allTail (allTail (allTail (allTail (allTail (h))))))))) | exact fact0 (allTail (allTail (allTail (allTail (allTail (allTail (allTail (allTail (allTail (h))))))))))) allNil))))
          · skip
            refine Pw.lit13 rfl rfl rfl rfl rfl rfl rfl rfl rfl (fun gv1 => freeHead ?_)
            refine Pw.held sf ?_
            refine Pw.one 5 (nb 16 20479) rfl (by kernel_rfl) ?_
            refine Pw.pushG (s := some (ga, 0, [])) (m := 0) (cells := []) (news := cellsV s.vs) rfl rfl rfl rfl rfl rfl rfl ⟨rfl, Nat.le_refl _, rfl⟩ (cellsV_len s.vs) (cellsV_one s.vs) (fun w hs j u hu => (hv w hs.all : VS s.vs s.zv w).toCellsE (by omega) j u hu) (by show 0 < 3; omega) (by simp only [maxLen]; omega) (by show (0 + s.vs.length) * 40 ≤ _; omega) rfl rfl (fun qa hqa => ?_)
            rw [List.nil_append, Nat.zero_add] at hqa ⊢
            refine Pw.held sf ?_
            refine Pw.one 12 (nb 16 24575) rfl (by kernel_rfl) ?_
            refine Pw.push (s := qa) (m := s.vs.length) (cells := cellsV s.vs) (news := encV (idV stake pick (some ⟨gp, 0, none⟩, 1))) rfl rfl rfl rfl rfl rfl rfl hqa rfl (encV_one _) (fun w hs j u hu => by
              have h1 : w.heap[gv1]? = some (row (encV (idV stake pick (some ⟨gp, 0, none⟩, 1))) 44) := by
                have h := hs.all
                exact (by first | exact fact0 (h) | exact fact0 (allTail (h)) | exact fact0 (allTail (allTail (h))) | exact fact0 (allTail (allTail (allTail (h)))) | exact fact0 (allTail (allTail (allTail (allTail (h))))) | exact fact0 (allTail (allTail (allTail (allTail (allTail (h)))))) | exact fact0 (allTail (allTail (allTail (allTail (allTail (allTail (h))))))) | exact fact0 (allTail (allTail (allTail (allTail (allTail (allTail (allTail (h)))))))) | exact fact0 (allTail (allTail (allTail (allTail (allTail (allTail (allTail (allTail (h))))))))) | exact fact0 (allTail (allTail (allTail (allTail (allTail (allTail (allTail (allTail (allTail (h)))))))))))
              rw [add_none, cell_of_blk h1]
              simpa using hu) (by omega) (by simp only [maxLen]; omega) (by show (s.vs.length + 1) * 40 ≤ _; omega) rfl rfl (fun qb hqb => ?_)
            rw [← cellsV_snoc] at hqb ⊢
            refine Pw.freeG hqb (fun A' c' e hc => ?_)
            refine Pw.re (d := 37) (v' := .slice A' (s.vs ++ [idV stake pick (some ⟨gp, 0, none⟩, 1)]).length c') rfl (by rw [e, List.length_append]; rfl) ?_
            refine Pw.more (φ := VS (s.vs ++ [idV stake pick (some ⟨gp, 0, none⟩, 1)]) (A', c')) (fun w h => rows_of_cells (fun _ _ => rfl) (fun y hy => by
              rcases List.mem_append.1 hy with hy | hy
              · obtain ⟨j, hj⟩ := List.getElem?_of_mem hy
                have h1 : VS s.vs s.zv w := (hv w h)
                obtain ⟨ad, cs, e1, _, ⟨_, h2⟩, _⟩ := h1.2.2 j y hj
                exact h2
              · rw [List.mem_singleton.1 hy]
                exact ints_of_row' (l := [pick]) (by first | exact fact0 (h) | exact fact0 (allTail (h)) | exact fact0 (allTail (allTail (h))) | exact fact0 (allTail (allTail (allTail (h)))) | exact fact0 (allTail (allTail (allTail (allTail (h))))) | exact fact0 (allTail (allTail (allTail (allTail (allTail (h)))))) | exact fact0 (allTail (allTail (allTail (allTail (allTail (allTail (h))))))) | exact fact0 (allTail (allTail (allTail (allTail (allTail (allTail (allTail (h)))))))) | exact fact0 (allTail (allTail (allTail (allTail (allTail (allTail (allTail (allTail (h))))))))) | exact fact0 (allTail (allTail (allTail (allTail (allTail (allTail (allTail (allTail (allTail (h))))))))))) (by simp) (by simp [maxLen])) (by rw [List.length_append]; exact hc) (by rw [List.length_append, List.length_singleton]; simp only [maxLen]; omega) (by omega) (fact0 h)) ?_
            refine Pw.held sf ?_
            refine Pw.takeBuild 13 (nb 16 32767) rfl rfl rfl rfl rfl (by kernel_rfl) np sf ?_
            refine Pw.one 15 (nb 16 65535) rfl (by kernel_rfl) ?_
            refine Pw.sto rfl rfl inferInstance rfl rfl rfl rfl rfl inferInstance rfl ?_
            refine Pw.held sf ?_
            refine Pw.done (by kernel_rfl) ?_
            exact Pw.then_ (Pw.arrive ((A', c'), (some ⟨gp, 0, none⟩, 1), g9) trivial ⟨rfl, rfl, rfl, rfl, rfl, trivial⟩ rfl (fun w h => allCons (hv w h) (allCons (hv w h) (allCons (by first | exact fact0 (h) | exact fact0 (allTail (h)) | exact fact0 (allTail (allTail (h))) | exact fact0 (allTail (allTail (allTail (h)))) | exact fact0 (allTail (allTail (allTail (allTail (h))))) | exact fact0 (allTail (allTail (allTail (allTail (allTail (h)))))) | exact fact0 (allTail (allTail (allTail (allTail (allTail (allTail (h))))))) | exact fact0 (allTail (allTail (allTail (allTail (allTail (allTail (allTail (h)))))))) | exact fact0 (allTail (allTail (allTail (allTail (allTail (allTail (allTail (allTail (h))))))))) | exact fact0 (allTail (allTail (allTail (allTail (allTail (allTail (allTail (allTail (allTail (h))))))))))) allNil))))
      · skip
        refine Pw.alloc rfl rfl rfl rfl rfl (fun g9 => ?_)
        first | refine Pw.perm (permE2 (X := gL _ _ _)) ?_ | refine Pw.perm (List.Perm.swap _ _ []) ?_ | skip
        refine Pw.held sf ?_
        refine Pw.two 5 9 (nb 16 16895) (nb 16 17375) rfl rfl (by kernel_rfl) ?_ ?_
        · skip
          refine Pw.pushG (s := some (ga, 0, [])) (m := 0) (cells := []) (news := cellsV s.vs) rfl rfl rfl rfl rfl rfl rfl ⟨rfl, Nat.le_refl _, rfl⟩ (cellsV_len s.vs) (cellsV_one s.vs) (fun w hs j u hu => (hv w hs.all : VS s.vs s.zv w).toCellsE (by omega) j u hu) (by show 0 < 3; omega) (by simp only [maxLen]; omega) (by show (0 + s.vs.length) * 40 ≤ _; omega) rfl rfl (fun qa hqa => ?_)
          rw [List.nil_append, Nat.zero_add] at hqa ⊢
          refine Pw.held sf ?_
          refine Pw.one 9 (nb 16 17407) rfl (by kernel_rfl) ?_
          refine Pw.lit1 rfl rfl rfl rfl rfl rfl rfl rfl rfl (fun gp => freeHead ?_)
          refine Pw.held sf ?_
          refine Pw.takeBuild 10 (nb 16 18431) rfl rfl rfl rfl rfl (by kernel_rfl) np sf ?_
          refine Pw.one 11 (nb 16 20479) rfl (by kernel_rfl) ?_
          refine Pw.lit13 rfl rfl rfl rfl rfl rfl rfl rfl rfl (fun gv1 => freeHead ?_)
          refine Pw.held sf ?_
          refine Pw.one 12 (nb 16 24575) rfl (by kernel_rfl) ?_
          refine Pw.push (s := qa) (m := s.vs.length) (cells := cellsV s.vs) (news := encV (idV stake pick (some ⟨gp, 0, none⟩, 1))) rfl rfl rfl rfl rfl rfl rfl hqa rfl (encV_one _) (fun w hs j u hu => by
            have h1 : w.heap[gv1]? = some (row (encV (idV stake pick (some ⟨gp, 0, none⟩, 1))) 44) := by
              have h := hs.all
              exact (by first | exact fact0 (h) | exact fact0 (allTail (h)) | exact fact0 (allTail (allTail (h))) | exact fact0 (allTail (allTail (allTail (h)))) | exact fact0 (allTail (allTail (allTail (allTail (h))))) | exact fact0 (allTail (allTail (allTail (allTail (allTail (h)))))) | exact fact0 (allTail (allTail (allTail (allTail (allTail (allTail (h))))))) | exact fact0 (allTail (allTail (allTail (allTail (allTail (allTail (allTail (h)))))))) | exact fact0 (allTail (allTail (allTail (allTail (allTail (allTail (allTail (allTail (h))))))))) | exact fact0 (allTail (allTail (allTail (allTail (allTail (allTail (allTail (allTail (allTail (h)))))))))))
            rw [add_none, cell_of_blk h1]
            simpa using hu) (by omega) (by simp only [maxLen]; omega) (by show (s.vs.length + 1) * 40 ≤ _; omega) rfl rfl (fun qb hqb => ?_)
          rw [← cellsV_snoc] at hqb ⊢
          refine Pw.freeG hqb (fun A' c' e hc => ?_)
          refine Pw.re (d := 37) (v' := .slice A' (s.vs ++ [idV stake pick (some ⟨gp, 0, none⟩, 1)]).length c') rfl (by rw [e, List.length_append]; rfl) ?_
          refine Pw.more (φ := VS (s.vs ++ [idV stake pick (some ⟨gp, 0, none⟩, 1)]) (A', c')) (fun w h => rows_of_cells (fun _ _ => rfl) (fun y hy => by
            rcases List.mem_append.1 hy with hy | hy
            · obtain ⟨j, hj⟩ := List.getElem?_of_mem hy
              have h1 : VS s.vs s.zv w := (hv w h)
              obtain ⟨ad, cs, e1, _, ⟨_, h2⟩, _⟩ := h1.2.2 j y hj
              exact h2
            · rw [List.mem_singleton.1 hy]
              exact ints_of_row' (l := [pick]) (by first | exact fact0 (h) | exact fact0 (allTail (h)) | exact fact0 (allTail (allTail (h))) | exact fact0 (allTail (allTail (allTail (h)))) | exact fact0 (allTail (allTail (allTail (allTail (h))))) | exact fact0 (allTail (allTail (allTail (allTail (allTail (h)))))) | exact fact0 (allTail (allTail (allTail (allTail (allTail (allTail (h))))))) | exact fact0 (allTail (allTail (allTail (allTail (allTail (allTail (allTail (h)))))))) | exact fact0 (allTail (allTail (allTail (allTail (allTail (allTail (allTail (allTail (h))))))))) | exact fact0 (allTail (allTail (allTail (allTail (allTail (allTail (allTail (allTail (allTail (h))))))))))) (by simp) (by simp [maxLen])) (by rw [List.length_append]; exact hc) (by rw [List.length_append, List.length_singleton]; simp only [maxLen]; omega) (by omega) (fact0 h)) ?_
          refine Pw.held sf ?_
          refine Pw.takeBuild 13 (nb 16 32767) rfl rfl rfl rfl rfl (by kernel_rfl) np sf ?_
          refine Pw.one 15 (nb 16 65535) rfl (by kernel_rfl) ?_
          refine Pw.sto rfl rfl inferInstance rfl rfl rfl rfl rfl inferInstance rfl ?_
          refine Pw.held sf ?_
          refine Pw.done (by kernel_rfl) ?_
          exact Pw.then_ (Pw.arrive ((A', c'), (some ⟨gp, 0, none⟩, 1), g9) trivial ⟨rfl, rfl, rfl, rfl, rfl, trivial⟩ rfl (fun w h => allCons (hv w h) (allCons (hv w h) (allCons (by first | exact fact0 (h) | exact fact0 (allTail (h)) | exact fact0 (allTail (allTail (h))) | exact fact0 (allTail (allTail (allTail (h)))) | exact fact0 (allTail (allTail (allTail (allTail (h))))) | exact fact0 (allTail (allTail (allTail (allTail (allTail (h)))))) | exact fact0 (allTail (allTail (allTail (allTail (allTail (allTail (h))))))) | exact fact0 (allTail (allTail (allTail (allTail (allTail (allTail (allTail (h)))))))) | exact fact0 (allTail (allTail (allTail (allTail (allTail (allTail (allTail (allTail (h))))))))) | exact fact0 (allTail (allTail (allTail (allTail (allTail (allTail (allTail (allTail (allTail (h))))))))))) allNil))))
        · skip
          refine Pw.lit1 rfl rfl rfl rfl rfl rfl rfl rfl rfl (fun gp => freeHead ?_)
          refine Pw.held sf ?_
          refine Pw.takeBuild 10 (nb 16 18399) rfl rfl rfl rfl rfl (by kernel_rfl) np sf ?_
          refine Pw.two 5 11 (nb 16 18431) (nb 16 20447) rfl rfl (by kernel_rfl) ?_ ?_
          · skip
            refine Pw.pushG (s := some (ga, 0, [])) (m := 0) (cells := []) (news := cellsV s.vs) rfl rfl rfl rfl rfl rfl rfl ⟨rfl, Nat.le_refl _, rfl⟩ (cellsV_len s.vs) (cellsV_one s.vs) (fun w hs j u hu => (hv w hs.all : VS s.vs s.zv w).toCellsE (by omega) j u hu) (by show 0 < 3; omega) (by simp only [maxLen]; omega) (by show (0 + s.vs.length) * 40 ≤ _; omega) rfl rfl (fun qa hqa => ?_)
            rw [List.nil_append, Nat.zero_add] at hqa ⊢
            refine Pw.held sf ?_
            refine Pw.one 11 (nb 16 20479) rfl (by kernel_rfl) ?_
            refine Pw.lit13 rfl rfl rfl rfl rfl rfl rfl rfl rfl (fun gv1 => freeHead ?_)
            refine Pw.held sf ?_
            refine Pw.one 12 (nb 16 24575) rfl (by kernel_rfl) ?_
            refine Pw.push (s := qa) (m := s.vs.length) (cells := cellsV s.vs) (news := encV (idV stake pick (some ⟨gp, 0, none⟩, 1))) rfl rfl rfl rfl rfl rfl rfl hqa rfl (encV_one _) (fun w hs j u hu => by
              have h1 : w.heap[gv1]? = some (row (encV (idV stake pick (some ⟨gp, 0, none⟩, 1))) 44) := by
                have h := hs.all
                exact (by first | exact fact0 (h) | exact fact0 (allTail (h)) | exact fact0 (allTail (allTail (h))) | exact fact0 (allTail (allTail (allTail (h)))) | exact fact0 (allTail (allTail (allTail (allTail (h))))) | exact fact0 (allTail (allTail (allTail (allTail (allTail (h)))))) | exact fact0 (allTail (allTail (allTail (allTail (allTail (allTail (h))))))) | exact fact0 (allTail (allTail (allTail (allTail (allTail (allTail (allTail (h)))))))) | exact fact0 (allTail (allTail (allTail (allTail (allTail (allTail (allTail (allTail (h))))))))) | exact fact0 (allTail (allTail (allTail (allTail (allTail (allTail (allTail (allTail (allTail (h)))))))))))
              rw [add_none, cell_of_blk h1]
              simpa using hu) (by omega) (by simp only [maxLen]; omega) (by show (s.vs.length + 1) * 40 ≤ _; omega) rfl rfl (fun qb hqb => ?_)
            rw [← cellsV_snoc] at hqb ⊢
            refine Pw.freeG hqb (fun A' c' e hc => ?_)
            refine Pw.re (d := 37) (v' := .slice A' (s.vs ++ [idV stake pick (some ⟨gp, 0, none⟩, 1)]).length c') rfl (by rw [e, List.length_append]; rfl) ?_
            refine Pw.more (φ := VS (s.vs ++ [idV stake pick (some ⟨gp, 0, none⟩, 1)]) (A', c')) (fun w h => rows_of_cells (fun _ _ => rfl) (fun y hy => by
              rcases List.mem_append.1 hy with hy | hy
              · obtain ⟨j, hj⟩ := List.getElem?_of_mem hy
                have h1 : VS s.vs s.zv w := (hv w h)
                obtain ⟨ad, cs, e1, _, ⟨_, h2⟩, _⟩ := h1.2.2 j y hj
                exact h2
              · rw [List.mem_singleton.1 hy]
                exact ints_of_row' (l := [pick]) (by first | exact fact0 (h) | exact fact0 (allTail (h)) | exact fact0 (allTail (allTail (h))) | exact fact0 (allTail (allTail (allTail (h)))) | exact fact0 (allTail (allTail (allTail (allTail (h))))) | exact fact0 (allTail (allTail (allTail (allTail (allTail (h)))))) | exact fact0 (allTail (allTail (allTail (allTail (allTail (allTail (h))))))) | exact fact0 (allTail (allTail (allTail (allTail (allTail (allTail (allTail (h)))))))) | exact fact0 (allTail (allTail (allTail (allTail (allTail (allTail (allTail (allTail (h))))))))) | exact fact0 (allTail (allTail (allTail (allTail (allTail (allTail (allTail (allTail (allTail (h))))))))))) (by simp) (by simp [maxLen])) (by rw [List.length_append]; exact hc) (by rw [List.length_append, List.length_singleton]; simp only [maxLen]; omega) (by omega) (fact0 h)) ?_
            refine Pw.held sf ?_
            refine Pw.takeBuild 13 (nb 16 32767) rfl rfl rfl rfl rfl (by kernel_rfl) np sf ?_
            refine Pw.one 15 (nb 16 65535) rfl (by kernel_rfl) ?_
            refine Pw.sto rfl rfl inferInstance rfl rfl rfl rfl rfl inferInstance rfl ?_
            refine Pw.held sf ?_
            refine Pw.done (by kernel_rfl) ?_
            exact Pw.then_ (Pw.arrive ((A', c'), (some ⟨gp, 0, none⟩, 1), g9) trivial ⟨rfl, rfl, rfl, rfl, rfl, trivial⟩ rfl (fun w h => allCons (hv w h) (allCons (hv w h) (allCons (by first | exact fact0 (h) | exact fact0 (allTail (h)) | exact fact0 (allTail (allTail (h))) | exact fact0 (allTail (allTail (allTail (h)))) | exact fact0 (allTail (allTail (allTail (allTail (h))))) | exact fact0 (allTail (allTail (allTail (allTail (allTail (h)))))) | exact fact0 (allTail (allTail (allTail (allTail (allTail (allTail (h))))))) | exact fact0 (allTail (allTail (allTail (allTail (allTail (allTail (allTail (h)))))))) | exact fact0 (allTail (allTail (allTail (allTail (allTail (allTail (allTail (allTail (h))))))))) | exact fact0 (allTail (allTail (allTail (allTail (allTail (allTail (allTail (allTail (allTail (h))))))))))) allNil))))
          · skip
            refine Pw.lit13 rfl rfl rfl rfl rfl rfl rfl rfl rfl (fun gv1 => freeHead ?_)
            refine Pw.held sf ?_
            refine Pw.one 5 (nb 16 20479) rfl (by kernel_rfl) ?_
            refine Pw.pushG (s := some (ga, 0, [])) (m := 0) (cells := []) (news := cellsV s.vs) rfl rfl rfl rfl rfl rfl rfl ⟨rfl, Nat.le_refl _, rfl⟩ (cellsV_len s.vs) (cellsV_one s.vs) (fun w hs j u hu => (hv w hs.all : VS s.vs s.zv w).toCellsE (by omega) j u hu) (by show 0 < 3; omega) (by simp only [maxLen]; omega) (by show (0 + s.vs.length) * 40 ≤ _; omega) rfl rfl (fun qa hqa => ?_)
            rw [List.nil_append, Nat.zero_add] at hqa ⊢
            refine Pw.held sf ?_
            refine Pw.one 12 (nb 16 24575) rfl (by kernel_rfl) ?_
            refine Pw.push (s := qa) (m := s.vs.length) (cells := cellsV s.vs) (news := encV (idV stake pick (some ⟨gp, 0, none⟩, 1))) rfl rfl rfl rfl rfl rfl rfl hqa rfl (encV_one _) (fun w hs j u hu => by
              have h1 : w.heap[gv1]? = some (row (encV (idV stake pick (some ⟨gp, 0, none⟩, 1))) 44) := by
                have h := hs.all
                exact (by first | exact fact0 (h) | exact fact0 (allTail (h)) | exact fact0 (allTail (allTail (h))) | exact fact0 (allTail (allTail (allTail (h)))) | exact fact0 (allTail (allTail (allTail (allTail (h))))) | exact fact0 (allTail (allTail (allTail (allTail (allTail (h)))))) | exact fact0 (allTail (allTail (allTail (allTail (allTail (allTail (h))))))) | exact fact0 (allTail (allTail (allTail (allTail (allTail (allTail (allTail (h)))))))) | exact fact0 (allTail (allTail (allTail (allTail (allTail (allTail (allTail (allTail (h))))))))) | exact fact0 (allTail (allTail (allTail (allTail (allTail (allTail (allTail (allTail (allTail (h)))))))))))
              rw [add_none, cell_of_blk h1]
              simpa using hu) (by omega) (by simp only [maxLen]; omega) (by show (s.vs.length + 1) * 40 ≤ _; omega) rfl rfl (fun qb hqb => ?_)
            rw [← cellsV_snoc] at hqb ⊢
            refine Pw.freeG hqb (fun A' c' e hc => ?_)
            refine Pw.re (d := 37) (v' := .slice A' (s.vs ++ [idV stake pick (some ⟨gp, 0, none⟩, 1)]).length c') rfl (by rw [e, List.length_append]; rfl) ?_
            refine Pw.more (φ := VS (s.vs ++ [idV stake pick (some ⟨gp, 0, none⟩, 1)]) (A', c')) (fun w h => rows_of_cells (fun _ _ => rfl) (fun y hy => by
              rcases List.mem_append.1 hy with hy | hy
              · obtain ⟨j, hj⟩ := List.getElem?_of_mem hy
                have h1 : VS s.vs s.zv w := (hv w h)
                obtain ⟨ad, cs, e1, _, ⟨_, h2⟩, _⟩ := h1.2.2 j y hj
                exact h2
              · rw [List.mem_singleton.1 hy]
                exact ints_of_row' (l := [pick]) (by first | exact fact0 (h) | exact fact0 (allTail (h)) | exact fact0 (allTail (allTail (h))) | exact fact0 (allTail (allTail (allTail (h)))) | exact fact0 (allTail (allTail (allTail (allTail (h))))) | exact fact0 (allTail (allTail (allTail (allTail (allTail (h)))))) | exact fact0 (allTail (allTail (allTail (allTail (allTail (allTail (h))))))) | exact fact0 (allTail (allTail (allTail (allTail (allTail (allTail (allTail (h)))))))) | exact fact0 (allTail (allTail (allTail (allTail (allTail (allTail (allTail (allTail (h))))))))) | exact fact0 (allTail (allTail (allTail (allTail (allTail (allTail (allTail (allTail (allTail (h))))))))))) (by simp) (by simp [maxLen])) (by rw [List.length_append]; exact hc) (by rw [List.length_append, List.length_singleton]; simp only [maxLen]; omega) (by omega) (fact0 h)) ?_
            refine Pw.held sf ?_
            refine Pw.takeBuild 13 (nb 16 32767) rfl rfl rfl rfl rfl (by kernel_rfl) np sf ?_
            refine Pw.one 15 (nb 16 65535) rfl (by kernel_rfl) ?_
            refine Pw.sto rfl rfl inferInstance rfl rfl rfl rfl rfl inferInstance rfl ?_
            refine Pw.held sf ?_
            refine Pw.done (by kernel_rfl) ?_
            exact Pw.then_ (Pw.arrive ((A', c'), (some ⟨gp, 0, none⟩, 1), g9) trivial ⟨rfl, rfl, rfl, rfl, rfl, trivial⟩ rfl (fun w h => allCons (hv w h) (allCons (hv w h) (allCons (by first | exact fact0 (h) | exact fact0 (allTail (h)) | exact fact0 (allTail (allTail (h))) | exact fact0 (allTail (allTail (allTail (h)))) | exact fact0 (allTail (allTail (allTail (allTail (h))))) | exact fact0 (allTail (allTail (allTail (allTail (allTail (h)))))) | exact fact0 (allTail (allTail (allTail (allTail (allTail (allTail (h))))))) | exact fact0 (allTail (allTail (allTail (allTail (allTail (allTail (allTail (h)))))))) | exact fact0 (allTail (allTail (allTail (allTail (allTail (allTail (allTail (allTail (h))))))))) | exact fact0 (allTail (allTail (allTail (allTail (allTail (allTail (allTail (allTail (allTail (h))))))))))) allNil))))
    · skip
      refine Pw.lit1 rfl rfl rfl rfl rfl rfl rfl rfl rfl (fun gp => freeHead ?_)
      refine Pw.held sf ?_
      refine Pw.takeBuild 10 (nb 16 2011) rfl rfl rfl rfl rfl (by kernel_rfl) np sf ?_
      refine Pw.three 2 11 14 (nb 16 2015) (nb 16 4059) (nb 16 18395) rfl rfl rfl (by kernel_rfl) ?_ ?_ ?_
      · skip
        refine Pw.lit0 rfl rfl rfl rfl (fun ga => ?_)
        refine Pw.held sf ?_
        refine Pw.three 5 11 14 (nb 16 2047) (nb 16 4063) (nb 16 18399) rfl rfl rfl (by kernel_rfl) ?_ ?_ ?_
        · skip
          refine Pw.pushG (s := some (ga, 0, [])) (m := 0) (cells := []) (news := cellsV s.vs) rfl rfl rfl rfl rfl rfl rfl ⟨rfl, Nat.le_refl _, rfl⟩ (cellsV_len s.vs) (cellsV_one s.vs) (fun w hs j u hu => (hv w hs.all : VS s.vs s.zv w).toCellsE (by omega) j u hu) (by show 0 < 3; omega) (by simp only [maxLen]; omega) (by show (0 + s.vs.length) * 40 ≤ _; omega) rfl rfl (fun qa hqa => ?_)
          rw [List.nil_append, Nat.zero_add] at hqa ⊢
          refine Pw.held sf ?_
          refine Pw.two 11 14 (nb 16 4095) (nb 16 18431) rfl rfl (by kernel_rfl) ?_ ?_
          · skip
            refine Pw.lit13 rfl rfl rfl rfl rfl rfl rfl rfl rfl (fun gv1 => freeHead ?_)
            refine Pw.held sf ?_
            refine Pw.two 12 14 (nb 16 8191) (nb 16 20479) rfl rfl (by kernel_rfl) ?_ ?_
            · skip
              refine Pw.push (s := qa) (m := s.vs.length) (cells := cellsV s.vs) (news := encV (idV stake pick (some ⟨gp, 0, none⟩, 1))) rfl rfl rfl rfl rfl rfl rfl hqa rfl (encV_one _) (fun w hs j u hu => by
                have h1 : w.heap[gv1]? = some (row (encV (idV stake pick (some ⟨gp, 0, none⟩, 1))) 44) := by
                  have h := hs.all
                  exact (by first | exact fact0 (h) | exact fact0 (allTail (h)) | exact fact0 (allTail (allTail (h))) | exact fact0 (allTail (allTail (allTail (h)))) | exact fact0 (allTail (allTail (allTail (allTail (h))))) | exact fact0 (allTail (allTail (allTail (allTail (allTail (h)))))) | exact fact0 (allTail (allTail (allTail (allTail (allTail (allTail (h))))))) | exact fact0 (allTail (allTail (allTail (allTail (allTail (allTail (allTail (h)))))))) | exact fact0 (allTail (allTail (allTail (allTail (allTail (allTail (allTail (allTail (h))))))))) | exact fact0 (allTail (allTail (allTail (allTail (allTail (allTail (allTail (allTail (allTail (h)))))))))))
                rw [add_none, cell_of_blk h1]
                simpa using hu) (by omega) (by simp only [maxLen]; omega) (by show (s.vs.length + 1) * 40 ≤ _; omega) rfl rfl (fun qb hqb => ?_)
              rw [← cellsV_snoc] at hqb ⊢
              refine Pw.freeG hqb (fun A' c' e hc => ?_)
              refine Pw.re (d := 37) (v' := .slice A' (s.vs ++ [idV stake pick (some ⟨gp, 0, none⟩, 1)]).length c') rfl (by rw [e, List.length_append]; rfl) ?_
              refine Pw.more (φ := VS (s.vs ++ [idV stake pick (some ⟨gp, 0, none⟩, 1)]) (A', c')) (fun w h => rows_of_cells (fun _ _ => rfl) (fun y hy => by
                rcases List.mem_append.1 hy with hy | hy
                · obtain ⟨j, hj⟩ := List.getElem?_of_mem hy
                  have h1 : VS s.vs s.zv w := (hv w h)
                  obtain ⟨ad, cs, e1, _, ⟨_, h2⟩, _⟩ := h1.2.2 j y hj
                  exact h2
                · rw [List.mem_singleton.1 hy]
                  exact ints_of_row' (l := [pick]) (by first | exact fact0 (h) | exact fact0 (allTail (h)) | exact fact0 (allTail (allTail (h))) | exact fact0 (allTail (allTail (allTail (h)))) | exact fact0 (allTail (allTail (allTail (allTail (h))))) | exact fact0 (allTail (allTail (allTail (allTail (allTail (h)))))) | exact fact0 (allTail (allTail (allTail (allTail (allTail (allTail (h))))))) | exact fact0 (allTail (allTail (allTail (allTail (allTail (allTail (allTail (h)))))))) | exact fact0 (allTail (allTail (allTail (allTail (allTail (allTail (allTail (allTail (h))))))))) | exact fact0 (allTail (allTail (allTail (allTail (allTail (allTail (allTail (allTail (allTail (h))))))))))) (by simp) (by simp [maxLen])) (by rw [List.length_append]; exact hc) (by rw [List.length_append, List.length_singleton]; simp only [maxLen]; omega) (by omega) (fact0 h)) ?_
              refine Pw.held sf ?_
              refine Pw.takeBuild 13 (nb 16 16383) rfl rfl rfl rfl rfl (by kernel_rfl) np sf ?_
              refine Pw.one 14 (nb 16 32767) rfl (by kernel_rfl) ?_
              refine Pw.alloc rfl rfl rfl rfl rfl (fun g9 => ?_)
              first | refine Pw.perm (permE2 (X := gL _ _ _)) ?_ | refine Pw.perm (List.Perm.swap _ _ []) ?_ | skip
              refine Pw.held sf ?_
              refine Pw.one 15 (nb 16 65535) rfl (by kernel_rfl) ?_
              refine Pw.sto rfl rfl inferInstance rfl rfl rfl rfl rfl inferInstance rfl ?_
              refine Pw.held sf ?_
              refine Pw.done (by kernel_rfl) ?_
              exact Pw.then_ (Pw.arrive ((A', c'), (some ⟨gp, 0, none⟩, 1), g9) trivial ⟨rfl, rfl, rfl, rfl, rfl, trivial⟩ rfl (fun w h => allCons (hv w h) (allCons (hv w h) (allCons (by first | exact fact0 (h) | exact fact0 (allTail (h)) | exact fact0 (allTail (allTail (h))) | exact fact0 (allTail (allTail (allTail (h)))) | exact fact0 (allTail (allTail (allTail (allTail (h))))) | exact fact0 (allTail (allTail (allTail (allTail (allTail (h)))))) | exact fact0 (allTail (allTail (allTail (allTail (allTail (allTail (h))))))) | exact fact0 (allTail (allTail (allTail (allTail (allTail (allTail (allTail (h)))))))) | exact fact0 (allTail (allTail (allTail (allTail (allTail (allTail (allTail (allTail (h))))))))) | exact fact0 (allTail (allTail (allTail (allTail (allTail (allTail (allTail (allTail (allTail (h))))))))))) allNil))))
            · skip
              refine Pw.alloc rfl rfl rfl rfl rfl (fun g9 => ?_)
              first | refine Pw.perm (permE2 (X := gL _ _ _)) ?_ | refine Pw.perm (List.Perm.swap _ _ []) ?_ | skip
              refine Pw.held sf ?_
              refine Pw.one 12 (nb 16 24575) rfl (by kernel_rfl) ?_
              refine Pw.push (s := qa) (m := s.vs.length) (cells := cellsV s.vs) (news := encV (idV stake pick (some ⟨gp, 0, none⟩, 1))) rfl rfl rfl rfl rfl rfl rfl hqa rfl (encV_one _) (fun w hs j u hu => by
                have h1 : w.heap[gv1]? = some (row (encV (idV stake pick (some ⟨gp, 0, none⟩, 1))) 44) := by
                  have h := hs.all
                  exact (by first | exact fact0 (h) | exact fact0 (allTail (h)) | exact fact0 (allTail (allTail (h))) | exact fact0 (allTail (allTail (allTail (h)))) | exact fact0 (allTail (allTail (allTail (allTail (h))))) | exact fact0 (allTail (allTail (allTail (allTail (allTail (h)))))) | exact fact0 (allTail (allTail (allTail (allTail (allTail (allTail (h))))))) | exact fact0 (allTail (allTail (allTail (allTail (allTail (allTail (allTail (h)))))))) | exact fact0 (allTail (allTail (allTail (allTail (allTail (allTail (allTail (allTail (h))))))))) | exact fact0 (allTail (allTail (allTail (allTail (allTail (allTail (allTail (allTail (allTail (h)))))))))))
                rw [add_none, cell_of_blk h1]
                simpa using hu) (by omega) (by simp only [maxLen]; omega) (by show (s.vs.length + 1) * 40 ≤ _; omega) rfl rfl (fun qb hqb => ?_)
              rw [← cellsV_snoc] at hqb ⊢
              refine Pw.freeG hqb (fun A' c' e hc => ?_)
              refine Pw.re (d := 37) (v' := .slice A' (s.vs ++ [idV stake pick (some ⟨gp, 0, none⟩, 1)]).length c') rfl (by rw [e, List.length_append]; rfl) ?_
              refine Pw.more (φ := VS (s.vs ++ [idV stake pick (some ⟨gp, 0, none⟩, 1)]) (A', c')) (fun w h => rows_of_cells (fun _ _ => rfl) (fun y hy => by
                rcases List.mem_append.1 hy with hy | hy
                · obtain ⟨j, hj⟩ := List.getElem?_of_mem hy
                  have h1 : VS s.vs s.zv w := (hv w h)
                  obtain ⟨ad, cs, e1, _, ⟨_, h2⟩, _⟩ := h1.2.2 j y hj
                  exact h2
                · rw [List.mem_singleton.1 hy]
                  exact ints_of_row' (l := [pick]) (by first | exact fact0 (h) | exact fact0 (allTail (h)) | exact fact0 (allTail (allTail (h))) | exact fact0 (allTail (allTail (allTail (h)))) | exact fact0 (allTail (allTail (allTail (allTail (h))))) | exact fact0 (allTail (allTail (allTail (allTail (allTail (h)))))) | exact fact0 (allTail (allTail (allTail (allTail (allTail (allTail (h))))))) | exact fact0 (allTail (allTail (allTail (allTail (allTail (allTail (allTail (h)))))))) | exact fact0 (allTail (allTail (allTail (allTail (allTail (allTail (allTail (allTail (h))))))))) | exact fact0 (allTail (allTail (allTail (allTail (allTail (allTail (allTail (allTail (allTail (h))))))))))) (by simp) (by simp [maxLen])) (by rw [List.length_append]; exact hc) (by rw [List.length_append, List.length_singleton]; simp only [maxLen]; omega) (by omega) (fact0 h)) ?_
              refine Pw.held sf ?_
              refine Pw.takeBuild 13 (nb 16 32767) rfl rfl rfl rfl rfl (by kernel_rfl) np sf ?_
              refine Pw.one 15 (nb 16 65535) rfl (by kernel_rfl) ?_
              refine Pw.sto rfl rfl inferInstance rfl rfl rfl rfl rfl inferInstance rfl ?_
              refine Pw.held sf ?_
              refine Pw.done (by kernel_rfl) ?_
              exact Pw.then_ (Pw.arrive ((A', c'), (some ⟨gp, 0, none⟩, 1), g9) trivial ⟨rfl, rfl, rfl, rfl, rfl, trivial⟩ rfl (fun w h => allCons (hv w h) (allCons (hv w h) (allCons (by first | exact fact0 (h) | exact fact0 (allTail (h)) | exact fact0 (allTail (allTail (h))) | exact fact0 (allTail (allTail (allTail (h)))) | exact fact0 (allTail (allTail (allTail (allTail (h))))) | exact fact0 (allTail (allTail (allTail (allTail (allTail (h)))))) | exact fact0 (allTail (allTail (allTail (allTail (allTail (allTail (h))))))) | exact fact0 (allTail (allTail (allTail (allTail (allTail (allTail (allTail (h)))))))) | exact fact0 (allTail (allTail (allTail (allTail (allTail (allTail (allTail (allTail (h))))))))) | exact fact0 (allTail (allTail (allTail (allTail (allTail (allTail (allTail (allTail (allTail (h))))))))))) allNil))))
          · skip
            refine Pw.alloc rfl rfl rfl rfl rfl (fun g9 => ?_)
            first | refine Pw.perm (permE2 (X := gL _ _ _)) ?_ | refine Pw.perm (List.Perm.swap _ _ []) ?_ | skip
            refine Pw.held sf ?_
            refine Pw.one 11 (nb 16 20479) rfl (by kernel_rfl) ?_
            refine Pw.lit13 rfl rfl rfl rfl rfl rfl rfl rfl rfl (fun gv1 => freeHead ?_)
            refine Pw.held sf ?_
            refine Pw.one 12 (nb 16 24575) rfl (by kernel_rfl) ?_
            refine Pw.push (s := qa) (m := s.vs.length) (cells := cellsV s.vs) (news := encV (idV stake pick (some ⟨gp, 0, none⟩, 1))) rfl rfl rfl rfl rfl rfl rfl hqa rfl (encV_one _) (fun w hs j u hu => by
              have h1 : w.heap[gv1]? = some (row (encV (idV stake pick (some ⟨gp, 0, none⟩, 1))) 44) := by
                have h := hs.all
                exact (by first | exact fact0 (h) | exact fact0 (allTail (h)) | exact fact0 (allTail (allTail (h))) | exact fact0 (allTail (allTail (allTail (h)))) | exact fact0 (allTail (allTail (allTail (allTail (h))))) | exact fact0 (allTail (allTail (allTail (allTail (allTail (h)))))) | exact fact0 (allTail (allTail (allTail (allTail (allTail (allTail (h))))))) | exact fact0 (allTail (allTail (allTail (allTail (allTail (allTail (allTail (h)))))))) | exact fact0 (allTail (allTail (allTail (allTail (allTail (allTail (allTail (allTail (h))))))))) | exact fact0 (allTail (allTail (allTail (allTail (allTail (allTail (allTail (allTail (allTail (h)))))))))))
              rw [add_none, cell_of_blk h1]
              simpa using hu) (by omega) (by simp only [maxLen]; omega) (by show (s.vs.length + 1) * 40 ≤ _; omega) rfl rfl (fun qb hqb => ?_)
            rw [← cellsV_snoc] at hqb ⊢
            refine Pw.freeG hqb (fun A' c' e hc => ?_)
            refine Pw.re (d := 37) (v' := .slice A' (s.vs ++ [idV stake pick (some ⟨gp, 0, none⟩, 1)]).length c') rfl (by rw [e, List.length_append]; rfl) ?_
            refine Pw.more (φ := VS (s.vs ++ [idV stake pick (some ⟨gp, 0, none⟩, 1)]) (A', c')) (fun w h => rows_of_cells (fun _ _ => rfl) (fun y hy => by
              rcases List.mem_append.1 hy with hy | hy
              · obtain ⟨j, hj⟩ := List.getElem?_of_mem hy
                have h1 : VS s.vs s.zv w := (hv w h)
                obtain ⟨ad, cs, e1, _, ⟨_, h2⟩, _⟩ := h1.2.2 j y hj
                exact h2
              · rw [List.mem_singleton.1 hy]
                exact ints_of_row' (l := [pick]) (by first | exact fact0 (h) | exact fact0 (allTail (h)) | exact fact0 (allTail (allTail (h))) | exact fact0 (allTail (allTail (allTail (h)))) | exact fact0 (allTail (allTail (allTail (allTail (h))))) | exact fact0 (allTail (allTail (allTail (allTail (allTail (h)))))) | exact fact0 (allTail (allTail (allTail (allTail (allTail (allTail (h))))))) | exact fact0 (allTail (allTail (allTail (allTail (allTail (allTail (allTail (h)))))))) | exact fact0 (allTail (allTail (allTail (allTail (allTail (allTail (allTail (allTail (h))))))))) | exact fact0 (allTail (allTail (allTail (allTail (allTail (allTail (allTail (allTail (allTail (h))))))))))) (by simp) (by simp [maxLen])) (by rw [List.length_append]; exact hc) (by rw [List.length_append, List.length_singleton]; simp only [maxLen]; omega) (by omega) (fact0 h)) ?_
            refine Pw.held sf ?_
            refine Pw.takeBuild 13 (nb 16 32767) rfl rfl rfl rfl rfl (by kernel_rfl) np sf ?_
            refine Pw.one 15 (nb 16 65535) rfl (by kernel_rfl) ?_
            refine Pw.sto rfl rfl inferInstance rfl rfl rfl rfl rfl inferInstance rfl ?_
            refine Pw.held sf ?_
            refine Pw.done (by kernel_rfl) ?_
            exact Pw.then_ (Pw.arrive ((A', c'), (some ⟨gp, 0, none⟩, 1), g9) trivial ⟨rfl, rfl, rfl, rfl, rfl, trivial⟩ rfl (fun w h => allCons (hv w h) (allCons (hv w h) (allCons (by first | exact fact0 (h) | exact fact0 (allTail (h)) | exact fact0 (allTail (allTail (h))) | exact fact0 (allTail (allTail (allTail (h)))) | exact fact0 (allTail (allTail (allTail (allTail (h))))) | exact fact0 (allTail (allTail (allTail (allTail (allTail (h)))))) | exact fact0 (allTail (allTail (allTail (allTail (allTail (allTail (h))))))) | exact fact0 (allTail (allTail (allTail (allTail (allTail (allTail (allTail (h)))))))) | exact fact0 (allTail (allTail (allTail (allTail (allTail (allTail (allTail (allTail (h))))))))) | exact fact0 (allTail (allTail (allTail (allTail (allTail (allTail (allTail (allTail (allTail (h))))))))))) allNil))))
        · skip
          refine Pw.lit13 rfl rfl rfl rfl rfl rfl rfl rfl rfl (fun gv1 => freeHead ?_)
          refine Pw.held sf ?_
          refine Pw.two 5 14 (nb 16 4095) (nb 16 20447) rfl rfl (by kernel_rfl) ?_ ?_
          · skip
            refine Pw.pushG (s := some (ga, 0, [])) (m := 0) (cells := []) (news := cellsV s.vs) rfl rfl rfl rfl rfl rfl rfl ⟨rfl, Nat.le_refl _, rfl⟩ (cellsV_len s.vs) (cellsV_one s.vs) (fun w hs j u hu => (hv w hs.all : VS s.vs s.zv w).toCellsE (by omega) j u hu) (by show 0 < 3; omega) (by simp only [maxLen]; omega) (by show (0 + s.vs.length) * 40 ≤ _; omega) rfl rfl (fun qa hqa => ?_)
            rw [List.nil_append, Nat.zero_add] at hqa ⊢
            refine Pw.held sf ?_
            refine Pw.two 12 14 (nb 16 8191) (nb 16 20479) rfl rfl (by kernel_rfl) ?_ ?_
            · skip
              refine Pw.push (s := qa) (m := s.vs.length) (cells := cellsV s.vs) (news := encV (idV stake pick (some ⟨gp, 0, none⟩, 1))) rfl rfl rfl rfl rfl rfl rfl hqa rfl (encV_one _) (fun w hs j u hu => by
                have h1 : w.heap[gv1]? = some (row (encV (idV stake pick (some ⟨gp, 0, none⟩, 1))) 44) := by
                  have h := hs.all
                  exact (by first | exact fact0 (h) | exact fact0 (allTail (h)) | exact fact0 (allTail (allTail (h))) | exact fact0 (allTail (allTail (allTail (h)))) | exact fact0 (allTail (allTail (allTail (allTail (h))))) | exact fact0 (allTail (allTail (allTail (allTail (allTail (h)))))) | exact fact0 (allTail (allTail (allTail (allTail (allTail (allTail (h))))))) | exact fact0 (allTail (allTail (allTail (allTail (allTail (allTail (allTail (h)))))))) | exact fact0 (allTail (allTail (allTail (allTail (allTail (allTail (allTail (allTail (h))))))))) | exact fact0 (allTail (allTail (allTail (allTail (allTail (allTail (allTail (allTail (allTail (h)))))))))))
                rw [add_none, cell_of_blk h1]
                simpa using hu) (by omega) (by simp only [maxLen]; omega) (by show (s.vs.length + 1) * 40 ≤ _; omega) rfl rfl (fun qb hqb => ?_)
              rw [← cellsV_snoc] at hqb ⊢
              refine Pw.freeG hqb (fun A' c' e hc => ?_)
              refine Pw.re (d := 37) (v' := .slice A' (s.vs ++ [idV stake pick (some ⟨gp, 0, none⟩, 1)]).length c') rfl (by rw [e, List.length_append]; rfl) ?_
              refine Pw.more (φ := VS (s.vs ++ [idV stake pick (some ⟨gp, 0, none⟩, 1)]) (A', c')) (fun w h => rows_of_cells (fun _ _ => rfl) (fun y hy => by
                rcases List.mem_append.1 hy with hy | hy
                · obtain ⟨j, hj⟩ := List.getElem?_of_mem hy
                  have h1 : VS s.vs s.zv w := (hv w h)
                  obtain ⟨ad, cs, e1, _, ⟨_, h2⟩, _⟩ := h1.2.2 j y hj
                  exact h2
                · rw [List.mem_singleton.1 hy]
                  exact ints_of_row' (l := [pick]) (by first | exact fact0 (h) | exact fact0 (allTail (h)) | exact fact0 (allTail (allTail (h))) | exact fact0 (allTail (allTail (allTail (h)))) | exact fact0 (allTail (allTail (allTail (allTail (h))))) | exact fact0 (allTail (allTail (allTail (allTail (allTail (h)))))) | exact fact0 (allTail (allTail (allTail (allTail (allTail (allTail (h))))))) | exact fact0 (allTail (allTail (allTail (allTail (allTail (allTail (allTail (h)))))))) | exact fact0 (allTail (allTail (allTail (allTail (allTail (allTail (allTail (allTail (h))))))))) | exact fact0 (allTail (allTail (allTail (allTail (allTail (allTail (allTail (allTail (allTail (h))))))))))) (by simp) (by simp [maxLen])) (by rw [List.length_append]; exact hc) (by rw [List.length_append, List.length_singleton]; simp only [maxLen]; omega) (by omega) (fact0 h)) ?_
              refine Pw.held sf ?_
              refine Pw.takeBuild 13 (nb 16 16383) rfl rfl rfl rfl rfl (by kernel_rfl) np sf ?_
              refine Pw.one 14 (nb 16 32767) rfl (by kernel_rfl) ?_
              refine Pw.alloc rfl rfl rfl rfl rfl (fun g9 => ?_)
              first | refine Pw.perm (permE2 (X := gL _ _ _)) ?_ | refine Pw.perm (List.Perm.swap _ _ []) ?_ | skip
              refine Pw.held sf ?_
              refine Pw.one 15 (nb 16 65535) rfl (by kernel_rfl) ?_
              refine Pw.sto rfl rfl inferInstance rfl rfl rfl rfl rfl inferInstance rfl ?_
              refine Pw.held sf ?_
              refine Pw.done (by kernel_rfl) ?_
              exact Pw.then_ (Pw.arrive ((A', c'), (some ⟨gp, 0, none⟩, 1), g9) trivial ⟨rfl, rfl, rfl, rfl, rfl, trivial⟩ rfl (fun w h => allCons (hv w h) (allCons (hv w h) (allCons (by first | exact fact0 (h) | exact fact0 (allTail (h)) | exact fact0 (allTail (allTail (h))) | exact fact0 (allTail (allTail (allTail (h)))) | exact fact0 (allTail (allTail (allTail (allTail (h))))) | exact fact0 (allTail (allTail (allTail (allTail (allTail (h)))))) | exact fact0 (allTail (allTail (allTail (allTail (allTail (allTail (h))))))) | exact fact0 (allTail (allTail (allTail (allTail (allTail (allTail (allTail (h)))))))) | exact fact0 (allTail (allTail (allTail (allTail (allTail (allTail (allTail (allTail (h))))))))) | exact fact0 (allTail (allTail (allTail (allTail (allTail (allTail (allTail (allTail (allTail (h))))))))))) allNil))))
            · skip
              refine Pw.alloc rfl rfl rfl rfl rfl (fun g9 => ?_)
              first | refine Pw.perm (permE2 (X := gL _ _ _)) ?_ | refine Pw.perm (List.Perm.swap _ _ []) ?_ | skip
              refine Pw.held sf ?_
              refine Pw.one 12 (nb 16 24575) rfl (by kernel_rfl) ?_
              refine Pw.push (s := qa) (m := s.vs.length) (cells := cellsV s.vs) (news := encV (idV stake pick (some ⟨gp, 0, none⟩, 1))) rfl rfl rfl rfl rfl rfl rfl hqa rfl (encV_one _) (fun w hs j u hu => by
                have h1 : w.heap[gv1]? = some (row (encV (idV stake pick (some ⟨gp, 0, none⟩, 1))) 44) := by
                  have h := hs.all
                  exact (by first | exact fact0 (h) | exact fact0 (allTail (h)) | exact fact0 (allTail (allTail (h))) | exact fact0 (allTail (allTail (allTail (h)))) | exact fact0 (allTail (allTail (allTail (allTail (h))))) | exact fact0 (allTail (allTail (allTail (allTail (allTail (h)))))) | exact fact0 (allTail (allTail (allTail (allTail (allTail (allTail (h))))))) | exact fact0 (allTail (allTail (allTail (allTail (allTail (allTail (allTail (h)))))))) | exact fact0 (allTail (allTail (allTail (allTail (allTail (allTail (allTail (allTail (h))))))))) | exact fact0 (allTail (allTail (allTail (allTail (allTail (allTail (allTail (allTail (allTail (h)))))))))))
                rw [add_none, cell_of_blk h1]
                simpa using hu) (by omega) (by simp only [maxLen]; omega) (by show (s.vs.length + 1) * 40 ≤ _; omega) rfl rfl (fun qb hqb => ?_)
              rw [← cellsV_snoc] at hqb ⊢
              refine Pw.freeG hqb (fun A' c' e hc => ?_)
              refine Pw.re (d := 37) (v' := .slice A' (s.vs ++ [idV stake pick (some ⟨gp, 0, none⟩, 1)]).length c') rfl (by rw [e, List.length_append]; rfl) ?_
              refine Pw.more (φ := VS (s.vs ++ [idV stake pick (some ⟨gp, 0, none⟩, 1)]) (A', c')) (fun w h => rows_of_cells (fun _ _ => rfl) (fun y hy => by
                rcases List.mem_append.1 hy with hy | hy
                · obtain ⟨j, hj⟩ := List.getElem?_of_mem hy
                  have h1 : VS s.vs s.zv w := (hv w h)
                  obtain ⟨ad, cs, e1, _, ⟨_, h2⟩, _⟩ := h1.2.2 j y hj
                  exact h2
                · rw [List.mem_singleton.1 hy]
                  exact ints_of_row' (l := [pick]) (by first | exact fact0 (h) | exact fact0 (allTail (h)) | exact fact0 (allTail (allTail (h))) | exact fact0 (allTail (allTail (allTail (h)))) | exact fact0 (allTail (allTail (allTail (allTail (h))))) | exact fact0 (allTail (allTail (allTail (allTail (allTail (h)))))) | exact fact0 (allTail (allTail (allTail (allTail (allTail (allTail (h))))))) | exact fact0 (allTail (allTail (allTail (allTail (allTail (allTail (allTail (h)))))))) | exact fact0 (allTail (allTail (allTail (allTail (allTail (allTail (allTail (allTail (h))))))))) | exact fact0 (allTail (allTail (allTail (allTail (allTail (allTail (allTail (allTail (allTail (h))))))))))) (by simp) (by simp [maxLen])) (by rw [List.length_append]; exact hc) (by rw [List.length_append, List.length_singleton]; simp only [maxLen]; omega) (by omega) (fact0 h)) ?_
              refine Pw.held sf ?_
              refine Pw.takeBuild 13 (nb 16 32767) rfl rfl rfl rfl rfl (by kernel_rfl) np sf ?_
              refine Pw.one 15 (nb 16 65535) rfl (by kernel_rfl) ?_
              refine Pw.sto rfl rfl inferInstance rfl rfl rfl rfl rfl inferInstance rfl ?_
              refine Pw.held sf ?_
              refine Pw.done (by kernel_rfl) ?_
              exact Pw.then_ (Pw.arrive ((A', c'), (some ⟨gp, 0, none⟩, 1), g9) trivial ⟨rfl, rfl, rfl, rfl, rfl, trivial⟩ rfl (fun w h => allCons (hv w h) (allCons (hv w h) (allCons (by first | exact fact0 (h) | exact fact0 (allTail (h)) | exact fact0 (allTail (allTail (h))) | exact fact0 (allTail (allTail (allTail (h)))) | exact fact0 (allTail (allTail (allTail (allTail (h))))) | exact fact0 (allTail (allTail (allTail (allTail (allTail (h)))))) | exact fact0 (allTail (allTail (allTail (allTail (allTail (allTail (h))))))) | exact fact0 (allTail (allTail (allTail (allTail (allTail (allTail (allTail (h)))))))) | exact fact0 (allTail (allTail (allTail (allTail (allTail (allTail (allTail (allTail (h))))))))) | exact fact0 (allTail (allTail (allTail (allTail (allTail (allTail (allTail (allTail (allTail (h))))))))))) allNil))))
          · skip
            refine Pw.alloc rfl rfl rfl rfl rfl (fun g9 => ?_)
            first | refine Pw.perm (permE2 (X := gL _ _ _)) ?_ | refine Pw.perm (List.Perm.swap _ _ []) ?_ | skip
            refine Pw.held sf ?_
            refine Pw.one 5 (nb 16 20479) rfl (by kernel_rfl) ?_
            refine Pw.pushG (s := some (ga, 0, [])) (m := 0) (cells := []) (news := cellsV s.vs) rfl rfl rfl rfl rfl rfl rfl ⟨rfl, Nat.le_refl _, rfl⟩ (cellsV_len s.vs) (cellsV_one s.vs) (fun w hs j u hu => (hv w hs.all : VS s.vs s.zv w).toCellsE (by omega) j u hu) (by show 0 < 3; omega) (by simp only [maxLen]; omega) (by show (0 + s.vs.length) * 40 ≤ _; omega) rfl rfl (fun qa hqa => ?_)
            rw [List.nil_append, Nat.zero_add] at hqa ⊢
            refine Pw.held sf ?_
            refine Pw.one 12 (nb 16 24575) rfl (by kernel_rfl) ?_
            refine Pw.push (s := qa) (m := s.vs.length) (cells := cellsV s.vs) (news := encV (idV stake pick (some ⟨gp, 0, none⟩, 1))) rfl rfl rfl rfl rfl rfl rfl hqa rfl (encV_one _) (fun w hs j u hu => by
              have h1 : w.heap[gv1]? = some (row (encV (idV stake pick (some ⟨gp, 0, none⟩, 1))) 44) := by
                have h := hs.all
                exact (by first | exact fact0 (h) | exact fact0 (allTail (h)) | exact fact0 (allTail (allTail (h))) | exact fact0 (allTail (allTail (allTail (h)))) | exact fact0 (allTail (allTail (allTail (allTail (h))))) | exact fact0 (allTail (allTail (allTail (allTail (allTail (h)))))) | exact fact0 (allTail (allTail (allTail (allTail (allTail (allTail (h))))))) | exact fact0 (allTail (allTail (allTail (allTail (allTail (allTail (allTail (h)))))))) | exact fact0 (allTail (allTail (allTail (allTail (allTail (allTail (allTail (allTail (h))))))))) | exact fact0 (allTail (allTail (allTail (allTail (allTail (allTail (allTail (allTail (allTail (h)))))))))))
              rw [add_none, cell_of_blk h1]
              simpa using hu) (by omega) (by simp only [maxLen]; omega) (by show (s.vs.length + 1) * 40 ≤ _; omega) rfl rfl (fun qb hqb => ?_)
            rw [← cellsV_snoc] at hqb ⊢
            refine Pw.freeG hqb (fun A' c' e hc => ?_)
            refine Pw.re (d := 37) (v' := .slice A' (s.vs ++ [idV stake pick (some ⟨gp, 0, none⟩, 1)]).length c') rfl (by rw [e, List.length_append]; rfl) ?_
            refine Pw.more (φ := VS (s.vs ++ [idV stake pick (some ⟨gp, 0, none⟩, 1)]) (A', c')) (fun w h => rows_of_cells (fun _ _ => rfl) (fun y hy => by
              rcases List.mem_append.1 hy with hy | hy
              · obtain ⟨j, hj⟩ := List.getElem?_of_mem hy
                have h1 : VS s.vs s.zv w := (hv w h)
                obtain ⟨ad, cs, e1, _, ⟨_, h2⟩, _⟩ := h1.2.2 j y hj
                exact h2
              · rw [List.mem_singleton.1 hy]
                exact ints_of_row' (l := [pick]) (by first | exact fact0 (h) | exact fact0 (allTail (h)) | exact fact0 (allTail (allTail (h))) | exact fact0 (allTail (allTail (allTail (h)))) | exact fact0 (allTail (allTail (allTail (allTail (h))))) | exact fact0 (allTail (allTail (allTail (allTail (allTail (h)))))) | exact fact0 (allTail (allTail (allTail (allTail (allTail (allTail (h))))))) | exact fact0 (allTail (allTail (allTail (allTail (allTail (allTail (allTail (h)))))))) | exact fact0 (allTail (allTail (allTail (allTail (allTail (allTail (allTail (allTail (h))))))))) | exact fact0 (allTail (allTail (allTail (allTail (allTail (allTail (allTail (allTail (allTail (h))))))))))) (by simp) (by simp [maxLen])) (by rw [List.length_append]; exact hc) (by rw [List.length_append, List.length_singleton]; simp only [maxLen]; omega) (by omega) (fact0 h)) ?_
            refine Pw.held sf ?_
            refine Pw.takeBuild 13 (nb 16 32767) rfl rfl rfl rfl rfl (by kernel_rfl) np sf ?_
            refine Pw.one 15 (nb 16 65535) rfl (by kernel_rfl) ?_
            refine Pw.sto rfl rfl inferInstance rfl rfl rfl rfl rfl inferInstance rfl ?_
            refine Pw.held sf ?_
            refine Pw.done (by kernel_rfl) ?_
            exact Pw.then_ (Pw.arrive ((A', c'), (some ⟨gp, 0, none⟩, 1), g9) trivial ⟨rfl, rfl, rfl, rfl, rfl, trivial⟩ rfl (fun w h => allCons (hv w h) (allCons (hv w h) (allCons (by first | exact fact0 (h) | exact fact0 (allTail (h)) | exact fact0 (allTail (allTail (h))) | exact fact0 (allTail (allTail (allTail (h)))) | exact fact0 (allTail (allTail (allTail (allTail (h))))) | exact fact0 (allTail (allTail (allTail (allTail (allTail (h)))))) | exact fact0 (allTail (allTail (allTail (allTail (allTail (allTail (h))))))) | exact fact0 (allTail (allTail (allTail (allTail (allTail (allTail (allTail (h)))))))) | exact fact0 (allTail (allTail (allTail (allTail (allTail (allTail (allTail (allTail (h))))))))) | exact fact0 (allTail (allTail (allTail (allTail (allTail (allTail (allTail (allTail (allTail (h))))))))))) allNil))))
        · skip
          refine Pw.alloc rfl rfl rfl rfl rfl (fun g9 => ?_)
          first | refine Pw.perm (permE2 (X := gL _ _ _)) ?_ | refine Pw.perm (List.Perm.swap _ _ []) ?_ | skip
          refine Pw.held sf ?_
          refine Pw.two 5 11 (nb 16 18431) (nb 16 20447) rfl rfl (by kernel_rfl) ?_ ?_
          · skip
            refine Pw.pushG (s := some (ga, 0, [])) (m := 0) (cells := []) (news := cellsV s.vs) rfl rfl rfl rfl rfl rfl rfl ⟨rfl, Nat.le_refl _, rfl⟩ (cellsV_len s.vs) (cellsV_one s.vs) (fun w hs j u hu => (hv w hs.all : VS s.vs s.zv w).toCellsE (by omega) j u hu) (by show 0 < 3; omega) (by simp only [maxLen]; omega) (by show (0 + s.vs.length) * 40 ≤ _; omega) rfl rfl (fun qa hqa => ?_)
            rw [List.nil_append, Nat.zero_add] at hqa ⊢
            refine Pw.held sf ?_
            refine Pw.one 11 (nb 16 20479) rfl (by kernel_rfl) ?_
            refine Pw.lit13 rfl rfl rfl rfl rfl rfl rfl rfl rfl (fun gv1 => freeHead ?_)
            refine Pw.held sf ?_
            refine Pw.one 12 (nb 16 24575) rfl (by kernel_rfl) ?_
            refine Pw.push (s := qa) (m := s.vs.length) (cells := cellsV s.vs) (news := encV (idV stake pick (some ⟨gp, 0, none⟩, 1))) rfl rfl rfl rfl rfl rfl rfl hqa rfl (encV_one _) (fun w hs j u hu => by
              have h1 : w.heap[gv1]? = some (row (encV (idV stake pick (some ⟨gp, 0, none⟩, 1))) 44) := by
                have h := hs.all
                exact (by first | exact fact0 (h) | exact fact0 (allTail (h)) | exact fact0 (allTail (allTail (h))) | exact fact0 (allTail (allTail (allTail (h)))) | exact fact0 (allTail (allTail (allTail (allTail (h))))) | exact fact0 (allTail (allTail (allTail (allTail (allTail (h)))))) | exact fact0 (allTail (allTail (allTail (allTail (allTail (allTail (h))))))) | exact fact0 (allTail (allTail (allTail (allTail (allTail (allTail (allTail (h)))))))) | exact fact0 (allTail (allTail (allTail (allTail (allTail (allTail (allTail (allTail (h))))))))) | exact fact0 (allTail (allTail (allTail (allTail (allTail (allTail (allTail (allTail (allTail (h)))))))))))
              rw [add_none, cell_of_blk h1]
              simpa using hu) (by omega) (by simp only [maxLen]; omega) (by show (s.vs.length + 1) * 40 ≤ _; omega) rfl rfl (fun qb hqb => ?_)
            rw [← cellsV_snoc] at hqb ⊢
            refine Pw.freeG hqb (fun A' c' e hc => ?_)
            refine Pw.re (d := 37) (v' := .slice A' (s.vs ++ [idV stake pick (some ⟨gp, 0, none⟩, 1)]).length c') rfl (by rw [e, List.length_append]; rfl) ?_
            refine Pw.more (φ := VS (s.vs ++ [idV stake pick (some ⟨gp, 0, none⟩, 1)]) (A', c')) (fun w h => rows_of_cells (fun _ _ => rfl) (fun y hy => by
              rcases List.mem_append.1 hy with hy | hy
              · obtain ⟨j, hj⟩ := List.getElem?_of_mem hy
                have h1 : VS s.vs s.zv w := (hv w h)
                obtain ⟨ad, cs, e1, _, ⟨_, h2⟩, _⟩ := h1.2.2 j y hj
                exact h2
              · rw [List.mem_singleton.1 hy]
                exact ints_of_row' (l := [pick]) (by first | exact fact0 (h) | exact fact0 (allTail (h)) | exact fact0 (allTail (allTail (h))) | exact fact0 (allTail (allTail (allTail (h)))) | exact fact0 (allTail (allTail (allTail (allTail (h))))) | exact fact0 (allTail (allTail (allTail (allTail (allTail (h)))))) | exact fact0 (allTail (allTail (allTail (allTail (allTail (allTail (h))))))) | exact fact0 (allTail (allTail (allTail (allTail (allTail (allTail (allTail (h)))))))) | exact fact0 (allTail (allTail (allTail (allTail (allTail (allTail (allTail (allTail (h))))))))) | exact fact0 (allTail (allTail (allTail (allTail (allTail (allTail (allTail (allTail (allTail (h))))))))))) (by simp) (by simp [maxLen])) (by rw [List.length_append]; exact hc) (by rw [List.length_append, List.length_singleton]; simp only [maxLen]; omega) (by omega) (fact0 h)) ?_
            refine Pw.held sf ?_
            refine Pw.takeBuild 13 (nb 16 32767) rfl rfl rfl rfl rfl (by kernel_rfl) np sf ?_
            refine Pw.one 15 (nb 16 65535) rfl (by kernel_rfl) ?_
            refine Pw.sto rfl rfl inferInstance rfl rfl rfl rfl rfl inferInstance rfl ?_
            refine Pw.held sf ?_
            refine Pw.done (by kernel_rfl) ?_
            exact Pw.then_ (Pw.arrive ((A', c'), (some ⟨gp, 0, none⟩, 1), g9) trivial ⟨rfl, rfl, rfl, rfl, rfl, trivial⟩ rfl (fun w h => allCons (hv w h) (allCons (hv w h) (allCons (by first | exact fact0 (h) | exact fact0 (allTail (h)) | exact fact0 (allTail (allTail (h))) | exact fact0 (allTail (allTail (allTail (h)))) | exact fact0 (allTail (allTail (allTail (allTail (h))))) | exact fact0 (allTail (allTail (allTail (allTail (allTail (h)))))) | exact fact0 (allTail (allTail (allTail (allTail (allTail (allTail (h))))))) | exact fact0 (allTail (allTail (allTail (allTail (allTail (allTail (allTail (h)))))))) | exact fact0 (allTail (allTail (allTail (allTail (allTail (allTail (allTail (allTail (h))))))))) | exact fact0 (allTail (allTail (allTail (allTail (allTail (allTail (allTail (allTail (allTail (h))))))))))) allNil))))
          · skip
            refine Pw.lit13 rfl rfl rfl rfl rfl rfl rfl rfl rfl (fun gv1 => freeHead ?_)
            refine Pw.held sf ?_
            refine Pw.one 5 (nb 16 20479) rfl (by kernel_rfl) ?_
            refine Pw.pushG (s := some (ga, 0, [])) (m := 0) (cells := []) (news := cellsV s.vs) rfl rfl rfl rfl rfl rfl rfl ⟨rfl, Nat.le_refl _, rfl⟩ (cellsV_len s.vs) (cellsV_one s.vs) (fun w hs j u hu => (hv w hs.all : VS s.vs s.zv w).toCellsE (by omega) j u hu) (by show 0 < 3; omega) (by simp only [maxLen]; omega) (by show (0 + s.vs.length) * 40 ≤ _; omega) rfl rfl (fun qa hqa => ?_)
            rw [List.nil_append, Nat.zero_add] at hqa ⊢
            refine Pw.held sf ?_
            refine Pw.one 12 (nb 16 24575) rfl (by kernel_rfl) ?_
            refine Pw.push (s := qa) (m := s.vs.length) (cells := cellsV s.vs) (news := encV (idV stake pick (some ⟨gp, 0, none⟩, 1))) rfl rfl rfl rfl rfl rfl rfl hqa rfl (encV_one _) (fun w hs j u hu => by
              have h1 : w.heap[gv1]? = some (row (encV (idV stake pick (some ⟨gp, 0, none⟩, 1))) 44) := by
                have h := hs.all
                exact (by first | exact fact0 (h) | exact fact0 (allTail (h)) | exact fact0 (allTail (allTail (h))) | exact fact0 (allTail (allTail (allTail (h)))) | exact fact0 (allTail (allTail (allTail (allTail (h))))) | exact fact0 (allTail (allTail (allTail (allTail (allTail (h)))))) | exact fact0 (allTail (allTail (allTail (allTail (allTail (allTail (h))))))) | exact fact0 (allTail (allTail (allTail (allTail (allTail (allTail (allTail (h)))))))) | exact fact0 (allTail (allTail (allTail (allTail (allTail (allTail (allTail (allTail (h))))))))) | exact fact0 (allTail (allTail (allTail (allTail (allTail (allTail (allTail (allTail (allTail (h)))))))))))
              rw [add_none, cell_of_blk h1]
              simpa using hu) (by omega) (by simp only [maxLen]; omega) (by show (s.vs.length + 1) * 40 ≤ _; omega) rfl rfl (fun qb hqb => ?_)
            rw [← cellsV_snoc] at hqb ⊢
            refine Pw.freeG hqb (fun A' c' e hc => ?_)
            refine Pw.re (d := 37) (v' := .slice A' (s.vs ++ [idV stake pick (some ⟨gp, 0, none⟩, 1)]).length c') rfl (by rw [e, List.length_append]; rfl) ?_
            refine Pw.more (φ := VS (s.vs ++ [idV stake pick (some ⟨gp, 0, none⟩, 1)]) (A', c')) (fun w h => rows_of_cells (fun _ _ => rfl) (fun y hy => by
              rcases List.mem_append.1 hy with hy | hy
              · obtain ⟨j, hj⟩ := List.getElem?_of_mem hy
                have h1 : VS s.vs s.zv w := (hv w h)
                obtain ⟨ad, cs, e1, _, ⟨_, h2⟩, _⟩ := h1.2.2 j y hj
                exact h2
              · rw [List.mem_singleton.1 hy]
                exact ints_of_row' (l := [pick]) (by first | exact fact0 (h) | exact fact0 (allTail (h)) | exact fact0 (allTail (allTail (h))) | exact fact0 (allTail (allTail (allTail (h)))) | exact fact0 (allTail (allTail (allTail (allTail (h))))) | exact fact0 (allTail (allTail (allTail (allTail (allTail (h)))))) | exact fact0 (allTail (allTail (allTail (allTail (allTail (allTail (h))))))) | exact fact0 (allTail (allTail (allTail (allTail (allTail (allTail (allTail (h)))))))) | exact fact0 (allTail (allTail (allTail (allTail (allTail (allTail (allTail (allTail (h))))))))) | exact fact0 (allTail (allTail (allTail (allTail (allTail (allTail (allTail (allTail (allTail (h))))))))))) (by simp) (by simp [maxLen])) (by rw [List.length_append]; exact hc) (by rw [List.length_append, List.length_singleton]; simp only [maxLen]; omega) (by omega) (fact0 h)) ?_
            refine Pw.held sf ?_
            refine Pw.takeBuild 13 (nb 16 32767) rfl rfl rfl rfl rfl (by kernel_rfl) np sf ?_
            refine Pw.one 15 (nb 16 65535) rfl (by kernel_rfl) ?_
            refine Pw.sto rfl rfl inferInstance rfl rfl rfl rfl rfl inferInstance rfl ?_
            refine Pw.held sf ?_
            refine Pw.done (by kernel_rfl) ?_
            exact Pw.then_ (Pw.arrive ((A', c'), (some ⟨gp, 0, none⟩, 1), g9) trivial ⟨rfl, rfl, rfl, rfl, rfl, trivial⟩ rfl (fun w h => allCons (hv w h) (allCons (hv w h) (allCons (by first | exact fact0 (h) | exact fact0 (allTail (h)) | exact fact0 (allTail (allTail (h))) | exact fact0 (allTail (allTail (allTail (h)))) | exact fact0 (allTail (allTail (allTail (allTail (h))))) | exact fact0 (allTail (allTail (allTail (allTail (allTail (h)))))) | exact fact0 (allTail (allTail (allTail (allTail (allTail (allTail (h))))))) | exact fact0 (allTail (allTail (allTail (allTail (allTail (allTail (allTail (h)))))))) | exact fact0 (allTail (allTail (allTail (allTail (allTail (allTail (allTail (allTail (h))))))))) | exact fact0 (allTail (allTail (allTail (allTail (allTail (allTail (allTail (allTail (allTail (h))))))))))) allNil))))
      · skip
        refine Pw.lit13 rfl rfl rfl rfl rfl rfl rfl rfl rfl (fun gv1 => freeHead ?_)
        refine Pw.held sf ?_
        refine Pw.two 2 14 (nb 16 4063) (nb 16 20443) rfl rfl (by kernel_rfl) ?_ ?_
        · skip
          refine Pw.lit0 rfl rfl rfl rfl (fun ga => ?_)
          refine Pw.held sf ?_
          refine Pw.two 5 14 (nb 16 4095) (nb 16 20447) rfl rfl (by kernel_rfl) ?_ ?_
          · skip
            refine Pw.pushG (s := some (ga, 0, [])) (m := 0) (cells := []) (news := cellsV s.vs) rfl rfl rfl rfl rfl rfl rfl ⟨rfl, Nat.le_refl _, rfl⟩ (cellsV_len s.vs) (cellsV_one s.vs) (fun w hs j u hu => (hv w hs.all : VS s.vs s.zv w).toCellsE (by omega) j u hu) (by show 0 < 3; omega) (by simp only [maxLen]; omega) (by show (0 + s.vs.length) * 40 ≤ _; omega) rfl rfl (fun qa hqa => ?_)
            rw [List.nil_append, Nat.zero_add] at hqa ⊢
            refine Pw.held sf ?_
            refine Pw.two 12 14 (nb 16 8191) (nb 16 20479) rfl rfl (by kernel_rfl) ?_ ?_
            · skip
              refine Pw.push (s := qa) (m := s.vs.length) (cells := cellsV s.vs) (news := encV (idV stake pick (some ⟨gp, 0, none⟩, 1))) rfl rfl rfl rfl rfl rfl rfl hqa rfl (encV_one _) (fun w hs j u hu => by
                have h1 : w.heap[gv1]? = some (row (encV (idV stake pick (some ⟨gp, 0, none⟩, 1))) 44) := by
                  have h := hs.all
                  exact (by first | exact fact0 (h) | exact fact0 (allTail (h)) | exact fact0 (allTail (allTail (h))) | exact fact0 (allTail (allTail (allTail (h)))) | exact fact0 (allTail (allTail (allTail (allTail (h))))) | exact fact0 (allTail (allTail (allTail (allTail (allTail (h)))))) | exact fact0 (allTail (allTail (allTail (allTail (allTail (allTail (h))))))) | exact fact0 (allTail (allTail (allTail (allTail (allTail (allTail (allTail (h)))))))) | exact fact0 (allTail (allTail (allTail (allTail (allTail (allTail (allTail (allTail (h))))))))) | exact fact0 (allTail (allTail (allTail (allTail (allTail (allTail (allTail (allTail (allTail (h)))))))))))
                rw [add_none, cell_of_blk h1]
                simpa using hu) (by omega) (by simp only [maxLen]; omega) (by show (s.vs.length + 1) * 40 ≤ _; omega) rfl rfl (fun qb hqb => ?_)
              rw [← cellsV_snoc] at hqb ⊢
              refine Pw.freeG hqb (fun A' c' e hc => ?_)
              refine Pw.re (d := 37) (v' := .slice A' (s.vs ++ [idV stake pick (some ⟨gp, 0, none⟩, 1)]).length c') rfl (by rw [e, List.length_append]; rfl) ?_
              refine Pw.more (φ := VS (s.vs ++ [idV stake pick (some ⟨gp, 0, none⟩, 1)]) (A', c')) (fun w h => rows_of_cells (fun _ _ => rfl) (fun y hy => by
                rcases List.mem_append.1 hy with hy | hy
                · obtain ⟨j, hj⟩ := List.getElem?_of_mem hy
                  have h1 : VS s.vs s.zv w := (hv w h)
                  obtain ⟨ad, cs, e1, _, ⟨_, h2⟩, _⟩ := h1.2.2 j y hj
                  exact h2
                · rw [List.mem_singleton.1 hy]
                  exact ints_of_row' (l := [pick]) (by first | exact fact0 (h) | exact fact0 (allTail (h)) | exact fact0 (allTail (allTail (h))) | exact fact0 (allTail (allTail (allTail (h)))) | exact fact0 (allTail (allTail (allTail (allTail (h))))) | exact fact0 (allTail (allTail (allTail (allTail (allTail (h)))))) | exact fact0 (allTail (allTail (allTail (allTail (allTail (allTail (h))))))) | exact fact0 (allTail (allTail (allTail (allTail (allTail (allTail (allTail (h)))))))) | exact fact0 (allTail (allTail (allTail (allTail (allTail (allTail (allTail (allTail (h))))))))) | exact fact0 (allTail (allTail (allTail (allTail (allTail (allTail (allTail (allTail (allTail (h))))))))))) (by simp) (by simp [maxLen])) (by rw [List.length_append]; exact hc) (by rw [List.length_append, List.length_singleton]; simp only [maxLen]; omega) (by omega) (fact0 h)) ?_
              refine Pw.held sf ?_
              refine Pw.takeBuild 13 (nb 16 16383) rfl rfl rfl rfl rfl (by kernel_rfl) np sf ?_
              refine Pw.one 14 (nb 16 32767) rfl (by kernel_rfl) ?_
              refine Pw.alloc rfl rfl rfl rfl rfl (fun g9 => ?_)
              first | refine Pw.perm (permE2 (X := gL _ _ _)) ?_ | refine Pw.perm (List.Perm.swap _ _ []) ?_ | skip
              refine Pw.held sf ?_
              refine Pw.one 15 (nb 16 65535) rfl (by kernel_rfl) ?_
              refine Pw.sto rfl rfl inferInstance rfl rfl rfl rfl rfl inferInstance rfl ?_
              refine Pw.held sf ?_
              refine Pw.done (by kernel_rfl) ?_
              exact Pw.then_ (Pw.arrive ((A', c'), (some ⟨gp, 0, none⟩, 1), g9) trivial ⟨rfl, rfl, rfl, rfl, rfl, trivial⟩ rfl (fun w h => allCons (hv w h) (allCons (hv w h) (allCons (by first | exact fact0 (h) | exact fact0 (allTail (h)) | exact fact0 (allTail (allTail (h))) | exact fact0 (allTail (allTail (allTail (h)))) | exact fact0 (allTail (allTail (allTail (allTail (h))))) | exact fact0 (allTail (allTail (allTail (allTail (allTail (h)))))) | exact fact0 (allTail (allTail (allTail (allTail (allTail (allTail (h))))))) | exact fact0 (allTail (allTail (allTail (allTail (allTail (allTail (allTail (h)))))))) | exact fact0 (allTail (allTail (allTail (allTail (allTail (allTail (allTail (allTail (h))))))))) | exact fact0 (allTail (allTail (allTail (allTail (allTail (allTail (allTail (allTail (allTail (h))))))))))) allNil))))
            · skip
              refine Pw.alloc rfl rfl rfl rfl rfl (fun g9 => ?_)
              first | refine Pw.perm (permE2 (X := gL _ _ _)) ?_ | refine Pw.perm (List.Perm.swap _ _ []) ?_ | skip
              refine Pw.held sf ?_
              refine Pw.one 12 (nb 16 24575) rfl (by kernel_rfl) ?_
              refine Pw.push (s := qa) (m := s.vs.length) (cells := cellsV s.vs) (news := encV (idV stake pick (some ⟨gp, 0, none⟩, 1))) rfl rfl rfl rfl rfl rfl rfl hqa rfl (encV_one _) (fun w hs j u hu => by
                have h1 : w.heap[gv1]? = some (row (encV (idV stake pick (some ⟨gp, 0, none⟩, 1))) 44) := by
                  have h := hs.all
                  exact (by first | exact fact0 (h) | exact fact0 (allTail (h)) | exact fact0 (allTail (allTail (h))) | exact fact0 (allTail (allTail (allTail (h)))) | exact fact0 (allTail (allTail (allTail (allTail (h))))) | exact fact0 (allTail (allTail (allTail (allTail (allTail (h)))))) | exact fact0 (allTail (allTail (allTail (allTail (allTail (allTail (h))))))) | exact fact0 (allTail (allTail (allTail (allTail (allTail (allTail (allTail (h)))))))) | exact fact0 (allTail (allTail (allTail (allTail (allTail (allTail (allTail (allTail (h))))))))) | exact fact0 (allTail (allTail (allTail (allTail (allTail (allTail (allTail (allTail (allTail (h)))))))))))
                rw [add_none, cell_of_blk h1]
                simpa using hu) (by omega) (by simp only [maxLen]; omega) (by show (s.vs.length + 1) * 40 ≤ _; omega) rfl rfl (fun qb hqb => ?_)
              rw [← cellsV_snoc] at hqb ⊢
              refine Pw.freeG hqb (fun A' c' e hc => ?_)
              refine Pw.re (d := 37) (v' := .slice A' (s.vs ++ [idV stake pick (some ⟨gp, 0, none⟩, 1)]).length c') rfl (by rw [e, List.length_append]; rfl) ?_
              refine Pw.more (φ := VS (s.vs ++ [idV stake pick (some ⟨gp, 0, none⟩, 1)]) (A', c')) (fun w h => rows_of_cells (fun _ _ => rfl) (fun y hy => by
                rcases List.mem_append.1 hy with hy | hy
                · obtain ⟨j, hj⟩ := List.getElem?_of_mem hy
                  have h1 : VS s.vs s.zv w := (hv w h)
                  obtain ⟨ad, cs, e1, _, ⟨_, h2⟩, _⟩ := h1.2.2 j y hj
                  exact h2
                · rw [List.mem_singleton.1 hy]
                  exact ints_of_row' (l := [pick]) (by first | exact fact0 (h) | exact fact0 (allTail (h)) | exact fact0 (allTail (allTail (h))) | exact fact0 (allTail (allTail (allTail (h)))) | exact fact0 (allTail (allTail (allTail (allTail (h))))) | exact fact0 (allTail (allTail (allTail (allTail (allTail (h)))))) | exact fact0 (allTail (allTail (allTail (allTail (allTail (allTail (h))))))) | exact fact0 (allTail (allTail (allTail (allTail (allTail (allTail (allTail (h)))))))) | exact fact0 (allTail (allTail (allTail (allTail (allTail (allTail (allTail (allTail (h))))))))) | exact fact0 (allTail (allTail (allTail (allTail (allTail (allTail (allTail (allTail (allTail (h))))))))))) (by simp) (by simp [maxLen])) (by rw [List.length_append]; exact hc) (by rw [List.length_append, List.length_singleton]; simp only [maxLen]; omega) (by omega) (fact0 h)) ?_
              refine Pw.held sf ?_
              refine Pw.takeBuild 13 (nb 16 32767) rfl rfl rfl rfl rfl (by kernel_rfl) np sf ?_
              refine Pw.one 15 (nb 16 65535) rfl (by kernel_rfl) ?_
              refine Pw.sto rfl rfl inferInstance rfl rfl rfl rfl rfl inferInstance rfl ?_
              refine Pw.held sf ?_
              refine Pw.done (by kernel_rfl) ?_
              exact Pw.then_ (Pw.arrive ((A', c'), (some ⟨gp, 0, none⟩, 1), g9) trivial ⟨rfl, rfl, rfl, rfl, rfl, trivial⟩ rfl (fun w h => allCons (hv w h) (allCons (hv w h) (allCons (by first | exact fact0 (h) | exact fact0 (allTail (h)) | exact fact0 (allTail (allTail (h))) | exact fact0 (allTail (allTail (allTail (h)))) | exact fact0 (allTail (allTail (allTail (allTail (h))))) | exact fact0 (allTail (allTail (allTail (allTail (allTail (h)))))) | exact fact0 (allTail (allTail (allTail (allTail (allTail (allTail (h))))))) | exact fact0 (allTail (allTail (allTail (allTail (allTail (allTail (allTail (h)))))))) | exact fact0 (allTail (allTail (allTail (allTail (allTail (allTail (allTail (allTail (h))))))))) | exact fact0 (allTail (allTail (allTail (allTail (allTail (allTail (allTail (allTail (allTail (h))))))))))) allNil))))
          · skip
            refine Pw.alloc rfl rfl rfl rfl rfl (fun g9 => ?_)
            first | refine Pw.perm (permE2 (X := gL _ _ _)) ?_ | refine Pw.perm (List.Perm.swap _ _ []) ?_ | skip
            refine Pw.held sf ?_
            refine Pw.one 5 (nb 16 20479) rfl (by kernel_rfl) ?_
            refine Pw.pushG (s := some (ga, 0, [])) (m := 0) (cells := []) (news := cellsV s.vs) rfl rfl rfl rfl rfl rfl rfl ⟨rfl, Nat.le_refl _, rfl⟩ (cellsV_len s.vs) (cellsV_one s.vs) (fun w hs j u hu => (hv w hs.all : VS s.vs s.zv w).toCellsE (by omega) j u hu) (by show 0 < 3; omega) (by simp only [maxLen]; omega) (by show (0 + s.vs.length) * 40 ≤ _; omega) rfl rfl (fun qa hqa => ?_)
            rw [List.nil_append, Nat.zero_add] at hqa ⊢
            refine Pw.held sf ?_
            refine Pw.one 12 (nb 16 24575) rfl (by kernel_rfl) ?_
            refine Pw.push (s := qa) (m := s.vs.length) (cells := cellsV s.vs) (news := encV (idV stake pick (some ⟨gp, 0, none⟩, 1))) rfl rfl rfl rfl rfl rfl rfl hqa rfl (encV_one _) (fun w hs j u hu => by
              have h1 : w.heap[gv1]? = some (row (encV (idV stake pick (some ⟨gp, 0, none⟩, 1))) 44) := by
                have h := hs.all
                exact (by first | exact fact0 (h) | exact fact0 (allTail (h)) | exact fact0 (allTail (allTail (h))) | exact fact0 (allTail (allTail (allTail (h)))) | exact fact0 (allTail (allTail (allTail (allTail (h))))) | exact fact0 (allTail (allTail (allTail (allTail (allTail (h)))))) | exact fact0 (allTail (allTail (allTail (allTail (allTail (allTail (h))))))) | exact fact0 (allTail (allTail (allTail (allTail (allTail (allTail (allTail (h)))))))) | exact fact0 (allTail (allTail (allTail (allTail (allTail (allTail (allTail (allTail (h))))))))) | exact fact0 (allTail (allTail (allTail (allTail (allTail (allTail (allTail (allTail (allTail (h)))))))))))
              rw [add_none, cell_of_blk h1]
              simpa using hu) (by omega) (by simp only [maxLen]; omega) (by show (s.vs.length + 1) * 40 ≤ _; omega) rfl rfl (fun qb hqb => ?_)
            rw [← cellsV_snoc] at hqb ⊢
            refine Pw.freeG hqb (fun A' c' e hc => ?_)
            refine Pw.re (d := 37) (v' := .slice A' (s.vs ++ [idV stake pick (some ⟨gp, 0, none⟩, 1)]).length c') rfl (by rw [e, List.length_append]; rfl) ?_
            refine Pw.more (φ := VS (s.vs ++ [idV stake pick (some ⟨gp, 0, none⟩, 1)]) (A', c')) (fun w h => rows_of_cells (fun _ _ => rfl) (fun y hy => by
              rcases List.mem_append.1 hy with hy | hy
              · obtain ⟨j, hj⟩ := List.getElem?_of_mem hy
                have h1 : VS s.vs s.zv w := (hv w h)
                obtain ⟨ad, cs, e1, _, ⟨_, h2⟩, _⟩ := h1.2.2 j y hj
                exact h2
              · rw [List.mem_singleton.1 hy]
                exact ints_of_row' (l := [pick]) (by first | exact fact0 (h) | exact fact0 (allTail (h)) | exact fact0 (allTail (allTail (h))) | exact fact0 (allTail (allTail (allTail (h)))) | exact fact0 (allTail (allTail (allTail (allTail (h))))) | exact fact0 (allTail (allTail (allTail (allTail (allTail (h)))))) | exact fact0 (allTail (allTail (allTail (allTail (allTail (allTail (h))))))) | exact fact0 (allTail (allTail (allTail (allTail (allTail (allTail (allTail (h)))))))) | exact fact0 (allTail (allTail (allTail (allTail (allTail (allTail (allTail (allTail (h))))))))) | exact fact0 (allTail (allTail (allTail (allTail (allTail (allTail (allTail (allTail (allTail (h))))))))))) (by simp) (by simp [maxLen])) (by rw [List.length_append]; exact hc) (by rw [List.length_append, List.length_singleton]; simp only [maxLen]; omega) (by omega) (fact0 h)) ?_
            refine Pw.held sf ?_
            refine Pw.takeBuild 13 (nb 16 32767) rfl rfl rfl rfl rfl (by kernel_rfl) np sf ?_
            refine Pw.one 15 (nb 16 65535) rfl (by kernel_rfl) ?_
            refine Pw.sto rfl rfl inferInstance rfl rfl rfl rfl rfl inferInstance rfl ?_
            refine Pw.held sf ?_
            refine Pw.done (by kernel_rfl) ?_
            exact Pw.then_ (Pw.arrive ((A', c'), (some ⟨gp, 0, none⟩, 1), g9) trivial ⟨rfl, rfl, rfl, rfl, rfl, trivial⟩ rfl (fun w h => allCons (hv w h) (allCons (hv w h) (allCons (by first | exact fact0 (h) | exact fact0 (allTail (h)) | exact fact0 (allTail (allTail (h))) | exact fact0 (allTail (allTail (allTail (h)))) | exact fact0 (allTail (allTail (allTail (allTail (h))))) | exact fact0 (allTail (allTail (allTail (allTail (allTail (h)))))) | exact fact0 (allTail (allTail (allTail (allTail (allTail (allTail (h))))))) | exact fact0 (allTail (allTail (allTail (allTail (allTail (allTail (allTail (h)))))))) | exact fact0 (allTail (allTail (allTail (allTail (allTail (allTail (allTail (allTail (h))))))))) | exact fact0 (allTail (allTail (allTail (allTail (allTail (allTail (allTail (allTail (allTail (h))))))))))) allNil))))
        · skip
          refine Pw.alloc rfl rfl rfl rfl rfl (fun g9 => ?_)
          first | refine Pw.perm (permE2 (X := gL _ _ _)) ?_ | refine Pw.perm (List.Perm.swap _ _ []) ?_ | skip
          refine Pw.held sf ?_
          refine Pw.one 2 (nb 16 20447) rfl (by kernel_rfl) ?_
          refine Pw.lit0 rfl rfl rfl rfl (fun ga => ?_)
          refine Pw.held sf ?_
          refine Pw.one 5 (nb 16 20479) rfl (by kernel_rfl) ?_
          refine Pw.pushG (s := some (ga, 0, [])) (m := 0) (cells := []) (news := cellsV s.vs) rfl rfl rfl rfl rfl rfl rfl ⟨rfl, Nat.le_refl _, rfl⟩ (cellsV_len s.vs) (cellsV_one s.vs) (fun w hs j u hu => (hv w hs.all : VS s.vs s.zv w).toCellsE (by omega) j u hu) (by show 0 < 3; omega) (by simp only [maxLen]; omega) (by show (0 + s.vs.length) * 40 ≤ _; omega) rfl rfl (fun qa hqa => ?_)
          rw [List.nil_append, Nat.zero_add] at hqa ⊢
          refine Pw.held sf ?_
          refine Pw.one 12 (nb 16 24575) rfl (by kernel_rfl) ?_
          refine Pw.push (s := qa) (m := s.vs.length) (cells := cellsV s.vs) (news := encV (idV stake pick (some ⟨gp, 0, none⟩, 1))) rfl rfl rfl rfl rfl rfl rfl hqa rfl (encV_one _) (fun w hs j u hu => by
            have h1 : w.heap[gv1]? = some (row (encV (idV stake pick (some ⟨gp, 0, none⟩, 1))) 44) := by
              have h := hs.all
              exact (by first | exact fact0 (h) | exact fact0 (allTail (h)) | exact fact0 (allTail (allTail (h))) | exact fact0 (allTail (allTail (allTail (h)))) | exact fact0 (allTail (allTail (allTail (allTail (h))))) | exact fact0 (allTail (allTail (allTail (allTail (allTail (h)))))) | exact fact0 (allTail (allTail (allTail (allTail (allTail (allTail (h))))))) | exact fact0 (allTail (allTail (allTail (allTail (allTail (allTail (allTail (h)))))))) | exact fact0 (allTail (allTail (allTail (allTail (allTail (allTail (allTail (allTail (h))))))))) | exact fact0 (allTail (allTail (allTail (allTail (allTail (allTail (allTail (allTail (allTail (h)))))))))))
            rw [add_none, cell_of_blk h1]
            simpa using hu) (by omega) (by simp only [maxLen]; omega) (by show (s.vs.length + 1) * 40 ≤ _; omega) rfl rfl (fun qb hqb => ?_)
          rw [← cellsV_snoc] at hqb ⊢
          refine Pw.freeG hqb (fun A' c' e hc => ?_)
          refine Pw.re (d := 37) (v' := .slice A' (s.vs ++ [idV stake pick (some ⟨gp, 0, none⟩, 1)]).length c') rfl (by rw [e, List.length_append]; rfl) ?_
          refine Pw.more (φ := VS (s.vs ++ [idV stake pick (some ⟨gp, 0, none⟩, 1)]) (A', c')) (fun w h => rows_of_cells (fun _ _ => rfl) (fun y hy => by
            rcases List.mem_append.1 hy with hy | hy
            · obtain ⟨j, hj⟩ := List.getElem?_of_mem hy
              have h1 : VS s.vs s.zv w := (hv w h)
              obtain ⟨ad, cs, e1, _, ⟨_, h2⟩, _⟩ := h1.2.2 j y hj
              exact h2
            · rw [List.mem_singleton.1 hy]
              exact ints_of_row' (l := [pick]) (by first | exact fact0 (h) | exact fact0 (allTail (h)) | exact fact0 (allTail (allTail (h))) | exact fact0 (allTail (allTail (allTail (h)))) | exact fact0 (allTail (allTail (allTail (allTail (h))))) | exact fact0 (allTail (allTail (allTail (allTail (allTail (h)))))) | exact fact0 (allTail (allTail (allTail (allTail (allTail (allTail (h))))))) | exact fact0 (allTail (allTail (allTail (allTail (allTail (allTail (allTail (h)))))))) | exact fact0 (allTail (allTail (allTail (allTail (allTail (allTail (allTail (allTail (h))))))))) | exact fact0 (allTail (allTail (allTail (allTail (allTail (allTail (allTail (allTail (allTail (h))))))))))) (by simp) (by simp [maxLen])) (by rw [List.length_append]; exact hc) (by rw [List.length_append, List.length_singleton]; simp only [maxLen]; omega) (by omega) (fact0 h)) ?_
          refine Pw.held sf ?_
          refine Pw.takeBuild 13 (nb 16 32767) rfl rfl rfl rfl rfl (by kernel_rfl) np sf ?_
          refine Pw.one 15 (nb 16 65535) rfl (by kernel_rfl) ?_
          refine Pw.sto rfl rfl inferInstance rfl rfl rfl rfl rfl inferInstance rfl ?_
          refine Pw.held sf ?_
          refine Pw.done (by kernel_rfl) ?_
          exact Pw.then_ (Pw.arrive ((A', c'), (some ⟨gp, 0, none⟩, 1), g9) trivial ⟨rfl, rfl, rfl, rfl, rfl, trivial⟩ rfl (fun w h => allCons (hv w h) (allCons (hv w h) (allCons (by first | exact fact0 (h) | exact fact0 (allTail (h)) | exact fact0 (allTail (allTail (h))) | exact fact0 (allTail (allTail (allTail (h)))) | exact fact0 (allTail (allTail (allTail (allTail (h))))) | exact fact0 (allTail (allTail (allTail (allTail (allTail (h)))))) | exact fact0 (allTail (allTail (allTail (allTail (allTail (allTail (h))))))) | exact fact0 (allTail (allTail (allTail (allTail (allTail (allTail (allTail (h)))))))) | exact fact0 (allTail (allTail (allTail (allTail (allTail (allTail (allTail (allTail (h))))))))) | exact fact0 (allTail (allTail (allTail (allTail (allTail (allTail (allTail (allTail (allTail (h))))))))))) allNil))))
      · skip
        refine Pw.alloc rfl rfl rfl rfl rfl (fun g9 => ?_)
        first | refine Pw.perm (permE2 (X := gL _ _ _)) ?_ | refine Pw.perm (List.Perm.swap _ _ []) ?_ | skip
        refine Pw.held sf ?_
        refine Pw.two 2 11 (nb 16 18399) (nb 16 20443) rfl rfl (by kernel_rfl) ?_ ?_
        · skip
          refine Pw.lit0 rfl rfl rfl rfl (fun ga => ?_)
          refine Pw.held sf ?_
          refine Pw.two 5 11 (nb 16 18431) (nb 16 20447) rfl rfl (by kernel_rfl) ?_ ?_
          · skip
            refine Pw.pushG (s := some (ga, 0, [])) (m := 0) (cells := []) (news := cellsV s.vs) rfl rfl rfl rfl rfl rfl rfl ⟨rfl, Nat.le_refl _, rfl⟩ (cellsV_len s.vs) (cellsV_one s.vs) (fun w hs j u hu => (hv w hs.all : VS s.vs s.zv w).toCellsE (by omega) j u hu) (by show 0 < 3; omega) (by simp only [maxLen]; omega) (by show (0 + s.vs.length) * 40 ≤ _; omega) rfl rfl (fun qa hqa => ?_)
            rw [List.nil_append, Nat.zero_add] at hqa ⊢
            refine Pw.held sf ?_
            refine Pw.one 11 (nb 16 20479) rfl (by kernel_rfl) ?_
            refine Pw.lit13 rfl rfl rfl rfl rfl rfl rfl rfl rfl (fun gv1 => freeHead ?_)
            refine Pw.held sf ?_
            refine Pw.one 12 (nb 16 24575) rfl (by kernel_rfl) ?_
            refine Pw.push (s := qa) (m := s.vs.length) (cells := cellsV s.vs) (news := encV (idV stake pick (some ⟨gp, 0, none⟩, 1))) rfl rfl rfl rfl rfl rfl rfl hqa rfl (encV_one _) (fun w hs j u hu => by
              have h1 : w.heap[gv1]? = some (row (encV (idV stake pick (some ⟨gp, 0, none⟩, 1))) 44) := by
                have h := hs.all
                exact (by first | exact fact0 (h) | exact fact0 (allTail (h)) | exact fact0 (allTail (allTail (h))) | exact fact0 (allTail (allTail (allTail (h)))) | exact fact0 (allTail (allTail (allTail (allTail (h))))) | exact fact0 (allTail (allTail (allTail (allTail (allTail (h)))))) | exact fact0 (allTail (allTail (allTail (allTail (allTail (allTail (h))))))) | exact fact0 (allTail (allTail (allTail (allTail (allTail (allTail (allTail (h)))))))) | exact fact0 (allTail (allTail (allTail (allTail (allTail (allTail (allTail (allTail (h))))))))) | exact fact0 (allTail (allTail (allTail (allTail (allTail (allTail (allTail (allTail (allTail (h)))))))))))
              rw [add_none, cell_of_blk h1]
              simpa using hu) (by omega) (by simp only [maxLen]; omega) (by show (s.vs.length + 1) * 40 ≤ _; omega) rfl rfl (fun qb hqb => ?_)
            rw [← cellsV_snoc] at hqb ⊢
            refine Pw.freeG hqb (fun A' c' e hc => ?_)
            refine Pw.re (d := 37) (v' := .slice A' (s.vs ++ [idV stake pick (some ⟨gp, 0, none⟩, 1)]).length c') rfl (by rw [e, List.length_append]; rfl) ?_
            refine Pw.more (φ := VS (s.vs ++ [idV stake pick (some ⟨gp, 0, none⟩, 1)]) (A', c')) (fun w h => rows_of_cells (fun _ _ => rfl) (fun y hy => by
              rcases List.mem_append.1 hy with hy | hy
              · obtain ⟨j, hj⟩ := List.getElem?_of_mem hy
                have h1 : VS s.vs s.zv w := (hv w h)
                obtain ⟨ad, cs, e1, _, ⟨_, h2⟩, _⟩ := h1.2.2 j y hj
                exact h2
              · rw [List.mem_singleton.1 hy]
                exact ints_of_row' (l := [pick]) (by first | exact fact0 (h) | exact fact0 (allTail (h)) | exact fact0 (allTail (allTail (h))) | exact fact0 (allTail (allTail (allTail (h)))) | exact fact0 (allTail (allTail (allTail (allTail (h))))) | exact fact0 (allTail (allTail (allTail (allTail (allTail (h)))))) | exact fact0 (allTail (allTail (allTail (allTail (allTail (allTail (h))))))) | exact fact0 (allTail (allTail (allTail (allTail (allTail (allTail (allTail (h)))))))) | exact fact0 (allTail (allTail (allTail (allTail (allTail (allTail (allTail (allTail (h))))))))) | exact fact0 (allTail (allTail (allTail (allTail (allTail (allTail (allTail (allTail (allTail (h))))))))))) (by simp) (by simp [maxLen])) (by rw [List.length_append]; exact hc) (by rw [List.length_append, List.length_singleton]; simp only [maxLen]; omega) (by omega) (fact0 h)) ?_
            refine Pw.held sf ?_
            refine Pw.takeBuild 13 (nb 16 32767) rfl rfl rfl rfl rfl (by kernel_rfl) np sf ?_
            refine Pw.one 15 (nb 16 65535) rfl (by kernel_rfl) ?_
            refine Pw.sto rfl rfl inferInstance rfl rfl rfl rfl rfl inferInstance rfl ?_
            refine Pw.held sf ?_
            refine Pw.done (by kernel_rfl) ?_
            exact Pw.then_ (Pw.arrive ((A', c'), (some ⟨gp, 0, none⟩, 1), g9) trivial ⟨rfl, rfl, rfl, rfl, rfl, trivial⟩ rfl (fun w h => allCons (hv w h) (allCons (hv w h) (allCons (by first | exact fact0 (h) | exact fact0 (allTail (h)) | exact fact0 (allTail (allTail (h))) | exact fact0 (allTail (allTail (allTail (h)))) | exact fact0 (allTail (allTail (allTail (allTail (h))))) | exact fact0 (allTail (allTail (allTail (allTail (allTail (h)))))) | exact fact0 (allTail (allTail (allTail (allTail (allTail (allTail (h))))))) | exact fact0 (allTail (allTail (allTail (allTail (allTail (allTail (allTail (h)))))))) | exact fact0 (allTail (allTail (allTail (allTail (allTail (allTail (allTail (allTail (h))))))))) | exact fact0 (allTail (allTail (allTail (allTail (allTail (allTail (allTail (allTail (allTail (h))))))))))) allNil))))
          · skip
            refine Pw.lit13 rfl rfl rfl rfl rfl rfl rfl rfl rfl (fun gv1 => freeHead ?_)
            refine Pw.held sf ?_
            refine Pw.one 5 (nb 16 20479) rfl (by kernel_rfl) ?_
            refine Pw.pushG (s := some (ga, 0, [])) (m := 0) (cells := []) (news := cellsV s.vs) rfl rfl rfl rfl rfl rfl rfl ⟨rfl, Nat.le_refl _, rfl⟩ (cellsV_len s.vs) (cellsV_one s.vs) (fun w hs j u hu => (hv w hs.all : VS s.vs s.zv w).toCellsE (by omega) j u hu) (by show 0 < 3; omega) (by simp only [maxLen]; omega) (by show (0 + s.vs.length) * 40 ≤ _; omega) rfl rfl (fun qa hqa => ?_)
            rw [List.nil_append, Nat.zero_add] at hqa ⊢
            refine Pw.held sf ?_
            refine Pw.one 12 (nb 16 24575) rfl (by kernel_rfl) ?_
            refine Pw.push (s := qa) (m := s.vs.length) (cells := cellsV s.vs) (news := encV (idV stake pick (some ⟨gp, 0, none⟩, 1))) rfl rfl rfl rfl rfl rfl rfl hqa rfl (encV_one _) (fun w hs j u hu => by
              have h1 : w.heap[gv1]? = some (row (encV (idV stake pick (some ⟨gp, 0, none⟩, 1))) 44) := by
                have h := hs.all
                exact (by first | exact fact0 (h) | exact fact0 (allTail (h)) | exact fact0 (allTail (allTail (h))) | exact fact0 (allTail (allTail (allTail (h)))) | exact fact0 (allTail (allTail (allTail (allTail (h))))) | exact fact0 (allTail (allTail (allTail (allTail (allTail (h)))))) | exact fact0 (allTail (allTail (allTail (allTail (allTail (allTail (h))))))) | exact fact0 (allTail (allTail (allTail (allTail (allTail (allTail (allTail (h)))))))) | exact fact0 (allTail (allTail (allTail (allTail (allTail (allTail (allTail (allTail (h))))))))) | exact fact0 (allTail (allTail (allTail (allTail (allTail (allTail (allTail (allTail (allTail (h)))))))))))
              rw [add_none, cell_of_blk h1]
              simpa using hu) (by omega) (by simp only [maxLen]; omega) (by show (s.vs.length + 1) * 40 ≤ _; omega) rfl rfl (fun qb hqb => ?_)
            rw [← cellsV_snoc] at hqb ⊢
            refine Pw.freeG hqb (fun A' c' e hc => ?_)
            refine Pw.re (d := 37) (v' := .slice A' (s.vs ++ [idV stake pick (some ⟨gp, 0, none⟩, 1)]).length c') rfl (by rw [e, List.length_append]; rfl) ?_
            refine Pw.more (φ := VS (s.vs ++ [idV stake pick (some ⟨gp, 0, none⟩, 1)]) (A', c')) (fun w h => rows_of_cells (fun _ _ => rfl) (fun y hy => by
              rcases List.mem_append.1 hy with hy | hy
              · obtain ⟨j, hj⟩ := List.getElem?_of_mem hy
                have h1 : VS s.vs s.zv w := (hv w h)
                obtain ⟨ad, cs, e1, _, ⟨_, h2⟩, _⟩ := h1.2.2 j y hj
                exact h2
              · rw [List.mem_singleton.1 hy]
                exact ints_of_row' (l := [pick]) (by first | exact fact0 (h) | exact fact0 (allTail (h)) | exact fact0 (allTail (allTail (h))) | exact fact0 (allTail (allTail (allTail (h)))) | exact fact0 (allTail (allTail (allTail (allTail (h))))) | exact fact0 (allTail (allTail (allTail (allTail (allTail (h)))))) | exact fact0 (allTail (allTail (allTail (allTail (allTail (allTail (h))))))) | exact fact0 (allTail (allTail (allTail (allTail (allTail (allTail (allTail (h)))))))) | exact fact0 (allTail (allTail (allTail (allTail (allTail (allTail (allTail (allTail (h))))))))) | exact fact0 (allTail (allTail (allTail (allTail (allTail (allTail (allTail (allTail (allTail (h))))))))))) (by simp) (by simp [maxLen])) (by rw [List.length_append]; exact hc) (by rw [List.length_append, List.length_singleton]; simp only [maxLen]; omega) (by omega) (fact0 h)) ?_
            refine Pw.held sf ?_
            refine Pw.takeBuild 13 (nb 16 32767) rfl rfl rfl rfl rfl (by kernel_rfl) np sf ?_
            refine Pw.one 15 (nb 16 65535) rfl (by kernel_rfl) ?_
            refine Pw.sto rfl rfl inferInstance rfl rfl rfl rfl rfl inferInstance rfl ?_
            refine Pw.held sf ?_
            refine Pw.done (by kernel_rfl) ?_
            exact Pw.then_ (Pw.arrive ((A', c'), (some ⟨gp, 0, none⟩, 1), g9) trivial ⟨rfl, rfl, rfl, rfl, rfl, trivial⟩ rfl (fun w h => allCons (hv w h) (allCons (hv w h) (allCons (by first | exact fact0 (h) | exact fact0 (allTail (h)) | exact fact0 (allTail (allTail (h))) | exact fact0 (allTail (allTail (allTail (h)))) | exact fact0 (allTail (allTail (allTail (allTail (h))))) | exact fact0 (allTail (allTail (allTail (allTail (allTail (h)))))) | exact fact0 (allTail (allTail (allTail (allTail (allTail (allTail (h))))))) | exact fact0 (allTail (allTail (allTail (allTail (allTail (allTail (allTail (h)))))))) | exact fact0 (allTail (allTail (allTail (allTail (allTail (allTail (allTail (allTail (h))))))))) | exact fact0 (allTail (allTail (allTail (allTail (allTail (allTail (allTail (allTail (allTail (h))))))))))) allNil))))
        · skip
          refine Pw.lit13 rfl rfl rfl rfl rfl rfl rfl rfl rfl (fun gv1 => freeHead ?_)
          refine Pw.held sf ?_
          refine Pw.one 2 (nb 16 20447) rfl (by kernel_rfl) ?_
          refine Pw.lit0 rfl rfl rfl rfl (fun ga => ?_)
          refine Pw.held sf ?_
          refine Pw.one 5 (nb 16 20479) rfl (by kernel_rfl) ?_
          refine Pw.pushG (s := some (ga, 0, [])) (m := 0) (cells := []) (news := cellsV s.vs) rfl rfl rfl rfl rfl rfl rfl ⟨rfl, Nat.le_refl _, rfl⟩ (cellsV_len s.vs) (cellsV_one s.vs) (fun w hs j u hu => (hv w hs.all : VS s.vs s.zv w).toCellsE (by omega) j u hu) (by show 0 < 3; omega) (by simp only [maxLen]; omega) (by show (0 + s.vs.length) * 40 ≤ _; omega) rfl rfl (fun qa hqa => ?_)
          rw [List.nil_append, Nat.zero_add] at hqa ⊢
          refine Pw.held sf ?_
          refine Pw.one 12 (nb 16 24575) rfl (by kernel_rfl) ?_
          refine Pw.push (s := qa) (m := s.vs.length) (cells := cellsV s.vs) (news := encV (idV stake pick (some ⟨gp, 0, none⟩, 1))) rfl rfl rfl rfl rfl rfl rfl hqa rfl (encV_one _) (fun w hs j u hu => by
            have h1 : w.heap[gv1]? = some (row (encV (idV stake pick (some ⟨gp, 0, none⟩, 1))) 44) := by
              have h := hs.all
              exact (by first | exact fact0 (h) | exact fact0 (allTail (h)) | exact fact0 (allTail (allTail (h))) | exact fact0 (allTail (allTail (allTail (h)))) | exact fact0 (allTail (allTail (allTail (allTail (h))))) | exact fact0 (allTail (allTail (allTail (allTail (allTail (h)))))) | exact fact0 (allTail (allTail (allTail (allTail (allTail (allTail (h))))))) | exact fact0 (allTail (allTail (allTail (allTail (allTail (allTail (allTail (h)))))))) | exact fact0 (allTail (allTail (allTail (allTail (allTail (allTail (allTail (allTail (h))))))))) | exact fact0 (allTail (allTail (allTail (allTail (allTail (allTail (allTail (allTail (allTail (h)))))))))))
            rw [add_none, cell_of_blk h1]
            simpa using hu) (by omega) (by simp only [maxLen]; omega) (by show (s.vs.length + 1) * 40 ≤ _; omega) rfl rfl (fun qb hqb => ?_)
          rw [← cellsV_snoc] at hqb ⊢
          refine Pw.freeG hqb (fun A' c' e hc => ?_)
          refine Pw.re (d := 37) (v' := .slice A' (s.vs ++ [idV stake pick (some ⟨gp, 0, none⟩, 1)]).length c') rfl (by rw [e, List.length_append]; rfl) ?_
          refine Pw.more (φ := VS (s.vs ++ [idV stake pick (some ⟨gp, 0, none⟩, 1)]) (A', c')) (fun w h => rows_of_cells (fun _ _ => rfl) (fun y hy => by
            rcases List.mem_append.1 hy with hy | hy
            · obtain ⟨j, hj⟩ := List.getElem?_of_mem hy
              have h1 : VS s.vs s.zv w := (hv w h)
              obtain ⟨ad, cs, e1, _, ⟨_, h2⟩, _⟩ := h1.2.2 j y hj
              exact h2
            · rw [List.mem_singleton.1 hy]
              exact ints_of_row' (l := [pick]) (by first | exact fact0 (h) | exact fact0 (allTail (h)) | exact fact0 (allTail (allTail (h))) | exact fact0 (allTail (allTail (allTail (h)))) | exact fact0 (allTail (allTail (allTail (allTail (h))))) | exact fact0 (allTail (allTail (allTail (allTail (allTail (h)))))) | exact fact0 (allTail (allTail (allTail (allTail (allTail (allTail (h))))))) | exact fact0 (allTail (allTail (allTail (allTail (allTail (allTail (allTail (h)))))))) | exact fact0 (allTail (allTail (allTail (allTail (allTail (allTail (allTail (allTail (h))))))))) | exact fact0 (allTail (allTail (allTail (allTail (allTail (allTail (allTail (allTail (allTail (h))))))))))) (by simp) (by simp [maxLen])) (by rw [List.length_append]; exact hc) (by rw [List.length_append, List.length_singleton]; simp only [maxLen]; omega) (by omega) (fact0 h)) ?_
          refine Pw.held sf ?_
          refine Pw.takeBuild 13 (nb 16 32767) rfl rfl rfl rfl rfl (by kernel_rfl) np sf ?_
          refine Pw.one 15 (nb 16 65535) rfl (by kernel_rfl) ?_
          refine Pw.sto rfl rfl inferInstance rfl rfl rfl rfl rfl inferInstance rfl ?_
          refine Pw.held sf ?_
          refine Pw.done (by kernel_rfl) ?_
          exact Pw.then_ (Pw.arrive ((A', c'), (some ⟨gp, 0, none⟩, 1), g9) trivial ⟨rfl, rfl, rfl, rfl, rfl, trivial⟩ rfl (fun w h => allCons (hv w h) (allCons (hv w h) (allCons (by first | exact fact0 (h) | exact fact0 (allTail (h)) | exact fact0 (allTail (allTail (h))) | exact fact0 (allTail (allTail (allTail (h)))) | exact fact0 (allTail (allTail (allTail (allTail (h))))) | exact fact0 (allTail (allTail (allTail (allTail (allTail (h)))))) | exact fact0 (allTail (allTail (allTail (allTail (allTail (allTail (h))))))) | exact fact0 (allTail (allTail (allTail (allTail (allTail (allTail (allTail (h)))))))) | exact fact0 (allTail (allTail (allTail (allTail (allTail (allTail (allTail (allTail (h))))))))) | exact fact0 (allTail (allTail (allTail (allTail (allTail (allTail (allTail (allTail (allTail (h))))))))))) allNil))))
    · skip
      refine Pw.alloc rfl rfl rfl rfl rfl (fun g9 => ?_)
      first | refine Pw.perm (permE2 (X := gL _ _ _)) ?_ | refine Pw.perm (List.Perm.swap _ _ []) ?_ | skip
      refine Pw.held sf ?_
      refine Pw.two 2 9 (nb 16 16863) (nb 16 17371) rfl rfl (by kernel_rfl) ?_ ?_
      · skip
        refine Pw.lit0 rfl rfl rfl rfl (fun ga => ?_)
        refine Pw.held sf ?_
        refine Pw.two 5 9 (nb 16 16895) (nb 16 17375) rfl rfl (by kernel_rfl) ?_ ?_
        · skip
          refine Pw.pushG (s := some (ga, 0, [])) (m := 0) (cells := []) (news := cellsV s.vs) rfl rfl rfl rfl rfl rfl rfl ⟨rfl, Nat.le_refl _, rfl⟩ (cellsV_len s.vs) (cellsV_one s.vs) (fun w hs j u hu => (hv w hs.all : VS s.vs s.zv w).toCellsE (by omega) j u hu) (by show 0 < 3; omega) (by simp only [maxLen]; omega) (by show (0 + s.vs.length) * 40 ≤ _; omega) rfl rfl (fun qa hqa => ?_)
          rw [List.nil_append, Nat.zero_add] at hqa ⊢
          refine Pw.held sf ?_
          refine Pw.one 9 (nb 16 17407) rfl (by kernel_rfl) ?_
          refine Pw.lit1 rfl rfl rfl rfl rfl rfl rfl rfl rfl (fun gp => freeHead ?_)
          refine Pw.held sf ?_
          refine Pw.takeBuild 10 (nb 16 18431) rfl rfl rfl rfl rfl (by kernel_rfl) np sf ?_
          refine Pw.one 11 (nb 16 20479) rfl (by kernel_rfl) ?_
          refine Pw.lit13 rfl rfl rfl rfl rfl rfl rfl rfl rfl (fun gv1 => freeHead ?_)
          refine Pw.held sf ?_
          refine Pw.one 12 (nb 16 24575) rfl (by kernel_rfl) ?_
          refine Pw.push (s := qa) (m := s.vs.length) (cells := cellsV s.vs) (news := encV (idV stake pick (some ⟨gp, 0, none⟩, 1))) rfl rfl rfl rfl rfl rfl rfl hqa rfl (encV_one _) (fun w hs j u hu => by
            have h1 : w.heap[gv1]? = some (row (encV (idV stake pick (some ⟨gp, 0, none⟩, 1))) 44) := by
              have h := hs.all
              exact (by first | exact fact0 (h) | exact fact0 (allTail (h)) | exact fact0 (allTail (allTail (h))) | exact fact0 (allTail (allTail (allTail (h)))) | exact fact0 (allTail (allTail (allTail (allTail (h))))) | exact fact0 (allTail (allTail (allTail (allTail (allTail (h)))))) | exact fact0 (allTail (allTail (allTail (allTail (allTail (allTail (h))))))) | exact fact0 (allTail (allTail (allTail (allTail (allTail (allTail (allTail (h)))))))) | exact fact0 (allTail (allTail (allTail (allTail (allTail (allTail (allTail (allTail (h))))))))) | exact fact0 (allTail (allTail (allTail (allTail (allTail (allTail (allTail (allTail (allTail (h)))))))))))
            rw [add_none, cell_of_blk h1]
            simpa using hu) (by omega) (by simp only [maxLen]; omega) (by show (s.vs.length + 1) * 40 ≤ _; omega) rfl rfl (fun qb hqb => ?_)
          rw [← cellsV_snoc] at hqb ⊢
          refine Pw.freeG hqb (fun A' c' e hc => ?_)
          refine Pw.re (d := 37) (v' := .slice A' (s.vs ++ [idV stake pick (some ⟨gp, 0, none⟩, 1)]).length c') rfl (by rw [e, List.length_append]; rfl) ?_
          refine Pw.more (φ := VS (s.vs ++ [idV stake pick (some ⟨gp, 0, none⟩, 1)]) (A', c')) (fun w h => rows_of_cells (fun _ _ => rfl) (fun y hy => by
            rcases List.mem_append.1 hy with hy | hy
            · obtain ⟨j, hj⟩ := List.getElem?_of_mem hy
              have h1 : VS s.vs s.zv w := (hv w h)
              obtain ⟨ad, cs, e1, _, ⟨_, h2⟩, _⟩ := h1.2.2 j y hj
              exact h2
            · rw [List.mem_singleton.1 hy]
              exact ints_of_row' (l := [pick]) (by first | exact fact0 (h) | exact fact0 (allTail (h)) | exact fact0 (allTail (allTail (h))) | exact fact0 (allTail (allTail (allTail (h)))) | exact fact0 (allTail (allTail (allTail (allTail (h))))) | exact fact0 (allTail (allTail (allTail (allTail (allTail (h)))))) | exact fact0 (allTail (allTail (allTail (allTail (allTail (allTail (h))))))) | exact fact0 (allTail (allTail (allTail (allTail (allTail (allTail (allTail (h)))))))) | exact fact0 (allTail (allTail (allTail (allTail (allTail (allTail (allTail (allTail (h))))))))) | exact fact0 (allTail (allTail (allTail (allTail (allTail (allTail (allTail (allTail (allTail (h))))))))))) (by simp) (by simp [maxLen])) (by rw [List.length_append]; exact hc) (by rw [List.length_append, List.length_singleton]; simp only [maxLen]; omega) (by omega) (fact0 h)) ?_
          refine Pw.held sf ?_
          refine Pw.takeBuild 13 (nb 16 32767) rfl rfl rfl rfl rfl (by kernel_rfl) np sf ?_
          refine Pw.one 15 (nb 16 65535) rfl (by kernel_rfl) ?_
          refine Pw.sto rfl rfl inferInstance rfl rfl rfl rfl rfl inferInstance rfl ?_
          refine Pw.held sf ?_
          refine Pw.done (by kernel_rfl) ?_
          exact Pw.then_ (Pw.arrive ((A', c'), (some ⟨gp, 0, none⟩, 1), g9) trivial ⟨rfl, rfl, rfl, rfl, rfl, trivial⟩ rfl (fun w h => allCons (hv w h) (allCons (hv w h) (allCons (by first | exact fact0 (h) | exact fact0 (allTail (h)) | exact fact0 (allTail (allTail (h))) | exact fact0 (allTail (allTail (allTail (h)))) | exact fact0 (allTail (allTail (allTail (allTail (h))))) | exact fact0 (allTail (allTail (allTail (allTail (allTail (h)))))) | exact fact0 (allTail (allTail (allTail (allTail (allTail (allTail (h))))))) | exact fact0 (allTail (allTail (allTail (allTail (allTail (allTail (allTail (h)))))))) | exact fact0 (allTail (allTail (allTail (allTail (allTail (allTail (allTail (allTail (h))))))))) | exact fact0 (allTail (allTail (allTail (allTail (allTail (allTail (allTail (allTail (allTail (h))))))))))) allNil))))
        · skip
          refine Pw.lit1 rfl rfl rfl rfl rfl rfl rfl rfl rfl (fun gp => freeHead ?_)
          refine Pw.held sf ?_
          refine Pw.takeBuild 10 (nb 16 18399) rfl rfl rfl rfl rfl (by kernel_rfl) np sf ?_
          refine Pw.two 5 11 (nb 16 18431) (nb 16 20447) rfl rfl (by kernel_rfl) ?_ ?_
          · skip
            refine Pw.pushG (s := some (ga, 0, [])) (m := 0) (cells := []) (news := cellsV s.vs) rfl rfl rfl rfl rfl rfl rfl ⟨rfl, Nat.le_refl _, rfl⟩ (cellsV_len s.vs) (cellsV_one s.vs) (fun w hs j u hu => (hv w hs.all : VS s.vs s.zv w).toCellsE (by omega) j u hu) (by show 0 < 3; omega) (by simp only [maxLen]; omega) (by show (0 + s.vs.length) * 40 ≤ _; omega) rfl rfl (fun qa hqa => ?_)
            rw [List.nil_append, Nat.zero_add] at hqa ⊢
            refine Pw.held sf ?_
            refine Pw.one 11 (nb 16 20479) rfl (by kernel_rfl) ?_
            refine Pw.lit13 rfl rfl rfl rfl rfl rfl rfl rfl rfl (fun gv1 => freeHead ?_)
            refine Pw.held sf ?_
            refine Pw.one 12 (nb 16 24575) rfl (by kernel_rfl) ?_
            refine Pw.push (s := qa) (m := s.vs.length) (cells := cellsV s.vs) (news := encV (idV stake pick (some ⟨gp, 0, none⟩, 1))) rfl rfl rfl rfl rfl rfl rfl hqa rfl (encV_one _) (fun w hs j u hu => by
              have h1 : w.heap[gv1]? = some (row (encV (idV stake pick (some ⟨gp, 0, none⟩, 1))) 44) := by
                have h := hs.all
                exact (by first | exact fact0 (h) | exact fact0 (allTail (h)) | exact fact0 (allTail (allTail (h))) | exact fact0 (allTail (allTail (allTail (h)))) | exact fact0 (allTail (allTail (allTail (allTail (h))))) | exact fact0 (allTail (allTail (allTail (allTail (allTail (h)))))) | exact fact0 (allTail (allTail (allTail (allTail (allTail (allTail (h))))))) | exact fact0 (allTail (allTail (allTail (allTail (allTail (allTail (allTail (h)))))))) | exact fact0 (allTail (allTail (allTail (allTail (allTail (allTail (allTail (allTail (h))))))))) | exact fact0 (allTail (allTail (allTail (allTail (allTail (allTail (allTail (allTail (allTail (h)))))))))))
              rw [add_none, cell_of_blk h1]
              simpa using hu) (by omega) (by simp only [maxLen]; omega) (by show (s.vs.length + 1) * 40 ≤ _; omega) rfl rfl (fun qb hqb => ?_)
            rw [← cellsV_snoc] at hqb ⊢
            refine Pw.freeG hqb (fun A' c' e hc => ?_)
            refine Pw.re (d := 37) (v' := .slice A' (s.vs ++ [idV stake pick (some ⟨gp, 0, none⟩, 1)]).length c') rfl (by rw [e, List.length_append]; rfl) ?_
            refine Pw.more (φ := VS (s.vs ++ [idV stake pick (some ⟨gp, 0, none⟩, 1)]) (A', c')) (fun w h => rows_of_cells (fun _ _ => rfl) (fun y hy => by
              rcases List.mem_append.1 hy with hy | hy
              · obtain ⟨j, hj⟩ := List.getElem?_of_mem hy
                have h1 : VS s.vs s.zv w := (hv w h)
                obtain ⟨ad, cs, e1, _, ⟨_, h2⟩, _⟩ := h1.2.2 j y hj
                exact h2
              · rw [List.mem_singleton.1 hy]
                exact ints_of_row' (l := [pick]) (by first | exact fact0 (h) | exact fact0 (allTail (h)) | exact fact0 (allTail (allTail (h))) | exact fact0 (allTail (allTail (allTail (h)))) | exact fact0 (allTail (allTail (allTail (allTail (h))))) | exact fact0 (allTail (allTail (allTail (allTail (allTail (h)))))) | exact fact0 (allTail (allTail (allTail (allTail (allTail (allTail (h))))))) | exact fact0 (allTail (allTail (allTail (allTail (allTail (allTail (allTail (h)))))))) | exact fact0 (allTail (allTail (allTail (allTail (allTail (allTail (allTail (allTail (h))))))))) | exact fact0 (allTail (allTail (allTail (allTail (allTail (allTail (allTail (allTail (allTail (h))))))))))) (by simp) (by simp [maxLen])) (by rw [List.length_append]; exact hc) (by rw [List.length_append, List.length_singleton]; simp only [maxLen]; omega) (by omega) (fact0 h)) ?_
            refine Pw.held sf ?_
            refine Pw.takeBuild 13 (nb 16 32767) rfl rfl rfl rfl rfl (by kernel_rfl) np sf ?_
            refine Pw.one 15 (nb 16 65535) rfl (by kernel_rfl) ?_
            refine Pw.sto rfl rfl inferInstance rfl rfl rfl rfl rfl inferInstance rfl ?_
            refine Pw.held sf ?_
            refine Pw.done (by kernel_rfl) ?_
            exact Pw.then_ (Pw.arrive ((A', c'), (some ⟨gp, 0, none⟩, 1), g9) trivial ⟨rfl, rfl, rfl, rfl, rfl, trivial⟩ rfl (fun w h => allCons (hv w h) (allCons (hv w h) (allCons (by first | exact fact0 (h) | exact fact0 (allTail (h)) | exact fact0 (allTail (allTail (h))) | exact fact0 (allTail (allTail (allTail (h)))) | exact fact0 (allTail (allTail (allTail (allTail (h))))) | exact fact0 (allTail (allTail (allTail (allTail (allTail (h)))))) | exact fact0 (allTail (allTail (allTail (allTail (allTail (allTail (h))))))) | exact fact0 (allTail (allTail (allTail (allTail (allTail (allTail (allTail (h)))))))) | exact fact0 (allTail (allTail (allTail (allTail (allTail (allTail (allTail (allTail (h))))))))) | exact fact0 (allTail (allTail (allTail (allTail (allTail (allTail (allTail (allTail (allTail (h))))))))))) allNil))))
          · skip
            refine Pw.lit13 rfl rfl rfl rfl rfl rfl rfl rfl rfl (fun gv1 => freeHead ?_)
            refine Pw.held sf ?_
            refine Pw.one 5 (nb 16 20479) rfl (by kernel_rfl) ?_
            refine Pw.pushG (s := some (ga, 0, [])) (m := 0) (cells := []) (news := cellsV s.vs) rfl rfl rfl rfl rfl rfl rfl ⟨rfl, Nat.le_refl _, rfl⟩ (cellsV_len s.vs) (cellsV_one s.vs) (fun w hs j u hu => (hv w hs.all : VS s.vs s.zv w).toCellsE (by omega) j u hu) (by show 0 < 3; omega) (by simp only [maxLen]; omega) (by show (0 + s.vs.length) * 40 ≤ _; omega) rfl rfl (fun qa hqa => ?_)
            rw [List.nil_append, Nat.zero_add] at hqa ⊢
            refine Pw.held sf ?_
            refine Pw.one 12 (nb 16 24575) rfl (by kernel_rfl) ?_
            refine Pw.push (s := qa) (m := s.vs.length) (cells := cellsV s.vs) (news := encV (idV stake pick (some ⟨gp, 0, none⟩, 1))) rfl rfl rfl rfl rfl rfl rfl hqa rfl (encV_one _) (fun w hs j u hu => by
              have h1 : w.heap[gv1]? = some (row (encV (idV stake pick (some ⟨gp, 0, none⟩, 1))) 44) := by
                have h := hs.all
                exact (by first | exact fact0 (h) | exact fact0 (allTail (h)) | exact fact0 (allTail (allTail (h))) | exact fact0 (allTail (allTail (allTail (h)))) | exact fact0 (allTail (allTail (allTail (allTail (h))))) | exact fact0 (allTail (allTail (allTail (allTail (allTail (h)))))) | exact fact0 (allTail (allTail (allTail (allTail (allTail (allTail (h))))))) | exact fact0 (allTail (allTail (allTail (allTail (allTail (allTail (allTail (h)))))))) | exact fact0 (allTail (allTail (allTail (allTail (allTail (allTail (allTail (allTail (h))))))))) | exact fact0 (allTail (allTail (allTail (allTail (allTail (allTail (allTail (allTail (allTail (h)))))))))))
              rw [add_none, cell_of_blk h1]
              simpa using hu) (by omega) (by simp only [maxLen]; omega) (by show (s.vs.length + 1) * 40 ≤ _; omega) rfl rfl (fun qb hqb => ?_)
            rw [← cellsV_snoc] at hqb ⊢
            refine Pw.freeG hqb (fun A' c' e hc => ?_)
            refine Pw.re (d := 37) (v' := .slice A' (s.vs ++ [idV stake pick (some ⟨gp, 0, none⟩, 1)]).length c') rfl (by rw [e, List.length_append]; rfl) ?_
            refine Pw.more (φ := VS (s.vs ++ [idV stake pick (some ⟨gp, 0, none⟩, 1)]) (A', c')) (fun w h => rows_of_cells (fun _ _ => rfl) (fun y hy => by
              rcases List.mem_append.1 hy with hy | hy
              · obtain ⟨j, hj⟩ := List.getElem?_of_mem hy
                have h1 : VS s.vs s.zv w := (hv w h)
                obtain ⟨ad, cs, e1, _, ⟨_, h2⟩, _⟩ := h1.2.2 j y hj
                exact h2
              · rw [List.mem_singleton.1 hy]
                exact ints_of_row' (l := [pick]) (by first | exact fact0 (h) | exact fact0 (allTail (h)) | exact fact0 (allTail (allTail (h))) | exact fact0 (allTail (allTail (allTail (h)))) | exact fact0 (allTail (allTail (allTail (allTail (h))))) | exact fact0 (allTail (allTail (allTail (allTail (allTail (h)))))) | exact fact0 (allTail (allTail (allTail (allTail (allTail (allTail (h))))))) | exact fact0 (allTail (allTail (allTail (allTail (allTail (allTail (allTail (h)))))))) | exact fact0 (allTail (allTail (allTail (allTail (allTail (allTail (allTail (allTail (h))))))))) | exact fact0 (allTail (allTail (allTail (allTail (allTail (allTail (allTail (allTail (allTail (h))))))))))) (by simp) (by simp [maxLen])) (by rw [List.length_append]; exact hc) (by rw [List.length_append, List.length_singleton]; simp only [maxLen]; omega) (by omega) (fact0 h)) ?_
            refine Pw.held sf ?_
            refine Pw.takeBuild 13 (nb 16 32767) rfl rfl rfl rfl rfl (by kernel_rfl) np sf ?_
            refine Pw.one 15 (nb 16 65535) rfl (by kernel_rfl) ?_
            refine Pw.sto rfl rfl inferInstance rfl rfl rfl rfl rfl inferInstance rfl ?_
            refine Pw.held sf ?_
            refine Pw.done (by kernel_rfl) ?_
            exact Pw.then_ (Pw.arrive ((A', c'), (some ⟨gp, 0, none⟩, 1), g9) trivial ⟨rfl, rfl, rfl, rfl, rfl, trivial⟩ rfl (fun w h => allCons (hv w h) (allCons (hv w h) (allCons (by first | exact fact0 (h) | exact fact0 (allTail (h)) | exact fact0 (allTail (allTail (h))) | exact fact0 (allTail (allTail (allTail (h)))) | exact fact0 (allTail (allTail (allTail (allTail (h))))) | exact fact0 (allTail (allTail (allTail (allTail (allTail (h)))))) | exact fact0 (allTail (allTail (allTail (allTail (allTail (allTail (h))))))) | exact fact0 (allTail (allTail (allTail (allTail (allTail (allTail (allTail (h)))))))) | exact fact0 (allTail (allTail (allTail (allTail (allTail (allTail (allTail (allTail (h))))))))) | exact fact0 (allTail (allTail (allTail (allTail (allTail (allTail (allTail (allTail (allTail (h))))))))))) allNil))))
      · skip
        refine Pw.lit1 rfl rfl rfl rfl rfl rfl rfl rfl rfl (fun gp => freeHead ?_)
        refine Pw.held sf ?_
        refine Pw.takeBuild 10 (nb 16 18395) rfl rfl rfl rfl rfl (by kernel_rfl) np sf ?_
        refine Pw.two 2 11 (nb 16 18399) (nb 16 20443) rfl rfl (by kernel_rfl) ?_ ?_
        · skip
          refine Pw.lit0 rfl rfl rfl rfl (fun ga => ?_)
          refine Pw.held sf ?_
          refine Pw.two 5 11 (nb 16 18431) (nb 16 20447) rfl rfl (by kernel_rfl) ?_ ?_
          · skip
            refine Pw.pushG (s := some (ga, 0, [])) (m := 0) (cells := []) (news := cellsV s.vs) rfl rfl rfl rfl rfl rfl rfl ⟨rfl, Nat.le_refl _, rfl⟩ (cellsV_len s.vs) (cellsV_one s.vs) (fun w hs j u hu => (hv w hs.all : VS s.vs s.zv w).toCellsE (by omega) j u hu) (by show 0 < 3; omega) (by simp only [maxLen]; omega) (by show (0 + s.vs.length) * 40 ≤ _; omega) rfl rfl (fun qa hqa => ?_)
            rw [List.nil_append, Nat.zero_add] at hqa ⊢
            refine Pw.held sf ?_
            refine Pw.one 11 (nb 16 20479) rfl (by kernel_rfl) ?_
            refine Pw.lit13 rfl rfl rfl rfl rfl rfl rfl rfl rfl (fun gv1 => freeHead ?_)
            refine Pw.held sf ?_
            refine Pw.one 12 (nb 16 24575) rfl (by kernel_rfl) ?_
            refine Pw.push (s := qa) (m := s.vs.length) (cells := cellsV s.vs) (news := encV (idV stake pick (some ⟨gp, 0, none⟩, 1))) rfl rfl rfl rfl rfl rfl rfl hqa rfl (encV_one _) (fun w hs j u hu => by
              have h1 : w.heap[gv1]? = some (row (encV (idV stake pick (some ⟨gp, 0, none⟩, 1))) 44) := by
                have h := hs.all
                exact (by first | exact fact0 (h) | exact fact0 (allTail (h)) | exact fact0 (allTail (allTail (h))) | exact fact0 (allTail (allTail (allTail (h)))) | exact fact0 (allTail (allTail (allTail (allTail (h))))) | exact fact0 (allTail (allTail (allTail (allTail (allTail (h)))))) | exact fact0 (allTail (allTail (allTail (allTail (allTail (allTail (h))))))) | exact fact0 (allTail (allTail (allTail (allTail (allTail (allTail (allTail (h)))))))) | exact fact0 (allTail (allTail (allTail (allTail (allTail (allTail (allTail (allTail (h))))))))) | exact fact0 (allTail (allTail (allTail (allTail (allTail (allTail (allTail (allTail (allTail (h)))))))))))
              rw [add_none, cell_of_blk h1]
              simpa using hu) (by omega) (by simp only [maxLen]; omega) (by show (s.vs.length + 1) * 40 ≤ _; omega) rfl rfl (fun qb hqb => ?_)
            rw [← cellsV_snoc] at hqb ⊢
            refine Pw.freeG hqb (fun A' c' e hc => ?_)
            refine Pw.re (d := 37) (v' := .slice A' (s.vs ++ [idV stake pick (some ⟨gp, 0, none⟩, 1)]).length c') rfl (by rw [e, List.length_append]; rfl) ?_
            refine Pw.more (φ := VS (s.vs ++ [idV stake pick (some ⟨gp, 0, none⟩, 1)]) (A', c')) (fun w h => rows_of_cells (fun _ _ => rfl) (fun y hy => by
              rcases List.mem_append.1 hy with hy | hy
              · obtain ⟨j, hj⟩ := List.getElem?_of_mem hy
                have h1 : VS s.vs s.zv w := (hv w h)
                obtain ⟨ad, cs, e1, _, ⟨_, h2⟩, _⟩ := h1.2.2 j y hj
                exact h2
              · rw [List.mem_singleton.1 hy]
                exact ints_of_row' (l := [pick]) (by first | exact fact0 (h) | exact fact0 (allTail (h)) | exact fact0 (allTail (allTail (h))) | exact fact0 (allTail (allTail (allTail (h)))) | exact fact0 (allTail (allTail (allTail (allTail (h))))) | exact fact0 (allTail (allTail (allTail (allTail (allTail (h)))))) | exact fact0 (allTail (allTail (allTail (allTail (allTail (allTail (h))))))) | exact fact0 (allTail (allTail (allTail (allTail (allTail (allTail (allTail (h)))))))) | exact fact0 (allTail (allTail (allTail (allTail (allTail (allTail (allTail (allTail (h))))))))) | exact fact0 (allTail (allTail (allTail (allTail (allTail (allTail (allTail (allTail (allTail (h))))))))))) (by simp) (by simp [maxLen])) (by rw [List.length_append]; exact hc) (by rw [List.length_append, List.length_singleton]; simp only [maxLen]; omega) (by omega) (fact0 h)) ?_
            refine Pw.held sf ?_
            refine Pw.takeBuild 13 (nb 16 32767) rfl rfl rfl rfl rfl (by kernel_rfl) np sf ?_
            refine Pw.one 15 (nb 16 65535) rfl (by kernel_rfl) ?_
            refine Pw.sto rfl rfl inferInstance rfl rfl rfl rfl rfl inferInstance rfl ?_
            refine Pw.held sf ?_
            refine Pw.done (by kernel_rfl) ?_
            exact Pw.then_ (Pw.arrive ((A', c'), (some ⟨gp, 0, none⟩, 1), g9) trivial ⟨rfl, rfl, rfl, rfl, rfl, trivial⟩ rfl (fun w h => allCons (hv w h) (allCons (hv w h) (allCons (by first | exact fact0 (h) | exact fact0 (allTail (h)) | exact fact0 (allTail (allTail (h))) | exact fact0 (allTail (allTail (allTail (h)))) | exact fact0 (allTail (allTail (allTail (allTail (h))))) | exact fact0 (allTail (allTail (allTail (allTail (allTail (h)))))) | exact fact0 (allTail (allTail (allTail (allTail (allTail (allTail (h))))))) | exact fact0 (allTail (allTail (allTail (allTail (allTail (allTail (allTail (h)))))))) | exact fact0 (allTail (allTail (allTail (allTail (allTail (allTail (allTail (allTail (h))))))))) | exact fact0 (allTail (allTail (allTail (allTail (allTail (allTail (allTail (allTail (allTail (h))))))))))) allNil))))
          · skip
            refine Pw.lit13 rfl rfl rfl rfl rfl rfl rfl rfl rfl (fun gv1 => freeHead ?_)
            refine Pw.held sf ?_
            refine Pw.one 5 (nb 16 20479) rfl (by kernel_rfl) ?_
            refine Pw.pushG (s := some (ga, 0, [])) (m := 0) (cells := []) (news := cellsV s.vs) rfl rfl rfl rfl rfl rfl rfl ⟨rfl, Nat.le_refl _, rfl⟩ (cellsV_len s.vs) (cellsV_one s.vs) (fun w hs j u hu => (hv w hs.all : VS s.vs s.zv w).toCellsE (by omega) j u hu) (by show 0 < 3; omega) (by simp only [maxLen]; omega) (by show (0 + s.vs.length) * 40 ≤ _; omega) rfl rfl (fun qa hqa => ?_)
            rw [List.nil_append, Nat.zero_add] at hqa ⊢
            refine Pw.held sf ?_
            refine Pw.one 12 (nb 16 24575) rfl (by kernel_rfl) ?_
            refine Pw.push (s := qa) (m := s.vs.length) (cells := cellsV s.vs) (news := encV (idV stake pick (some ⟨gp, 0, none⟩, 1))) rfl rfl rfl rfl rfl rfl rfl hqa rfl (encV_one _) (fun w hs j u hu => by
              have h1 : w.heap[gv1]? = some (row (encV (idV stake pick (some ⟨gp, 0, none⟩, 1))) 44) := by
                have h := hs.all
                exact (by first | exact fact0 (h) | exact fact0 (allTail (h)) | exact fact0 (allTail (allTail (h))) | exact fact0 (allTail (allTail (allTail (h)))) | exact fact0 (allTail (allTail (allTail (allTail (h))))) | exact fact0 (allTail (allTail (allTail (allTail (allTail (h)))))) | exact fact0 (allTail (allTail (allTail (allTail (allTail (allTail (h))))))) | exact fact0 (allTail (allTail (allTail (allTail (allTail (allTail (allTail (h)))))))) | exact fact0 (allTail (allTail (allTail (allTail (allTail (allTail (allTail (allTail (h))))))))) | exact fact0 (allTail (allTail (allTail (allTail (allTail (allTail (allTail (allTail (allTail (h)))))))))))
              rw [add_none, cell_of_blk h1]
              simpa using hu) (by omega) (by simp only [maxLen]; omega) (by show (s.vs.length + 1) * 40 ≤ _; omega) rfl rfl (fun qb hqb => ?_)
            rw [← cellsV_snoc] at hqb ⊢
            refine Pw.freeG hqb (fun A' c' e hc => ?_)
            refine Pw.re (d := 37) (v' := .slice A' (s.vs ++ [idV stake pick (some ⟨gp, 0, none⟩, 1)]).length c') rfl (by rw [e, List.length_append]; rfl) ?_
            refine Pw.more (φ := VS (s.vs ++ [idV stake pick (some ⟨gp, 0, none⟩, 1)]) (A', c')) (fun w h => rows_of_cells (fun _ _ => rfl) (fun y hy => by
              rcases List.mem_append.1 hy with hy | hy
              · obtain ⟨j, hj⟩ := List.getElem?_of_mem hy
                have h1 : VS s.vs s.zv w := (hv w h)
                obtain ⟨ad, cs, e1, _, ⟨_, h2⟩, _⟩ := h1.2.2 j y hj
                exact h2
              · rw [List.mem_singleton.1 hy]
                exact ints_of_row' (l := [pick]) (by first | exact fact0 (h) | exact fact0 (allTail (h)) | exact fact0 (allTail (allTail (h))) | exact fact0 (allTail (allTail (allTail (h)))) | exact fact0 (allTail (allTail (allTail (allTail (h))))) | exact fact0 (allTail (allTail (allTail (allTail (allTail (h)))))) | exact fact0 (allTail (allTail (allTail (allTail (allTail (allTail (h))))))) | exact fact0 (allTail (allTail (allTail (allTail (allTail (allTail (allTail (h)))))))) | exact fact0 (allTail (allTail (allTail (allTail (allTail (allTail (allTail (allTail (h))))))))) | exact fact0 (allTail (allTail (allTail (allTail (allTail (allTail (allTail (allTail (allTail (h))))))))))) (by simp) (by simp [maxLen])) (by rw [List.length_append]; exact hc) (by rw [List.length_append, List.length_singleton]; simp only [maxLen]; omega) (by omega) (fact0 h)) ?_
            refine Pw.held sf ?_
            refine Pw.takeBuild 13 (nb 16 32767) rfl rfl rfl rfl rfl (by kernel_rfl) np sf ?_
            refine Pw.one 15 (nb 16 65535) rfl (by kernel_rfl) ?_
            refine Pw.sto rfl rfl inferInstance rfl rfl rfl rfl rfl inferInstance rfl ?_
            refine Pw.held sf ?_
            refine Pw.done (by kernel_rfl) ?_
            exact Pw.then_ (Pw.arrive ((A', c'), (some ⟨gp, 0, none⟩, 1), g9) trivial ⟨rfl, rfl, rfl, rfl, rfl, trivial⟩ rfl (fun w h => allCons (hv w h) (allCons (hv w h) (allCons (by first | exact fact0 (h) | exact fact0 (allTail (h)) | exact fact0 (allTail (allTail (h))) | exact fact0 (allTail (allTail (allTail (h)))) | exact fact0 (allTail (allTail (allTail (allTail (h))))) | exact fact0 (allTail (allTail (allTail (allTail (allTail (h)))))) | exact fact0 (allTail (allTail (allTail (allTail (allTail (allTail (h))))))) | exact fact0 (allTail (allTail (allTail (allTail (allTail (allTail (allTail (h)))))))) | exact fact0 (allTail (allTail (allTail (allTail (allTail (allTail (allTail (allTail (h))))))))) | exact fact0 (allTail (allTail (allTail (allTail (allTail (allTail (allTail (allTail (allTail (h))))))))))) allNil))))
        · skip
          refine Pw.lit13 rfl rfl rfl rfl rfl rfl rfl rfl rfl (fun gv1 => freeHead ?_)
          refine Pw.held sf ?_
          refine Pw.one 2 (nb 16 20447) rfl (by kernel_rfl) ?_
          refine Pw.lit0 rfl rfl rfl rfl (fun ga => ?_)
          refine Pw.held sf ?_
          refine Pw.one 5 (nb 16 20479) rfl (by kernel_rfl) ?_
          refine Pw.pushG (s := some (ga, 0, [])) (m := 0) (cells := []) (news := cellsV s.vs) rfl rfl rfl rfl rfl rfl rfl ⟨rfl, Nat.le_refl _, rfl⟩ (cellsV_len s.vs) (cellsV_one s.vs) (fun w hs j u hu => (hv w hs.all : VS s.vs s.zv w).toCellsE (by omega) j u hu) (by show 0 < 3; omega) (by simp only [maxLen]; omega) (by show (0 + s.vs.length) * 40 ≤ _; omega) rfl rfl (fun qa hqa => ?_)
          rw [List.nil_append, Nat.zero_add] at hqa ⊢
          refine Pw.held sf ?_
          refine Pw.one 12 (nb 16 24575) rfl (by kernel_rfl) ?_
          refine Pw.push (s := qa) (m := s.vs.length) (cells := cellsV s.vs) (news := encV (idV stake pick (some ⟨gp, 0, none⟩, 1))) rfl rfl rfl rfl rfl rfl rfl hqa rfl (encV_one _) (fun w hs j u hu => by
            have h1 : w.heap[gv1]? = some (row (encV (idV stake pick (some ⟨gp, 0, none⟩, 1))) 44) := by
              have h := hs.all
              exact (by first | exact fact0 (h) | exact fact0 (allTail (h)) | exact fact0 (allTail (allTail (h))) | exact fact0 (allTail (allTail (allTail (h)))) | exact fact0 (allTail (allTail (allTail (allTail (h))))) | exact fact0 (allTail (allTail (allTail (allTail (allTail (h)))))) | exact fact0 (allTail (allTail (allTail (allTail (allTail (allTail (h))))))) | exact fact0 (allTail (allTail (allTail (allTail (allTail (allTail (allTail (h)))))))) | exact fact0 (allTail (allTail (allTail (allTail (allTail (allTail (allTail (allTail (h))))))))) | exact fact0 (allTail (allTail (allTail (allTail (allTail (allTail (allTail (allTail (allTail (h)))))))))))
            rw [add_none, cell_of_blk h1]
            simpa using hu) (by omega) (by simp only [maxLen]; omega) (by show (s.vs.length + 1) * 40 ≤ _; omega) rfl rfl (fun qb hqb => ?_)
          rw [← cellsV_snoc] at hqb ⊢
          refine Pw.freeG hqb (fun A' c' e hc => ?_)
          refine Pw.re (d := 37) (v' := .slice A' (s.vs ++ [idV stake pick (some ⟨gp, 0, none⟩, 1)]).length c') rfl (by rw [e, List.length_append]; rfl) ?_
          refine Pw.more (φ := VS (s.vs ++ [idV stake pick (some ⟨gp, 0, none⟩, 1)]) (A', c')) (fun w h => rows_of_cells (fun _ _ => rfl) (fun y hy => by
            rcases List.mem_append.1 hy with hy | hy
            · obtain ⟨j, hj⟩ := List.getElem?_of_mem hy
              have h1 : VS s.vs s.zv w := (hv w h)
              obtain ⟨ad, cs, e1, _, ⟨_, h2⟩, _⟩ := h1.2.2 j y hj
              exact h2
            · rw [List.mem_singleton.1 hy]
              exact ints_of_row' (l := [pick]) (by first | exact fact0 (h) | exact fact0 (allTail (h)) | exact fact0 (allTail (allTail (h))) | exact fact0 (allTail (allTail (allTail (h)))) | exact fact0 (allTail (allTail (allTail (allTail (h))))) | exact fact0 (allTail (allTail (allTail (allTail (allTail (h)))))) | exact fact0 (allTail (allTail (allTail (allTail (allTail (allTail (h))))))) | exact fact0 (allTail (allTail (allTail (allTail (allTail (allTail (allTail (h)))))))) | exact fact0 (allTail (allTail (allTail (allTail (allTail (allTail (allTail (allTail (h))))))))) | exact fact0 (allTail (allTail (allTail (allTail (allTail (allTail (allTail (allTail (allTail (h))))))))))) (by simp) (by simp [maxLen])) (by rw [List.length_append]; exact hc) (by rw [List.length_append, List.length_singleton]; simp only [maxLen]; omega) (by omega) (fact0 h)) ?_
          refine Pw.held sf ?_
          refine Pw.takeBuild 13 (nb 16 32767) rfl rfl rfl rfl rfl (by kernel_rfl) np sf ?_
          refine Pw.one 15 (nb 16 65535) rfl (by kernel_rfl) ?_
          refine Pw.sto rfl rfl inferInstance rfl rfl rfl rfl rfl inferInstance rfl ?_
          refine Pw.held sf ?_
          refine Pw.done (by kernel_rfl) ?_
          exact Pw.then_ (Pw.arrive ((A', c'), (some ⟨gp, 0, none⟩, 1), g9) trivial ⟨rfl, rfl, rfl, rfl, rfl, trivial⟩ rfl (fun w h => allCons (hv w h) (allCons (hv w h) (allCons (by first | exact fact0 (h) | exact fact0 (allTail (h)) | exact fact0 (allTail (allTail (h))) | exact fact0 (allTail (allTail (allTail (h)))) | exact fact0 (allTail (allTail (allTail (allTail (h))))) | exact fact0 (allTail (allTail (allTail (allTail (allTail (h)))))) | exact fact0 (allTail (allTail (allTail (allTail (allTail (allTail (h))))))) | exact fact0 (allTail (allTail (allTail (allTail (allTail (allTail (allTail (h)))))))) | exact fact0 (allTail (allTail (allTail (allTail (allTail (allTail (allTail (allTail (h))))))))) | exact fact0 (allTail (allTail (allTail (allTail (allTail (allTail (allTail (allTail (allTail (h))))))))))) allNil))))
  rintro ⟨zt, zp, g9⟩ _
  dsimp only
  refine freeHead ?_
  have hWt : snW ⟨s.vs ++ [idV stake pick zp], zt, s.cs, s.zc⟩ := fun v hv => by
    rcases List.mem_append.1 hv with hv | hv
    · exact hW v hv
    · rw [List.mem_singleton.1 hv]; exact ⟨hst.1, by show stake ≤ _; omega⟩
  repeat (first | (with_reducible first | refine Pw.seq ?_ | refine Pw.region ?_ | refine Pw.nil ?_ | refine Pw.then_ ?_ | refine Pw.skip ?_ | refine Pw.block ?_ | refine Pw.exit ?_ | refine Pw.inX ?_ | refine Pw.inN ?_ | refine Pw.inR ?_ | refine Pw.thenX ?_ | refine Pw.thenR ?_ | refine Pw.ret ?_) | refine Pw.list (Pw.pure rfl rfl rfl ?_) | refine Pw.inY rfl ?_ | refine Pw.list (Pw.off rfl rfl ?_) | refine Pw.condT rfl ?_ | refine Pw.condF rfl ?_ | refine Pw.list (Pw.box rfl rfl rfl rfl (fun _ => ?_)) | refine Pw.list (Pw.alloc rfl rfl rfl rfl rfl (fun _ => ?_)) | refine Pw.list (Pw.build rfl rfl rfl rfl ?_) | refine Pw.list (Pw.ld rfl inferInstance rfl rfl rfl ?_) | refine Pw.list (Pw.sto rfl rfl inferInstance rfl rfl rfl rfl rfl inferInstance rfl ?_))
  refine Pw.list (Pw.call (dFormed_ct ⟨s.vs ++ [idV stake pick zp], zt, s.cs, s.zc⟩ hWt) rfl rfl rfl (by kernel_rfl) rfl rfl (fun w h => ⟨(hv w h), (hv w h : snF s w).2⟩) ?_)
  intro _ _
  cases hF : formB ⟨s.vs ++ [idV stake pick zp], zt, s.cs, s.zc⟩
  · repeat (first | (with_reducible first | refine Pw.seq ?_ | refine Pw.region ?_ | refine Pw.nil ?_ | refine Pw.then_ ?_ | refine Pw.skip ?_ | refine Pw.block ?_ | refine Pw.exit ?_ | refine Pw.inX ?_ | refine Pw.inN ?_ | refine Pw.inR ?_ | refine Pw.thenX ?_ | refine Pw.thenR ?_ | refine Pw.ret ?_) | refine Pw.list (Pw.pure rfl rfl rfl ?_) | refine Pw.inY rfl ?_ | refine Pw.list (Pw.off rfl rfl ?_) | refine Pw.condT rfl ?_ | refine Pw.condF rfl ?_ | refine Pw.list (Pw.box rfl rfl rfl rfl (fun _ => ?_)) | refine Pw.list (Pw.alloc rfl rfl rfl rfl rfl (fun _ => ?_)) | refine Pw.list (Pw.build rfl rfl rfl rfl ?_) | refine Pw.list (Pw.ld rfl inferInstance rfl rfl rfl ?_) | refine Pw.list (Pw.sto rfl rfl inferInstance rfl rfl rfl rfl rfl inferInstance rfl ?_))
    exact Pw.ret_ (x := ()) (.tmp rfl .nil) rfl trivial (fun w h => by trivial)
  repeat (first | (with_reducible first | refine Pw.seq ?_ | refine Pw.region ?_ | refine Pw.nil ?_ | refine Pw.then_ ?_ | refine Pw.skip ?_ | refine Pw.block ?_ | refine Pw.exit ?_ | refine Pw.inX ?_ | refine Pw.inN ?_ | refine Pw.inR ?_ | refine Pw.thenX ?_ | refine Pw.thenR ?_ | refine Pw.ret ?_) | refine Pw.list (Pw.pure rfl rfl rfl ?_) | refine Pw.inY rfl ?_ | refine Pw.list (Pw.off rfl rfl ?_) | refine Pw.condT rfl ?_ | refine Pw.condF rfl ?_ | refine Pw.list (Pw.box rfl rfl rfl rfl (fun _ => ?_)) | refine Pw.list (Pw.alloc rfl rfl rfl rfl rfl (fun _ => ?_)) | refine Pw.list (Pw.build rfl rfl rfl rfl ?_) | refine Pw.list (Pw.ld rfl inferInstance rfl rfl rfl ?_) | refine Pw.list (Pw.sto rfl rfl inferInstance rfl rfl rfl rfl rfl inferInstance rfl ?_))
  refine Pw.split 45 rfl (fun c1 => ?_) (fun c1 => ?_)
  · repeat (first | (with_reducible first | refine Pw.seq ?_ | refine Pw.region ?_ | refine Pw.nil ?_ | refine Pw.then_ ?_ | refine Pw.skip ?_ | refine Pw.block ?_ | refine Pw.exit ?_ | refine Pw.inX ?_ | refine Pw.inN ?_ | refine Pw.inR ?_ | refine Pw.thenX ?_ | refine Pw.thenR ?_ | refine Pw.ret ?_) | refine Pw.list (Pw.pure rfl rfl rfl ?_) | refine Pw.inY rfl ?_ | refine Pw.list (Pw.off rfl rfl ?_) | refine Pw.condT rfl ?_ | refine Pw.condF rfl ?_ | refine Pw.list (Pw.box rfl rfl rfl rfl (fun _ => ?_)) | refine Pw.list (Pw.alloc rfl rfl rfl rfl rfl (fun _ => ?_)) | refine Pw.list (Pw.build rfl rfl rfl rfl ?_) | refine Pw.list (Pw.ld rfl inferInstance rfl rfl rfl ?_) | refine Pw.list (Pw.sto rfl rfl inferInstance rfl rfl rfl rfl rfl inferInstance rfl ?_))
    refine Pw.list (Pw.call (Has_ct s.cs s.zc pick) rfl rfl rfl (by kernel_rfl) rfl rfl (fun w h => (hv w h : snF s w).2) ?_)
    intro _ _
    by_cases c2 : pick ∈ s.cs
    · rw [decide_eq_true c2]
      repeat (first | (with_reducible first | refine Pw.seq ?_ | refine Pw.region ?_ | refine Pw.nil ?_ | refine Pw.then_ ?_ | refine Pw.skip ?_ | refine Pw.block ?_ | refine Pw.exit ?_ | refine Pw.inX ?_ | refine Pw.inN ?_ | refine Pw.inR ?_ | refine Pw.thenX ?_ | refine Pw.thenR ?_ | refine Pw.ret ?_) | refine Pw.list (Pw.pure rfl rfl rfl ?_) | refine Pw.inY rfl ?_ | refine Pw.list (Pw.off rfl rfl ?_) | refine Pw.condT rfl ?_ | refine Pw.condF rfl ?_ | refine Pw.list (Pw.box rfl rfl rfl rfl (fun _ => ?_)) | refine Pw.list (Pw.alloc rfl rfl rfl rfl rfl (fun _ => ?_)) | refine Pw.list (Pw.build rfl rfl rfl rfl ?_) | refine Pw.list (Pw.ld rfl inferInstance rfl rfl rfl ?_) | refine Pw.list (Pw.sto rfl rfl inferInstance rfl rfl rfl rfl rfl inferInstance rfl ?_))
      exact Pw.ret_ (x := ()) (.tmp rfl .nil) rfl trivial (fun w h => by trivial)
    rw [decide_eq_false c2]
    have hid : ∀ c ∈ s.cs, (idV stake pick zp).st ≤ 0 ∨ c ∉ (idV stake pick zp).pk := fun c hc => .inr (fun h => c2 (by rw [← List.mem_singleton.1 h]; exact hc))
    have hFs : formB s = true := formB_init (zv := s.zv) hF
    have hVs := vok_of hW hFs
    obtain ⟨l1, l2, l3, l4⟩ := formB_all hFs
    obtain ⟨m1, m2, _, _⟩ := formB_all hF
    have k0 : 0 ≤ k.tmod 9 := Int.tmod_nonneg 9 hk.1
    have k8 : k.tmod 9 ≤ 8 := by have := Int.tmod_lt_of_pos k (show (0 : Int) < 9 by omega); omega
    have hee := elect_ext (v := idV stake pick zp) hVs hid (k.tmod 9).toNat
    have heo := elect_ok hVs s.cs (k.tmod 9).toNat
    repeat (first | (with_reducible first | refine Pw.seq ?_ | refine Pw.region ?_ | refine Pw.nil ?_ | refine Pw.then_ ?_ | refine Pw.skip ?_ | refine Pw.block ?_ | refine Pw.exit ?_ | refine Pw.inX ?_ | refine Pw.inN ?_ | refine Pw.inR ?_ | refine Pw.thenX ?_ | refine Pw.thenR ?_ | refine Pw.ret ?_) | refine Pw.list (Pw.pure rfl rfl rfl ?_) | refine Pw.inY rfl ?_ | refine Pw.list (Pw.off rfl rfl ?_) | refine Pw.condT rfl ?_ | refine Pw.condF rfl ?_ | refine Pw.list (Pw.box rfl rfl rfl rfl (fun _ => ?_)) | refine Pw.list (Pw.alloc rfl rfl rfl rfl rfl (fun _ => ?_)) | refine Pw.list (Pw.build rfl rfl rfl rfl ?_) | refine Pw.list (Pw.ld rfl inferInstance rfl rfl rfl ?_) | refine Pw.list (Pw.sto rfl rfl inferInstance rfl rfl rfl rfl rfl inferInstance rfl ?_))
    refine Pw.re (d := 56) (v' := .int .i64 (k.tmod 9)) rfl (congrArg (Value.int .i64) (wi64 (by omega) (by omega))) ?_
    repeat (first | (with_reducible first | refine Pw.seq ?_ | refine Pw.region ?_ | refine Pw.nil ?_ | refine Pw.then_ ?_ | refine Pw.skip ?_ | refine Pw.block ?_ | refine Pw.exit ?_ | refine Pw.inX ?_ | refine Pw.inN ?_ | refine Pw.inR ?_ | refine Pw.thenX ?_ | refine Pw.thenR ?_ | refine Pw.ret ?_) | refine Pw.list (Pw.pure rfl rfl rfl ?_) | refine Pw.inY rfl ?_ | refine Pw.list (Pw.off rfl rfl ?_) | refine Pw.condT rfl ?_ | refine Pw.condF rfl ?_ | refine Pw.list (Pw.box rfl rfl rfl rfl (fun _ => ?_)) | refine Pw.list (Pw.alloc rfl rfl rfl rfl rfl (fun _ => ?_)) | refine Pw.list (Pw.build rfl rfl rfl rfl ?_) | refine Pw.list (Pw.ld rfl inferInstance rfl rfl rfl ?_) | refine Pw.list (Pw.sto rfl rfl inferInstance rfl rfl rfl rfl rfl inferInstance rfl ?_))
    refine Pw.list (Pw.call (ElectF_ct s (k.tmod 9) hW hFs k0 k8) rfl rfl rfl (by kernel_rfl) rfl rfl (fun w h => (hv w h)) ?_)
    intro y1 hy1
    repeat (first | (with_reducible first | refine Pw.seq ?_ | refine Pw.region ?_ | refine Pw.nil ?_ | refine Pw.then_ ?_ | refine Pw.skip ?_ | refine Pw.block ?_ | refine Pw.exit ?_ | refine Pw.inX ?_ | refine Pw.inN ?_ | refine Pw.inR ?_ | refine Pw.thenX ?_ | refine Pw.thenR ?_ | refine Pw.ret ?_) | refine Pw.list (Pw.pure rfl rfl rfl ?_) | refine Pw.inY rfl ?_ | refine Pw.list (Pw.off rfl rfl ?_) | refine Pw.condT rfl ?_ | refine Pw.condF rfl ?_ | refine Pw.list (Pw.box rfl rfl rfl rfl (fun _ => ?_)) | refine Pw.list (Pw.alloc rfl rfl rfl rfl rfl (fun _ => ?_)) | refine Pw.list (Pw.build rfl rfl rfl rfl ?_) | refine Pw.list (Pw.ld rfl inferInstance rfl rfl rfl ?_) | refine Pw.list (Pw.sto rfl rfl inferInstance rfl rfl rfl rfl rfl inferInstance rfl ?_))
    refine Pw.re (d := 65) (v' := .int .i64 (k.tmod 9)) rfl (congrArg (Value.int .i64) (wi64 (by omega) (by omega))) ?_
    repeat (first | (with_reducible first | refine Pw.seq ?_ | refine Pw.region ?_ | refine Pw.nil ?_ | refine Pw.then_ ?_ | refine Pw.skip ?_ | refine Pw.block ?_ | refine Pw.exit ?_ | refine Pw.inX ?_ | refine Pw.inN ?_ | refine Pw.inR ?_ | refine Pw.thenX ?_ | refine Pw.thenR ?_ | refine Pw.ret ?_) | refine Pw.list (Pw.pure rfl rfl rfl ?_) | refine Pw.inY rfl ?_ | refine Pw.list (Pw.off rfl rfl ?_) | refine Pw.condT rfl ?_ | refine Pw.condF rfl ?_ | refine Pw.list (Pw.box rfl rfl rfl rfl (fun _ => ?_)) | refine Pw.list (Pw.alloc rfl rfl rfl rfl rfl (fun _ => ?_)) | refine Pw.list (Pw.build rfl rfl rfl rfl ?_) | refine Pw.list (Pw.ld rfl inferInstance rfl rfl rfl ?_) | refine Pw.list (Pw.sto rfl rfl inferInstance rfl rfl rfl rfl rfl inferInstance rfl ?_))
    refine Pw.list (Pw.call (ElectF_ct ⟨s.vs ++ [idV stake pick zp], zt, s.cs, s.zc⟩ (k.tmod 9) hWt hF k0 k8) rfl rfl rfl (by kernel_rfl) rfl rfl (fun w h => ⟨(hv w h), (hv w h : snF s w).2⟩) ?_)
    intro y2 hy2
    have hl1 := os_len hy1 k8
    have hn1 := sh_len hy1 l1 l2
    have hn2 := sh_len hy2 m1 m2
    have hos : y1.os.map (fun o => (o.at_, o.a, o.b)) = y2.os.map (fun o => (o.at_, o.a, o.b)) := by
      rw [hy1.1, hy2.1]
      show _ = List.map seatQ (electE (s.vs ++ [idV stake pick zp]) s.cs (k.tmod 9).toNat).se
      rw [hee]; rfl
    have hsh : y1.sh.map shK = y2.sh.map shK := by
      rw [hy1.2, hy2.2]
      show _ = shTo (s.vs ++ [idV stake pick zp]) s.cs (electE (s.vs ++ [idV stake pick zp]) s.cs (k.tmod 9).toNat) (s.vs ++ [idV stake pick zp]).length
      rw [hee, List.length_append, List.length_singleton, shTo_ext heo.el]
    have hol : y2.os.length = y1.os.length := by have := congrArg List.length hos; rw [List.length_map, List.length_map] at this; exact this.symm
    have hfm := sh_fm hVs heo (by omega) hy1.2
    obtain ⟨os1, ⟨A1, p1⟩, sh1, zs1⟩ := y1
    obtain ⟨os2, ⟨A2, p2⟩, sh2, zs2⟩ := y2
    dsimp only at hl1 hn1 hn2 hos hsh hol hfm hy1 hy2 ⊢
    repeat (first | (with_reducible first | refine Pw.seq ?_ | refine Pw.region ?_ | refine Pw.nil ?_ | refine Pw.then_ ?_ | refine Pw.skip ?_ | refine Pw.block ?_ | refine Pw.exit ?_ | refine Pw.inX ?_ | refine Pw.inN ?_ | refine Pw.inR ?_ | refine Pw.thenX ?_ | refine Pw.thenR ?_ | refine Pw.ret ?_) | refine Pw.list (Pw.pure rfl rfl rfl ?_) | refine Pw.inY rfl ?_ | refine Pw.list (Pw.off rfl rfl ?_) | refine Pw.condT rfl ?_ | refine Pw.condF rfl ?_ | refine Pw.list (Pw.box rfl rfl rfl rfl (fun _ => ?_)) | refine Pw.list (Pw.alloc rfl rfl rfl rfl rfl (fun _ => ?_)) | refine Pw.list (Pw.build rfl rfl rfl rfl ?_) | refine Pw.list (Pw.ld rfl inferInstance rfl rfl rfl ?_) | refine Pw.list (Pw.sto rfl rfl inferInstance rfl rfl rfl rfl rfl inferInstance rfl ?_))
    refine Pw.re (d := 80) (v' := .bool false) rfl (congrArg Value.bool (decide_eq_false (by omega))) ?_
    repeat (first | (with_reducible first | refine Pw.seq ?_ | refine Pw.region ?_ | refine Pw.nil ?_ | refine Pw.then_ ?_ | refine Pw.skip ?_ | refine Pw.block ?_ | refine Pw.exit ?_ | refine Pw.inX ?_ | refine Pw.inN ?_ | refine Pw.inR ?_ | refine Pw.thenX ?_ | refine Pw.thenR ?_ | refine Pw.ret ?_) | refine Pw.list (Pw.pure rfl rfl rfl ?_) | refine Pw.inY rfl ?_ | refine Pw.list (Pw.off rfl rfl ?_) | refine Pw.condT rfl ?_ | refine Pw.condF rfl ?_ | refine Pw.list (Pw.box rfl rfl rfl rfl (fun _ => ?_)) | refine Pw.list (Pw.alloc rfl rfl rfl rfl rfl (fun _ => ?_)) | refine Pw.list (Pw.build rfl rfl rfl rfl ?_) | refine Pw.list (Pw.ld rfl inferInstance rfl rfl rfl ?_) | refine Pw.list (Pw.sto rfl rfl inferInstance rfl rfl rfl rfl rfl inferInstance rfl ?_))
    refine Pw.list (Pw.call (sShares_ct sh2 zs2 (by omega)) rfl rfl rfl (by kernel_rfl) rfl rfl (fun w h => (hv (φ := fun W => OS os2 (A2, p2) W ∧ SS sh2 zs2 W) w h).2) ?_)
    intro z3 _
    repeat (first | (with_reducible first | refine Pw.seq ?_ | refine Pw.region ?_ | refine Pw.nil ?_ | refine Pw.then_ ?_ | refine Pw.skip ?_ | refine Pw.block ?_ | refine Pw.exit ?_ | refine Pw.inX ?_ | refine Pw.inN ?_ | refine Pw.inR ?_ | refine Pw.thenX ?_ | refine Pw.thenR ?_ | refine Pw.ret ?_) | refine Pw.list (Pw.pure rfl rfl rfl ?_) | refine Pw.inY rfl ?_ | refine Pw.list (Pw.off rfl rfl ?_) | refine Pw.condT rfl ?_ | refine Pw.condF rfl ?_ | refine Pw.list (Pw.box rfl rfl rfl rfl (fun _ => ?_)) | refine Pw.list (Pw.alloc rfl rfl rfl rfl rfl (fun _ => ?_)) | refine Pw.list (Pw.build rfl rfl rfl rfl ?_) | refine Pw.list (Pw.ld rfl inferInstance rfl rfl rfl ?_) | refine Pw.list (Pw.sto rfl rfl inferInstance rfl rfl rfl rfl rfl inferInstance rfl ?_))
    refine Pw.list (Pw.call (sSame_ct sh1 sh2 zs1 z3 (by omega) hsh hfm) rfl rfl rfl (by kernel_rfl) rfl rfl (fun w h => ⟨(hv (φ := fun W => OS os1 (A1, p1) W ∧ SS sh1 zs1 W) w h).2, (hv w h)⟩) ?_)
    intro _ _
    repeat (first | (with_reducible first | refine Pw.seq ?_ | refine Pw.region ?_ | refine Pw.nil ?_ | refine Pw.then_ ?_ | refine Pw.skip ?_ | refine Pw.block ?_ | refine Pw.exit ?_ | refine Pw.inX ?_ | refine Pw.inN ?_ | refine Pw.inR ?_ | refine Pw.thenX ?_ | refine Pw.thenR ?_ | refine Pw.ret ?_) | refine Pw.list (Pw.pure rfl rfl rfl ?_) | refine Pw.inY rfl ?_ | refine Pw.list (Pw.off rfl rfl ?_) | refine Pw.condT rfl ?_ | refine Pw.condF rfl ?_ | refine Pw.list (Pw.box rfl rfl rfl rfl (fun _ => ?_)) | refine Pw.list (Pw.alloc rfl rfl rfl rfl rfl (fun _ => ?_)) | refine Pw.list (Pw.build rfl rfl rfl rfl ?_) | refine Pw.list (Pw.ld rfl inferInstance rfl rfl rfl ?_) | refine Pw.list (Pw.sto rfl rfl inferInstance rfl rfl rfl rfl rfl inferInstance rfl ?_))
    refine Pw.loopJ (σ := Nat) (fun i => i ≤ os1.length) (fun i => ⟨[(10, .slice A1 os1.length p1), (13, .slice A2 os2.length p2), (88, .int .i64 os1.length), (89, .int .i64 i)], [], [OS os1 (A1, p1), OS os2 (A2, p2)]⟩) (fun i => os1.length - i) 0 (Nat.zero_le _) (Pw.enter ⟨rfl, rfl, rfl, rfl, trivial⟩ (fun w h => allCons (hv (φ := fun W => OS os1 (A1, p1) W ∧ SS sh1 zs1 W) w h).1 (allCons (hv (φ := fun W => OS os2 (A2, p2) W ∧ SS sh2 zs2 W) w h).1 allNil))) ?_
    rintro i hi
    dsimp only at hi ⊢
    repeat (first | (with_reducible first | refine Pw.seq ?_ | refine Pw.region ?_ | refine Pw.nil ?_ | refine Pw.then_ ?_ | refine Pw.skip ?_ | refine Pw.block ?_ | refine Pw.exit ?_ | refine Pw.inX ?_ | refine Pw.inN ?_ | refine Pw.inR ?_ | refine Pw.thenX ?_ | refine Pw.thenR ?_ | refine Pw.ret ?_) | refine Pw.list (Pw.pure rfl rfl rfl ?_) | refine Pw.inY rfl ?_ | refine Pw.list (Pw.off rfl rfl ?_) | refine Pw.condT rfl ?_ | refine Pw.condF rfl ?_ | refine Pw.list (Pw.box rfl rfl rfl rfl (fun _ => ?_)) | refine Pw.list (Pw.alloc rfl rfl rfl rfl rfl (fun _ => ?_)) | refine Pw.list (Pw.build rfl rfl rfl rfl ?_) | refine Pw.list (Pw.ld rfl inferInstance rfl rfl rfl ?_) | refine Pw.list (Pw.sto rfl rfl inferInstance rfl rfl rfl rfl rfl inferInstance rfl ?_))
    refine Pw.condD rfl (fun c3 => ?_) (fun c3 => ?_)
    · obtain ⟨o1, ho1, _⟩ := get_at (show i < os1.length by omega)
      obtain ⟨o2, ho2, _⟩ := get_at (show i < os2.length by omega)
      obtain ⟨y, hy, e1, e2, e3⟩ := seat_at hy1.1 ho1
      have hkk : (o1.at_, o1.a, o1.b) = (o2.at_, o2.a, o2.b) := by
        have h1 : (os1.map (fun o => (o.at_, o.a, o.b)))[i]? = (os2.map (fun o => (o.at_, o.a, o.b)))[i]? := by rw [hos]
        rw [List.getElem?_map, List.getElem?_map, ho1, ho2] at h1
        exact Option.some.inj h1
      obtain ⟨q1, q2, q3, q4⟩ := heo.s0 y (List.mem_of_getElem? hy)
      have hz := sz_dI q1 q2 q3 q4
      obtain ⟨a1, n1, d1, z1⟩ := o1
      obtain ⟨a2, n2, d2, z2⟩ := o2
      obtain ⟨f1, hkk⟩ := Prod.mk.inj hkk
      obtain ⟨f2, f3⟩ := Prod.mk.inj hkk
      dsimp only at f1 f2 f3 e1 e2 e3
      subst f1 f2 f3
      subst e2 e3
      have hi0 : (0 : Int) ≤ (i : Int) := Int.natCast_nonneg i
      have c4 : (i : Int) < ((os2.length : Nat) : Int) := by omega
      refine Pw.use (p := A1.isSome = true) (fun w h => (fact0 h).has hi0 c3) (fun hA => ?_)
      obtain ⟨ad, rfl⟩ := Option.isSome_iff_exists.1 hA
      refine Pw.use (p := A2.isSome = true) (fun w h => (fact1 h).has hi0 c4) (fun hB => ?_)
      obtain ⟨bd, rfl⟩ := Option.isSome_iff_exists.1 hB
      generalize hr : Rat.divInt y.2.1 y.2.2 = r at hz
      rw [hr] at ho1 ho2
      repeat (first | (with_reducible first | refine Pw.seq ?_ | refine Pw.region ?_ | refine Pw.nil ?_ | refine Pw.then_ ?_ | refine Pw.skip ?_ | refine Pw.block ?_ | refine Pw.exit ?_ | refine Pw.inX ?_ | refine Pw.inN ?_ | refine Pw.inR ?_ | refine Pw.thenX ?_ | refine Pw.thenR ?_ | refine Pw.ret ?_) | refine Pw.list (Pw.pure rfl rfl rfl ?_) | refine Pw.inY rfl ?_ | refine Pw.list (Pw.off rfl rfl ?_) | refine Pw.condT rfl ?_ | refine Pw.condF rfl ?_ | refine Pw.list (Pw.box rfl rfl rfl rfl (fun _ => ?_)) | refine Pw.list (Pw.alloc rfl rfl rfl rfl rfl (fun _ => ?_)) | refine Pw.list (Pw.build rfl rfl rfl rfl ?_) | refine Pw.list (Pw.ld rfl inferInstance rfl rfl rfl ?_) | refine Pw.list (Pw.sto rfl rfl inferInstance rfl rfl rfl rfl rfl inferInstance rfl ?_))
      refine Pw.drawnG mixed rfl rfl ?_
      refine Pw.takeP 0 (nb 25 1) rfl rfl rfl rfl (by kernel_rfl) np sf ?_
      refine Pw.takeP 1 (nb 25 3) rfl rfl rfl rfl (by kernel_rfl) np sf ?_
      refine Pw.takeIx 2 (nb 25 7) rfl rfl rfl rfl rfl (by first | assumption | omega) (by first | assumption | omega) rfl rfl (by kernel_rfl) np sf ?_
      refine Pw.takeFS 3 (nb 25 15) rfl rfl rfl rfl rfl rfl rfl rfl (by kernel_rfl) np sf ?_
      refine Pw.takeLF (On.mk a1 (qn r) (qd r) z1) 4 (nb 25 31) rfl rfl inferInstance rfl (by first | assumption | (rw [Int.toNat_natCast]; assumption)) rfl rfl rfl rfl (by kernel_rfl) np sf ?_
      refine Pw.takeP 5 (nb 25 63) rfl rfl rfl rfl (by kernel_rfl) np sf ?_
      refine Pw.takeP 6 (nb 25 127) rfl rfl rfl rfl (by kernel_rfl) np sf ?_
      refine Pw.takeIx 7 (nb 25 255) rfl rfl rfl rfl rfl (by first | assumption | omega) (by first | assumption | omega) rfl rfl (by kernel_rfl) np sf ?_
      refine Pw.takeFS 8 (nb 25 511) rfl rfl rfl rfl rfl rfl rfl rfl (by kernel_rfl) np sf ?_
      refine Pw.takeLF (On.mk a1 (qn r) (qd r) z2) 9 (nb 25 1023) rfl rfl inferInstance rfl (by first | assumption | (rw [Int.toNat_natCast]; assumption)) rfl rfl rfl rfl (by kernel_rfl) np sf ?_
      refine Pw.takeP 10 (nb 25 2047) rfl rfl rfl rfl (by kernel_rfl) np sf ?_
      refine Pw.takeP 11 (nb 25 4095) rfl rfl rfl rfl (by kernel_rfl) np sf ?_
      refine Pw.re (d := 103) (v' := .bool false) rfl (congrArg Value.bool (decide_eq_false (fun h => h rfl))) ?_
      refine Pw.takeP 12 (nb 25 8191) rfl rfl rfl rfl (by kernel_rfl) np sf ?_
      refine Pw.takeP 13 (nb 25 16383) rfl rfl rfl rfl (by kernel_rfl) np sf ?_
      refine Pw.takeIx 14 (nb 25 32767) rfl rfl rfl rfl rfl (by first | assumption | omega) (by first | assumption | omega) rfl rfl (by kernel_rfl) np sf ?_
      refine Pw.takeFS 15 (nb 25 65535) rfl rfl rfl rfl rfl rfl rfl rfl (by kernel_rfl) np sf ?_
      refine Pw.takeLFA (On.mk a1 (qn r) (qd r) z1) [sl (qn r) z1.1, sl (qd r) z1.2] 16 (nb 25 131071) rfl rfl inferInstance rfl (by first | assumption | (rw [Int.toNat_natCast]; assumption)) rfl (by kernel_rfl) rfl rfl (by kernel_rfl) np sf ?_
      refine Pw.takeP 17 (nb 25 262143) rfl rfl rfl rfl (by kernel_rfl) np sf ?_
      refine Pw.takeP 18 (nb 25 524287) rfl rfl rfl rfl (by kernel_rfl) np sf ?_
      refine Pw.takeIx 19 (nb 25 1048575) rfl rfl rfl rfl rfl (by first | assumption | omega) (by first | assumption | omega) rfl rfl (by kernel_rfl) np sf ?_
      refine Pw.takeFS 20 (nb 25 2097151) rfl rfl rfl rfl rfl rfl rfl rfl (by kernel_rfl) np sf ?_
      refine Pw.takeLFA (On.mk a1 (qn r) (qd r) z2) [sl (qn r) z2.1, sl (qd r) z2.2] 21 (nb 25 4194303) rfl rfl inferInstance rfl (by first | assumption | (rw [Int.toNat_natCast]; assumption)) rfl (by kernel_rfl) rfl rfl (by kernel_rfl) np sf ?_
      refine Pw.one 22 (nb 25 8388607) rfl (by kernel_rfl) ?_
      -- call Op.call { callee := Callee.value (Operand.func 15), args := #[Operand.tmp 108, Operand.tmp 113], argTypes := #[36, 36] }
      refine Pw.call (qCmp_ct hz hz z1 z2 (by omega)) rfl rfl rfl (by kernel_rfl) rfl rfl (fun w h => ⟨((fact0 h : OS os1 (some ad, p1) w).at ho1).2.1, ((fact1 h : OS os2 (some bd, p2) w).at ho2).2.1⟩) ?_
      intro _ _
      rw [cmpQ_self]
      refine Pw.held sf ?_
      refine Pw.takeP 23 (nb 25 16777215) rfl rfl rfl rfl (by kernel_rfl) np sf ?_
      refine Pw.takeP 24 (nb 25 33554431) rfl rfl rfl rfl (by kernel_rfl) np sf ?_
      refine Pw.done (by kernel_rfl) ?_
      repeat (first | (with_reducible first | refine Pw.seq ?_ | refine Pw.region ?_ | refine Pw.nil ?_ | refine Pw.then_ ?_ | refine Pw.skip ?_ | refine Pw.block ?_ | refine Pw.exit ?_ | refine Pw.inX ?_ | refine Pw.inN ?_ | refine Pw.inR ?_ | refine Pw.thenX ?_ | refine Pw.thenR ?_ | refine Pw.ret ?_) | refine Pw.list (Pw.pure rfl rfl rfl ?_) | refine Pw.inY rfl ?_ | refine Pw.list (Pw.off rfl rfl ?_) | refine Pw.condT rfl ?_ | refine Pw.condF rfl ?_ | refine Pw.list (Pw.box rfl rfl rfl rfl (fun _ => ?_)) | refine Pw.list (Pw.alloc rfl rfl rfl rfl rfl (fun _ => ?_)) | refine Pw.list (Pw.build rfl rfl rfl rfl ?_) | refine Pw.list (Pw.ld rfl inferInstance rfl rfl rfl ?_) | refine Pw.list (Pw.sto rfl rfl inferInstance rfl rfl rfl rfl rfl inferInstance rfl ?_))
      refine Pw.re (d := 89) (v' := .int .i64 ((i + 1 : Nat) : Int)) rfl (congrArg (Value.int .i64) (i64s (n := 100000) (by omega) (by omega))) ?_
      exact Pw.again (i + 1) (by show i + 1 ≤ os1.length; omega) (by show os1.length - (i + 1) < os1.length - i; omega) ⟨rfl, rfl, rfl, rfl, trivial⟩ rfl (fun w h => allTail h)
    · repeat (first | (with_reducible first | refine Pw.seq ?_ | refine Pw.region ?_ | refine Pw.nil ?_ | refine Pw.then_ ?_ | refine Pw.skip ?_ | refine Pw.block ?_ | refine Pw.exit ?_ | refine Pw.inX ?_ | refine Pw.inN ?_ | refine Pw.inR ?_ | refine Pw.thenX ?_ | refine Pw.thenR ?_ | refine Pw.ret ?_) | refine Pw.list (Pw.pure rfl rfl rfl ?_) | refine Pw.inY rfl ?_ | refine Pw.list (Pw.off rfl rfl ?_) | refine Pw.condT rfl ?_ | refine Pw.condF rfl ?_ | refine Pw.list (Pw.box rfl rfl rfl rfl (fun _ => ?_)) | refine Pw.list (Pw.alloc rfl rfl rfl rfl rfl (fun _ => ?_)) | refine Pw.list (Pw.build rfl rfl rfl rfl ?_) | refine Pw.list (Pw.ld rfl inferInstance rfl rfl rfl ?_) | refine Pw.list (Pw.sto rfl rfl inferInstance rfl rfl rfl rfl rfl inferInstance rfl ?_))
      exact Pw.ret_ (x := ()) (.tmp rfl .nil) rfl trivial (fun w h => trivial)
  · have hid : ∀ c ∈ s.cs, (idV stake pick zp).st ≤ 0 ∨ c ∉ (idV stake pick zp).pk := fun c hc => .inl (by show stake ≤ 0; omega)
    repeat (first | (with_reducible first | refine Pw.seq ?_ | refine Pw.region ?_ | refine Pw.nil ?_ | refine Pw.then_ ?_ | refine Pw.skip ?_ | refine Pw.block ?_ | refine Pw.exit ?_ | refine Pw.inX ?_ | refine Pw.inN ?_ | refine Pw.inR ?_ | refine Pw.thenX ?_ | refine Pw.thenR ?_ | refine Pw.ret ?_) | refine Pw.list (Pw.pure rfl rfl rfl ?_) | refine Pw.inY rfl ?_ | refine Pw.list (Pw.off rfl rfl ?_) | refine Pw.condT rfl ?_ | refine Pw.condF rfl ?_ | refine Pw.list (Pw.box rfl rfl rfl rfl (fun _ => ?_)) | refine Pw.list (Pw.alloc rfl rfl rfl rfl rfl (fun _ => ?_)) | refine Pw.list (Pw.build rfl rfl rfl rfl ?_) | refine Pw.list (Pw.ld rfl inferInstance rfl rfl rfl ?_) | refine Pw.list (Pw.sto rfl rfl inferInstance rfl rfl rfl rfl rfl inferInstance rfl ?_))
    have hFs : formB s = true := formB_init (zv := s.zv) hF
    have hVs := vok_of hW hFs
    obtain ⟨l1, l2, l3, l4⟩ := formB_all hFs
    obtain ⟨m1, m2, _, _⟩ := formB_all hF
    have k0 : 0 ≤ k.tmod 9 := Int.tmod_nonneg 9 hk.1
    have k8 : k.tmod 9 ≤ 8 := by have := Int.tmod_lt_of_pos k (show (0 : Int) < 9 by omega); omega
    have hee := elect_ext (v := idV stake pick zp) hVs hid (k.tmod 9).toNat
    have heo := elect_ok hVs s.cs (k.tmod 9).toNat
    repeat (first | (with_reducible first | refine Pw.seq ?_ | refine Pw.region ?_ | refine Pw.nil ?_ | refine Pw.then_ ?_ | refine Pw.skip ?_ | refine Pw.block ?_ | refine Pw.exit ?_ | refine Pw.inX ?_ | refine Pw.inN ?_ | refine Pw.inR ?_ | refine Pw.thenX ?_ | refine Pw.thenR ?_ | refine Pw.ret ?_) | refine Pw.list (Pw.pure rfl rfl rfl ?_) | refine Pw.inY rfl ?_ | refine Pw.list (Pw.off rfl rfl ?_) | refine Pw.condT rfl ?_ | refine Pw.condF rfl ?_ | refine Pw.list (Pw.box rfl rfl rfl rfl (fun _ => ?_)) | refine Pw.list (Pw.alloc rfl rfl rfl rfl rfl (fun _ => ?_)) | refine Pw.list (Pw.build rfl rfl rfl rfl ?_) | refine Pw.list (Pw.ld rfl inferInstance rfl rfl rfl ?_) | refine Pw.list (Pw.sto rfl rfl inferInstance rfl rfl rfl rfl rfl inferInstance rfl ?_))
    refine Pw.re (d := 56) (v' := .int .i64 (k.tmod 9)) rfl (congrArg (Value.int .i64) (wi64 (by omega) (by omega))) ?_
    repeat (first | (with_reducible first | refine Pw.seq ?_ | refine Pw.region ?_ | refine Pw.nil ?_ | refine Pw.then_ ?_ | refine Pw.skip ?_ | refine Pw.block ?_ | refine Pw.exit ?_ | refine Pw.inX ?_ | refine Pw.inN ?_ | refine Pw.inR ?_ | refine Pw.thenX ?_ | refine Pw.thenR ?_ | refine Pw.ret ?_) | refine Pw.list (Pw.pure rfl rfl rfl ?_) | refine Pw.inY rfl ?_ | refine Pw.list (Pw.off rfl rfl ?_) | refine Pw.condT rfl ?_ | refine Pw.condF rfl ?_ | refine Pw.list (Pw.box rfl rfl rfl rfl (fun _ => ?_)) | refine Pw.list (Pw.alloc rfl rfl rfl rfl rfl (fun _ => ?_)) | refine Pw.list (Pw.build rfl rfl rfl rfl ?_) | refine Pw.list (Pw.ld rfl inferInstance rfl rfl rfl ?_) | refine Pw.list (Pw.sto rfl rfl inferInstance rfl rfl rfl rfl rfl inferInstance rfl ?_))
    refine Pw.list (Pw.call (ElectF_ct s (k.tmod 9) hW hFs k0 k8) rfl rfl rfl (by kernel_rfl) rfl rfl (fun w h => (hv w h)) ?_)
    intro y1 hy1
    repeat (first | (with_reducible first | refine Pw.seq ?_ | refine Pw.region ?_ | refine Pw.nil ?_ | refine Pw.then_ ?_ | refine Pw.skip ?_ | refine Pw.block ?_ | refine Pw.exit ?_ | refine Pw.inX ?_ | refine Pw.inN ?_ | refine Pw.inR ?_ | refine Pw.thenX ?_ | refine Pw.thenR ?_ | refine Pw.ret ?_) | refine Pw.list (Pw.pure rfl rfl rfl ?_) | refine Pw.inY rfl ?_ | refine Pw.list (Pw.off rfl rfl ?_) | refine Pw.condT rfl ?_ | refine Pw.condF rfl ?_ | refine Pw.list (Pw.box rfl rfl rfl rfl (fun _ => ?_)) | refine Pw.list (Pw.alloc rfl rfl rfl rfl rfl (fun _ => ?_)) | refine Pw.list (Pw.build rfl rfl rfl rfl ?_) | refine Pw.list (Pw.ld rfl inferInstance rfl rfl rfl ?_) | refine Pw.list (Pw.sto rfl rfl inferInstance rfl rfl rfl rfl rfl inferInstance rfl ?_))
    refine Pw.re (d := 65) (v' := .int .i64 (k.tmod 9)) rfl (congrArg (Value.int .i64) (wi64 (by omega) (by omega))) ?_
    repeat (first | (with_reducible first | refine Pw.seq ?_ | refine Pw.region ?_ | refine Pw.nil ?_ | refine Pw.then_ ?_ | refine Pw.skip ?_ | refine Pw.block ?_ | refine Pw.exit ?_ | refine Pw.inX ?_ | refine Pw.inN ?_ | refine Pw.inR ?_ | refine Pw.thenX ?_ | refine Pw.thenR ?_ | refine Pw.ret ?_) | refine Pw.list (Pw.pure rfl rfl rfl ?_) | refine Pw.inY rfl ?_ | refine Pw.list (Pw.off rfl rfl ?_) | refine Pw.condT rfl ?_ | refine Pw.condF rfl ?_ | refine Pw.list (Pw.box rfl rfl rfl rfl (fun _ => ?_)) | refine Pw.list (Pw.alloc rfl rfl rfl rfl rfl (fun _ => ?_)) | refine Pw.list (Pw.build rfl rfl rfl rfl ?_) | refine Pw.list (Pw.ld rfl inferInstance rfl rfl rfl ?_) | refine Pw.list (Pw.sto rfl rfl inferInstance rfl rfl rfl rfl rfl inferInstance rfl ?_))
    refine Pw.list (Pw.call (ElectF_ct ⟨s.vs ++ [idV stake pick zp], zt, s.cs, s.zc⟩ (k.tmod 9) hWt hF k0 k8) rfl rfl rfl (by kernel_rfl) rfl rfl (fun w h => ⟨(hv w h), (hv w h : snF s w).2⟩) ?_)
    intro y2 hy2
    have hl1 := os_len hy1 k8
    have hn1 := sh_len hy1 l1 l2
    have hn2 := sh_len hy2 m1 m2
    have hos : y1.os.map (fun o => (o.at_, o.a, o.b)) = y2.os.map (fun o => (o.at_, o.a, o.b)) := by
      rw [hy1.1, hy2.1]
      show _ = List.map seatQ (electE (s.vs ++ [idV stake pick zp]) s.cs (k.tmod 9).toNat).se
      rw [hee]; rfl
    have hsh : y1.sh.map shK = y2.sh.map shK := by
      rw [hy1.2, hy2.2]
      show _ = shTo (s.vs ++ [idV stake pick zp]) s.cs (electE (s.vs ++ [idV stake pick zp]) s.cs (k.tmod 9).toNat) (s.vs ++ [idV stake pick zp]).length
      rw [hee, List.length_append, List.length_singleton, shTo_ext heo.el]
    have hol : y2.os.length = y1.os.length := by have := congrArg List.length hos; rw [List.length_map, List.length_map] at this; exact this.symm
    have hfm := sh_fm hVs heo (by omega) hy1.2
    obtain ⟨os1, ⟨A1, p1⟩, sh1, zs1⟩ := y1
    obtain ⟨os2, ⟨A2, p2⟩, sh2, zs2⟩ := y2
    dsimp only at hl1 hn1 hn2 hos hsh hol hfm hy1 hy2 ⊢
    repeat (first | (with_reducible first | refine Pw.seq ?_ | refine Pw.region ?_ | refine Pw.nil ?_ | refine Pw.then_ ?_ | refine Pw.skip ?_ | refine Pw.block ?_ | refine Pw.exit ?_ | refine Pw.inX ?_ | refine Pw.inN ?_ | refine Pw.inR ?_ | refine Pw.thenX ?_ | refine Pw.thenR ?_ | refine Pw.ret ?_) | refine Pw.list (Pw.pure rfl rfl rfl ?_) | refine Pw.inY rfl ?_ | refine Pw.list (Pw.off rfl rfl ?_) | refine Pw.condT rfl ?_ | refine Pw.condF rfl ?_ | refine Pw.list (Pw.box rfl rfl rfl rfl (fun _ => ?_)) | refine Pw.list (Pw.alloc rfl rfl rfl rfl rfl (fun _ => ?_)) | refine Pw.list (Pw.build rfl rfl rfl rfl ?_) | refine Pw.list (Pw.ld rfl inferInstance rfl rfl rfl ?_) | refine Pw.list (Pw.sto rfl rfl inferInstance rfl rfl rfl rfl rfl inferInstance rfl ?_))
    refine Pw.re (d := 80) (v' := .bool false) rfl (congrArg Value.bool (decide_eq_false (by omega))) ?_
    repeat (first | (with_reducible first | refine Pw.seq ?_ | refine Pw.region ?_ | refine Pw.nil ?_ | refine Pw.then_ ?_ | refine Pw.skip ?_ | refine Pw.block ?_ | refine Pw.exit ?_ | refine Pw.inX ?_ | refine Pw.inN ?_ | refine Pw.inR ?_ | refine Pw.thenX ?_ | refine Pw.thenR ?_ | refine Pw.ret ?_) | refine Pw.list (Pw.pure rfl rfl rfl ?_) | refine Pw.inY rfl ?_ | refine Pw.list (Pw.off rfl rfl ?_) | refine Pw.condT rfl ?_ | refine Pw.condF rfl ?_ | refine Pw.list (Pw.box rfl rfl rfl rfl (fun _ => ?_)) | refine Pw.list (Pw.alloc rfl rfl rfl rfl rfl (fun _ => ?_)) | refine Pw.list (Pw.build rfl rfl rfl rfl ?_) | refine Pw.list (Pw.ld rfl inferInstance rfl rfl rfl ?_) | refine Pw.list (Pw.sto rfl rfl inferInstance rfl rfl rfl rfl rfl inferInstance rfl ?_))
    refine Pw.list (Pw.call (sShares_ct sh2 zs2 (by omega)) rfl rfl rfl (by kernel_rfl) rfl rfl (fun w h => (hv (φ := fun W => OS os2 (A2, p2) W ∧ SS sh2 zs2 W) w h).2) ?_)
    intro z3 _
    repeat (first | (with_reducible first | refine Pw.seq ?_ | refine Pw.region ?_ | refine Pw.nil ?_ | refine Pw.then_ ?_ | refine Pw.skip ?_ | refine Pw.block ?_ | refine Pw.exit ?_ | refine Pw.inX ?_ | refine Pw.inN ?_ | refine Pw.inR ?_ | refine Pw.thenX ?_ | refine Pw.thenR ?_ | refine Pw.ret ?_) | refine Pw.list (Pw.pure rfl rfl rfl ?_) | refine Pw.inY rfl ?_ | refine Pw.list (Pw.off rfl rfl ?_) | refine Pw.condT rfl ?_ | refine Pw.condF rfl ?_ | refine Pw.list (Pw.box rfl rfl rfl rfl (fun _ => ?_)) | refine Pw.list (Pw.alloc rfl rfl rfl rfl rfl (fun _ => ?_)) | refine Pw.list (Pw.build rfl rfl rfl rfl ?_) | refine Pw.list (Pw.ld rfl inferInstance rfl rfl rfl ?_) | refine Pw.list (Pw.sto rfl rfl inferInstance rfl rfl rfl rfl rfl inferInstance rfl ?_))
    refine Pw.list (Pw.call (sSame_ct sh1 sh2 zs1 z3 (by omega) hsh hfm) rfl rfl rfl (by kernel_rfl) rfl rfl (fun w h => ⟨(hv (φ := fun W => OS os1 (A1, p1) W ∧ SS sh1 zs1 W) w h).2, (hv w h)⟩) ?_)
    intro _ _
    repeat (first | (with_reducible first | refine Pw.seq ?_ | refine Pw.region ?_ | refine Pw.nil ?_ | refine Pw.then_ ?_ | refine Pw.skip ?_ | refine Pw.block ?_ | refine Pw.exit ?_ | refine Pw.inX ?_ | refine Pw.inN ?_ | refine Pw.inR ?_ | refine Pw.thenX ?_ | refine Pw.thenR ?_ | refine Pw.ret ?_) | refine Pw.list (Pw.pure rfl rfl rfl ?_) | refine Pw.inY rfl ?_ | refine Pw.list (Pw.off rfl rfl ?_) | refine Pw.condT rfl ?_ | refine Pw.condF rfl ?_ | refine Pw.list (Pw.box rfl rfl rfl rfl (fun _ => ?_)) | refine Pw.list (Pw.alloc rfl rfl rfl rfl rfl (fun _ => ?_)) | refine Pw.list (Pw.build rfl rfl rfl rfl ?_) | refine Pw.list (Pw.ld rfl inferInstance rfl rfl rfl ?_) | refine Pw.list (Pw.sto rfl rfl inferInstance rfl rfl rfl rfl rfl inferInstance rfl ?_))
    refine Pw.loopJ (σ := Nat) (fun i => i ≤ os1.length) (fun i => ⟨[(10, .slice A1 os1.length p1), (13, .slice A2 os2.length p2), (88, .int .i64 os1.length), (89, .int .i64 i)], [], [OS os1 (A1, p1), OS os2 (A2, p2)]⟩) (fun i => os1.length - i) 0 (Nat.zero_le _) (Pw.enter ⟨rfl, rfl, rfl, rfl, trivial⟩ (fun w h => allCons (hv (φ := fun W => OS os1 (A1, p1) W ∧ SS sh1 zs1 W) w h).1 (allCons (hv (φ := fun W => OS os2 (A2, p2) W ∧ SS sh2 zs2 W) w h).1 allNil))) ?_
    rintro i hi
    dsimp only at hi ⊢
    repeat (first | (with_reducible first | refine Pw.seq ?_ | refine Pw.region ?_ | refine Pw.nil ?_ | refine Pw.then_ ?_ | refine Pw.skip ?_ | refine Pw.block ?_ | refine Pw.exit ?_ | refine Pw.inX ?_ | refine Pw.inN ?_ | refine Pw.inR ?_ | refine Pw.thenX ?_ | refine Pw.thenR ?_ | refine Pw.ret ?_) | refine Pw.list (Pw.pure rfl rfl rfl ?_) | refine Pw.inY rfl ?_ | refine Pw.list (Pw.off rfl rfl ?_) | refine Pw.condT rfl ?_ | refine Pw.condF rfl ?_ | refine Pw.list (Pw.box rfl rfl rfl rfl (fun _ => ?_)) | refine Pw.list (Pw.alloc rfl rfl rfl rfl rfl (fun _ => ?_)) | refine Pw.list (Pw.build rfl rfl rfl rfl ?_) | refine Pw.list (Pw.ld rfl inferInstance rfl rfl rfl ?_) | refine Pw.list (Pw.sto rfl rfl inferInstance rfl rfl rfl rfl rfl inferInstance rfl ?_))
    refine Pw.condD rfl (fun c3 => ?_) (fun c3 => ?_)
    · obtain ⟨o1, ho1, _⟩ := get_at (show i < os1.length by omega)
      obtain ⟨o2, ho2, _⟩ := get_at (show i < os2.length by omega)
      obtain ⟨y, hy, e1, e2, e3⟩ := seat_at hy1.1 ho1
      have hkk : (o1.at_, o1.a, o1.b) = (o2.at_, o2.a, o2.b) := by
        have h1 : (os1.map (fun o => (o.at_, o.a, o.b)))[i]? = (os2.map (fun o => (o.at_, o.a, o.b)))[i]? := by rw [hos]
        rw [List.getElem?_map, List.getElem?_map, ho1, ho2] at h1
        exact Option.some.inj h1
      obtain ⟨q1, q2, q3, q4⟩ := heo.s0 y (List.mem_of_getElem? hy)
      have hz := sz_dI q1 q2 q3 q4
      obtain ⟨a1, n1, d1, z1⟩ := o1
      obtain ⟨a2, n2, d2, z2⟩ := o2
      obtain ⟨f1, hkk⟩ := Prod.mk.inj hkk
      obtain ⟨f2, f3⟩ := Prod.mk.inj hkk
      dsimp only at f1 f2 f3 e1 e2 e3
      subst f1 f2 f3
      subst e2 e3
      have hi0 : (0 : Int) ≤ (i : Int) := Int.natCast_nonneg i
      have c4 : (i : Int) < ((os2.length : Nat) : Int) := by omega
      refine Pw.use (p := A1.isSome = true) (fun w h => (fact0 h).has hi0 c3) (fun hA => ?_)
      obtain ⟨ad, rfl⟩ := Option.isSome_iff_exists.1 hA
      refine Pw.use (p := A2.isSome = true) (fun w h => (fact1 h).has hi0 c4) (fun hB => ?_)
      obtain ⟨bd, rfl⟩ := Option.isSome_iff_exists.1 hB
      generalize hr : Rat.divInt y.2.1 y.2.2 = r at hz
      rw [hr] at ho1 ho2
      repeat (first | (with_reducible first | refine Pw.seq ?_ | refine Pw.region ?_ | refine Pw.nil ?_ | refine Pw.then_ ?_ | refine Pw.skip ?_ | refine Pw.block ?_ | refine Pw.exit ?_ | refine Pw.inX ?_ | refine Pw.inN ?_ | refine Pw.inR ?_ | refine Pw.thenX ?_ | refine Pw.thenR ?_ | refine Pw.ret ?_) | refine Pw.list (Pw.pure rfl rfl rfl ?_) | refine Pw.inY rfl ?_ | refine Pw.list (Pw.off rfl rfl ?_) | refine Pw.condT rfl ?_ | refine Pw.condF rfl ?_ | refine Pw.list (Pw.box rfl rfl rfl rfl (fun _ => ?_)) | refine Pw.list (Pw.alloc rfl rfl rfl rfl rfl (fun _ => ?_)) | refine Pw.list (Pw.build rfl rfl rfl rfl ?_) | refine Pw.list (Pw.ld rfl inferInstance rfl rfl rfl ?_) | refine Pw.list (Pw.sto rfl rfl inferInstance rfl rfl rfl rfl rfl inferInstance rfl ?_))
      refine Pw.drawnG mixed rfl rfl ?_
      refine Pw.takeP 0 (nb 25 1) rfl rfl rfl rfl (by kernel_rfl) np sf ?_
      refine Pw.takeP 1 (nb 25 3) rfl rfl rfl rfl (by kernel_rfl) np sf ?_
      refine Pw.takeIx 2 (nb 25 7) rfl rfl rfl rfl rfl (by first | assumption | omega) (by first | assumption | omega) rfl rfl (by kernel_rfl) np sf ?_
      refine Pw.takeFS 3 (nb 25 15) rfl rfl rfl rfl rfl rfl rfl rfl (by kernel_rfl) np sf ?_
      refine Pw.takeLF (On.mk a1 (qn r) (qd r) z1) 4 (nb 25 31) rfl rfl inferInstance rfl (by first | assumption | (rw [Int.toNat_natCast]; assumption)) rfl rfl rfl rfl (by kernel_rfl) np sf ?_
      refine Pw.takeP 5 (nb 25 63) rfl rfl rfl rfl (by kernel_rfl) np sf ?_
      refine Pw.takeP 6 (nb 25 127) rfl rfl rfl rfl (by kernel_rfl) np sf ?_
      refine Pw.takeIx 7 (nb 25 255) rfl rfl rfl rfl rfl (by first | assumption | omega) (by first | assumption | omega) rfl rfl (by kernel_rfl) np sf ?_
      refine Pw.takeFS 8 (nb 25 511) rfl rfl rfl rfl rfl rfl rfl rfl (by kernel_rfl) np sf ?_
      refine Pw.takeLF (On.mk a1 (qn r) (qd r) z2) 9 (nb 25 1023) rfl rfl inferInstance rfl (by first | assumption | (rw [Int.toNat_natCast]; assumption)) rfl rfl rfl rfl (by kernel_rfl) np sf ?_
      refine Pw.takeP 10 (nb 25 2047) rfl rfl rfl rfl (by kernel_rfl) np sf ?_
      refine Pw.takeP 11 (nb 25 4095) rfl rfl rfl rfl (by kernel_rfl) np sf ?_
      refine Pw.re (d := 103) (v' := .bool false) rfl (congrArg Value.bool (decide_eq_false (fun h => h rfl))) ?_
      refine Pw.takeP 12 (nb 25 8191) rfl rfl rfl rfl (by kernel_rfl) np sf ?_
      refine Pw.takeP 13 (nb 25 16383) rfl rfl rfl rfl (by kernel_rfl) np sf ?_
      refine Pw.takeIx 14 (nb 25 32767) rfl rfl rfl rfl rfl (by first | assumption | omega) (by first | assumption | omega) rfl rfl (by kernel_rfl) np sf ?_
      refine Pw.takeFS 15 (nb 25 65535) rfl rfl rfl rfl rfl rfl rfl rfl (by kernel_rfl) np sf ?_
      refine Pw.takeLFA (On.mk a1 (qn r) (qd r) z1) [sl (qn r) z1.1, sl (qd r) z1.2] 16 (nb 25 131071) rfl rfl inferInstance rfl (by first | assumption | (rw [Int.toNat_natCast]; assumption)) rfl (by kernel_rfl) rfl rfl (by kernel_rfl) np sf ?_
      refine Pw.takeP 17 (nb 25 262143) rfl rfl rfl rfl (by kernel_rfl) np sf ?_
      refine Pw.takeP 18 (nb 25 524287) rfl rfl rfl rfl (by kernel_rfl) np sf ?_
      refine Pw.takeIx 19 (nb 25 1048575) rfl rfl rfl rfl rfl (by first | assumption | omega) (by first | assumption | omega) rfl rfl (by kernel_rfl) np sf ?_
      refine Pw.takeFS 20 (nb 25 2097151) rfl rfl rfl rfl rfl rfl rfl rfl (by kernel_rfl) np sf ?_
      refine Pw.takeLFA (On.mk a1 (qn r) (qd r) z2) [sl (qn r) z2.1, sl (qd r) z2.2] 21 (nb 25 4194303) rfl rfl inferInstance rfl (by first | assumption | (rw [Int.toNat_natCast]; assumption)) rfl (by kernel_rfl) rfl rfl (by kernel_rfl) np sf ?_
      refine Pw.one 22 (nb 25 8388607) rfl (by kernel_rfl) ?_
      -- call Op.call { callee := Callee.value (Operand.func 15), args := #[Operand.tmp 108, Operand.tmp 113], argTypes := #[36, 36] }
      refine Pw.call (qCmp_ct hz hz z1 z2 (by omega)) rfl rfl rfl (by kernel_rfl) rfl rfl (fun w h => ⟨((fact0 h : OS os1 (some ad, p1) w).at ho1).2.1, ((fact1 h : OS os2 (some bd, p2) w).at ho2).2.1⟩) ?_
      intro _ _
      rw [cmpQ_self]
      refine Pw.held sf ?_
      refine Pw.takeP 23 (nb 25 16777215) rfl rfl rfl rfl (by kernel_rfl) np sf ?_
      refine Pw.takeP 24 (nb 25 33554431) rfl rfl rfl rfl (by kernel_rfl) np sf ?_
      refine Pw.done (by kernel_rfl) ?_
      repeat (first | (with_reducible first | refine Pw.seq ?_ | refine Pw.region ?_ | refine Pw.nil ?_ | refine Pw.then_ ?_ | refine Pw.skip ?_ | refine Pw.block ?_ | refine Pw.exit ?_ | refine Pw.inX ?_ | refine Pw.inN ?_ | refine Pw.inR ?_ | refine Pw.thenX ?_ | refine Pw.thenR ?_ | refine Pw.ret ?_) | refine Pw.list (Pw.pure rfl rfl rfl ?_) | refine Pw.inY rfl ?_ | refine Pw.list (Pw.off rfl rfl ?_) | refine Pw.condT rfl ?_ | refine Pw.condF rfl ?_ | refine Pw.list (Pw.box rfl rfl rfl rfl (fun _ => ?_)) | refine Pw.list (Pw.alloc rfl rfl rfl rfl rfl (fun _ => ?_)) | refine Pw.list (Pw.build rfl rfl rfl rfl ?_) | refine Pw.list (Pw.ld rfl inferInstance rfl rfl rfl ?_) | refine Pw.list (Pw.sto rfl rfl inferInstance rfl rfl rfl rfl rfl inferInstance rfl ?_))
      refine Pw.re (d := 89) (v' := .int .i64 ((i + 1 : Nat) : Int)) rfl (congrArg (Value.int .i64) (i64s (n := 100000) (by omega) (by omega))) ?_
      exact Pw.again (i + 1) (by show i + 1 ≤ os1.length; omega) (by show os1.length - (i + 1) < os1.length - i; omega) ⟨rfl, rfl, rfl, rfl, trivial⟩ rfl (fun w h => allTail h)
    · repeat (first | (with_reducible first | refine Pw.seq ?_ | refine Pw.region ?_ | refine Pw.nil ?_ | refine Pw.then_ ?_ | refine Pw.skip ?_ | refine Pw.block ?_ | refine Pw.exit ?_ | refine Pw.inX ?_ | refine Pw.inN ?_ | refine Pw.inR ?_ | refine Pw.thenX ?_ | refine Pw.thenR ?_ | refine Pw.ret ?_) | refine Pw.list (Pw.pure rfl rfl rfl ?_) | refine Pw.inY rfl ?_ | refine Pw.list (Pw.off rfl rfl ?_) | refine Pw.condT rfl ?_ | refine Pw.condF rfl ?_ | refine Pw.list (Pw.box rfl rfl rfl rfl (fun _ => ?_)) | refine Pw.list (Pw.alloc rfl rfl rfl rfl rfl (fun _ => ?_)) | refine Pw.list (Pw.build rfl rfl rfl rfl ?_) | refine Pw.list (Pw.ld rfl inferInstance rfl rfl rfl ?_) | refine Pw.list (Pw.sto rfl rfl inferInstance rfl rfl rfl rfl rfl inferInstance rfl ?_))
      exact Pw.ret_ (x := ()) (.tmp rfl .nil) rfl trivial (fun w h => trivial)
end Go.Proofs.Wk
