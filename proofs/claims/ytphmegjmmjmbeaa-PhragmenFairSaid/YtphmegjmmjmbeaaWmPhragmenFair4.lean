/- Walks and their mathematics, merged. No conditions beyond those written. -/
import Derived.Test.YtphmegjmmjmbeaaWmPhragmenFair3
/- Elections: the shares walked. -/
namespace Go.Proofs.Wk
open Go.RowKit
set_option maxRecDepth 100000
set_option maxHeartbeats 8000000
section
variable {P : Program} {w0 : World} {M O : Nat → Prop} {n : Nat} {K : Slots} {L : List Blk} {G : List (World → Prop)} {X : Act → World → Prop}
/-- Blocks of one's own are facts from now on. -/
theorem Pw.freeL {B L0 : List Blk} (h : Pw w0 M O n K L0 ((fun W => ∀ b ∈ B, W.heap[b.g]? = some b.o) :: G) X) : Pw w0 M O n K (B ++ L0) G X := fun a w ha hs => by
  have hap := List.pairwise_append.1 hs.nd
  refine h a w ha ⟨hs.keep, fun b hb => hs.own b (List.mem_append_right _ hb), hap.2.1, fun b hb => hs.base b (List.mem_append_right _ hb), fun b hb => hs.nob b (List.mem_append_right _ hb), hs.ob, fun φ hφ => ?_⟩
  rcases List.mem_cons.1 hφ with rfl | hφ
  · intro w' k b hb
    have h1 := hs.own b (List.mem_append_left _ hb)
    rw [k.block b.g (own_lt h1) ?_]
    · exact h1
    · rintro (e | ⟨x, hx, e⟩)
      · exact hs.nob b (List.mem_append_left _ hb) e
      · exact hap.2.2 b hb x hx e.symm
  · refine (hs.cl φ hφ).mono fun b _ e => ?_
    rcases e with e | ⟨x, hx, e⟩
    · exact .inl e
    · exact .inr ⟨x, List.mem_append_right _ hx, e⟩
end
attribute [local irreducible] Pw OpG
set_option linter.unusedVariables false
set_option linter.unusedSimpArgs false
def AllM (es : List (Nat × List Ee)) (W : World) : Prop := ∀ e ∈ es, W.heap[e.1]? = some (mapO (mE e.2))
def AllS (l : List Shr) (W : World) : Prop := ∀ s ∈ l, heldS s W
def vid (vs : List Vtr) (i : Nat) : Int := ((vs[i]?).map Vtr.id).getD 0
abbrev shK (s : Shr) : Int × Int × List Int × List Int := (s.v, s.c, s.a, s.b)
def shOne (vs : List Vtr) (S : Est) (i : Nat) (c : Int) : Option (Int × Int × List Int × List Int) := (shareOf vs S i c).map (fun w => (vid vs i, c, qn w, qd w))
def shRow (vs : List Vtr) (S : Est) (cs : List Int) (i : Nat) : List (Int × Int × List Int × List Int) := cs.filterMap (shOne vs S i)
def shTo (vs : List Vtr) (cs : List Int) (S : Est) (i : Nat) : List (Int × Int × List Int × List Int) := (List.range i).flatMap (shRow vs S cs)
theorem shTo_succ (vs : List Vtr) (cs : List Int) (S : Est) (i : Nat) : shTo vs cs S (i + 1) = shTo vs cs S i ++ shRow vs S cs i := by unfold shTo; rw [List.range_succ, List.flatMap_append]; simp
theorem shRow_snoc {vs : List Vtr} {S : Est} {cs : List Int} {i k : Nat} {c : Int} (h : cs[k]? = some c) : shRow vs S (cs.take (k + 1)) i = shRow vs S (cs.take k) i ++ (shOne vs S i c).toList := by
  unfold shRow; rw [take_snoc h, List.filterMap_append]
  cases e : shOne vs S i c <;> simp [e]
theorem lkp_find (c : Int) : ∀ (l : List Ee) (i : Nat), (l.find? (fun x => decide (x.1 = c)) = none ∧ lkp c (mE l) i = none) ∨ (∃ j t, l.find? (fun x => decide (x.1 = c)) = some t ∧ t ∈ l ∧ lkp c (mE l) i = some (j, (mv t).2))
  | [], i => .inl ⟨rfl, rfl⟩
  | t :: l, i => by
    by_cases h : t.1 = c
    · refine .inr ⟨i, t, ?_, List.mem_cons_self .., ?_⟩
      · rw [List.find?_cons, decide_eq_true h]
      · show (if c = t.1 then _ else _) = _
        rw [if_pos h.symm]
    · have e1 : (t :: l).find? (fun x => decide (x.1 = c)) = l.find? (fun x => decide (x.1 = c)) := by rw [List.find?_cons, decide_eq_false h]
      have e2 : lkp c (mE (t :: l)) i = lkp c (mE l) (i + 1) := by
        show (if c = t.1 then _ else _) = _
        rw [if_neg (fun e => h e.symm)]
      rw [e1, e2]
      rcases lkp_find c l (i + 1) with h1 | ⟨j, t', h1, h2, h3⟩
      · exact .inl h1
      · exact .inr ⟨j, t', h1, List.mem_cons_of_mem _ h2, h3⟩
theorem edge_find (c : Int) : ∀ l : List Ee, edgeOf (l.map (fun t => (t.1, t.2.1, t.2.2.1))) c = (l.find? (fun x => decide (x.1 = c))).map (fun t => (t.2.1, t.2.2.1))
  | [] => rfl
  | t :: l => by
    have ih := edge_find c l
    unfold edgeOf at ih ⊢
    rw [List.map_cons, List.find?_cons, List.find?_cons]
    show ((match decide (t.1 = c) with | true => some (t.1, t.2.1, t.2.2.1) | false => _).map _) = (match decide (t.1 = c) with | true => some t | false => _).map _
    cases decide (t.1 = c)
    · exact ih
    · rfl
theorem st_le {vs : List Vtr} (hv : VOk vs) {i : Nat} (hi : i < vs.length) : st vs i ≤ sumL (st vs) (List.range vs.length) := by
  have := sumL_sub (f := st vs) (List.singleton_sublist.2 (List.mem_range.2 hi)) hv.s
  unfold sumL at this ⊢
  simpa using this
theorem shares_ct (vs : List Vtr) (zv : Option Addr × Nat) (cs : List Int) (zc : Option Addr × Nat) (gr ga gl capl ge cape : Nat) (ex exe : List Value) (vS : Value) (a : Nat) (S : Est) (zd : Option Addr × Nat) (ns : List Nt) (es : List (Nat × List Ee))
    (hV : VOk vs) (hS : EOk vs a S) (ha : a ≤ 100) (hns : ns.map Prod.fst = S.ld.map natL) (hes : es.map edE = S.ed) (hvn : vs.length ≤ 32) (hcn : cs.length ≤ 32) :
    Ct Try.prog 28 #[.pointer (some ⟨gr, 0, none⟩)] (fun W => W.heap[gr]? = some (row (rB vs.length zv cs zc ga S.D zd gl capl (.slice (some ⟨ge, 0, none⟩) vs.length cape) vS) 75) ∧ W.heap[gl]? = some (row (cellsN ns ++ ex) 34) ∧ AllM es W ∧ AllN ns W ∧ S1 (natL S.D) zd W ∧ AllE es W ∧ VS vs zv W ∧ I1 cs zc W ∧ W.heap[ge]? = some (row ((es.map Prod.fst).map (fun g => Value.map (some g)) ++ exe) 103))
      (fun y : List Shr × (Option Addr × Nat) => ssV y.1 y.2) (fun y => y.1.map shK = shTo vs cs S vs.length) (fun y => SS y.1 y.2) := by
  obtain ⟨Av, cv⟩ := zv
  obtain ⟨Ac, cc⟩ := zc
  refine Ct.start Try.func28 rfl rfl (slots_of rfl slots1) (fun D0 w0 => Pw.facts (G' := [fun W => W.heap[gr]? = some (row (rB vs.length (Av, cv) cs (Ac, cc) ga S.D zd gl capl (.slice (some ⟨ge, 0, none⟩) vs.length cape) vS) 75), fun W => W.heap[gl]? = some (row (cellsN ns ++ ex) 34), fun W => W.heap[ge]? = some (row ((es.map Prod.fst).map (fun g => Value.map (some g)) ++ exe) 103), AllM es, AllN ns, S1 (natL S.D) zd, AllE es, VS vs (Av, cv), I1 cs (Ac, cc)]) (fun w h => by
    obtain ⟨h1, h2, h3, h4, h5, h6, h7, h8, h9⟩ := fact0 h
    exact allCons h1 (allCons h2 (allCons h9 (allCons h3 (allCons h4 (allCons h5 (allCons h6 (allCons h7 (allCons h8 allNil))))))))) ?_)
  repeat (first | (with_reducible first | refine Pw.seq ?_ | refine Pw.region ?_ | refine Pw.nil ?_ | refine Pw.then_ ?_ | refine Pw.skip ?_ | refine Pw.block ?_ | refine Pw.exit ?_ | refine Pw.inX ?_ | refine Pw.inN ?_ | refine Pw.inR ?_ | refine Pw.thenX ?_ | refine Pw.thenR ?_ | refine Pw.ret ?_) | refine Pw.list (Pw.pure rfl rfl rfl ?_) | refine Pw.inY rfl ?_ | refine Pw.list (Pw.off rfl rfl ?_) | refine Pw.condT rfl ?_ | refine Pw.condF rfl ?_ | refine Pw.list (Pw.box rfl rfl rfl rfl (fun _ => ?_)) | refine Pw.list (Pw.alloc rfl rfl rfl rfl rfl (fun _ => ?_)) | refine Pw.list (Pw.build rfl rfl rfl rfl ?_) | refine Pw.list (Pw.ld rfl inferInstance rfl rfl rfl ?_) | refine Pw.list (Pw.sto rfl rfl inferInstance rfl rfl rfl rfl rfl inferInstance rfl ?_))
  refine Pw.loopJ (σ := Nat × List Shr × Gr) (fun t => t.1 ≤ vs.length ∧ t.2.1.map shK = shTo vs cs S t.1 ∧ gOk t.2.2 (cellsS t.2.1) t.2.1.length 4 ∧ t.2.1.length ≤ t.1 * 32) (fun t => ⟨[(0, .pointer (some ⟨gr, 0, none⟩)), (3, gv t.2.2 t.2.1.length), (20, .slice Av vs.length cv), (21, .int .i64 vs.length), (22, .int .i64 t.1)], gL1 t.2.2 (cellsS t.2.1) 58, [AllS t.2.1, fun W => W.heap[gr]? = some (row (rB vs.length (Av, cv) cs (Ac, cc) ga S.D zd gl capl (.slice (some ⟨ge, 0, none⟩) vs.length cape) vS) 75), fun W => W.heap[gl]? = some (row (cellsN ns ++ ex) 34), fun W => W.heap[ge]? = some (row ((es.map Prod.fst).map (fun g => Value.map (some g)) ++ exe) 103), AllM es, AllN ns, S1 (natL S.D) zd, AllE es, VS vs (Av, cv), I1 cs (Ac, cc)]⟩) (fun t => vs.length - t.1) (0, [], none) ⟨Nat.zero_le _, rfl, ⟨rfl, rfl⟩, Nat.le_refl _⟩ (by
    intro X h
    dsimp only at h
    refine Pw.enter ?_ ?_ X h
    · exact ⟨rfl, rfl, rfl, rfl, rfl, trivial⟩
    · exact fun w h => allCons (fun s hs => by cases hs) h) ?_
  rintro ⟨i, l, s⟩ ⟨hi, hl, hs, hln⟩
  dsimp only at hi hl hs hln ⊢
  repeat (first | (with_reducible first | refine Pw.seq ?_ | refine Pw.region ?_ | refine Pw.nil ?_ | refine Pw.then_ ?_ | refine Pw.skip ?_ | refine Pw.block ?_ | refine Pw.exit ?_ | refine Pw.inX ?_ | refine Pw.inN ?_ | refine Pw.inR ?_ | refine Pw.thenX ?_ | refine Pw.thenR ?_ | refine Pw.ret ?_) | refine Pw.list (Pw.pure rfl rfl rfl ?_) | refine Pw.inY rfl ?_ | refine Pw.list (Pw.off rfl rfl ?_) | refine Pw.condT rfl ?_ | refine Pw.condF rfl ?_)
  refine Pw.condD rfl (fun ci => ?_) (fun ci => ?_)
  · have hiv : i < vs.length := by omega
    have hi0 : (0 : Int) ≤ (i : Int) := Int.natCast_nonneg i
    have hi1 : (i : Int) < ((vs.length : Nat) : Int) := ci
    obtain ⟨v, hvi, hvm⟩ := get_at hiv
    have hel : es.length = vs.length := by have := congrArg List.length hes; rw [List.length_map] at this; exact this.trans hS.el
    have hnl : ns.length = vs.length := by have := congrArg List.length hns; rw [List.length_map, List.length_map] at this; exact this.trans hS.ll
    obtain ⟨p, hp, hpm⟩ := get_at (show i < ns.length by omega)
    obtain ⟨e, he, hem⟩ := get_at (show i < es.length by omega)
    obtain ⟨q, hq, _⟩ := get_at (show i < S.ld.length by rw [hS.ll]; exact hiv)
    have hpq : p.1 = natL q := by
      have h1 : (ns.map Prod.fst)[i]? = (S.ld.map natL)[i]? := by rw [hns]
      rw [List.getElem?_map, List.getElem?_map, hp, hq] at h1
      exact Option.some.inj h1
    have hqa : at0 S.ld i = q := by unfold at0; rw [hq]; rfl
    have hed : S.ed[i]? = some (edE e) := by rw [← hes, List.getElem?_map, he]; rfl
    have hge : (es.map Prod.fst)[i]? = some e.1 := by rw [List.getElem?_map, he]; rfl
    have hst : st vs i = v.st := by unfold st; rw [hvi]; rfl
    have hvd : vid vs i = v.id := by unfold vid; rw [hvi]; rfl
    repeat (first | (with_reducible first | refine Pw.seq ?_ | refine Pw.region ?_ | refine Pw.nil ?_ | refine Pw.then_ ?_ | refine Pw.skip ?_ | refine Pw.block ?_ | refine Pw.exit ?_ | refine Pw.inX ?_ | refine Pw.inN ?_ | refine Pw.inR ?_ | refine Pw.thenX ?_ | refine Pw.thenR ?_ | refine Pw.ret ?_) | refine Pw.list (Pw.pure rfl rfl rfl ?_) | refine Pw.inY rfl ?_ | refine Pw.list (Pw.off rfl rfl ?_) | refine Pw.condT rfl ?_ | refine Pw.condF rfl ?_)
    refine Pw.list (Pw.index rfl rfl rfl rfl hi0 ci (fun w h => (hv w h : VS vs (Av, cv) w).has hi0 ci) rfl rfl ?_)
    rintro av rfl
    refine Pw.list (Pw.loadR v rfl inferInstance rfl (by rw [Int.toNat_natCast]; exact hvi) (by kernel_rfl) rfl rfl ?_)
    refine Pw.re (d := 26) (v' := vtV v) rfl rfl ?_
    refine Pw.list (Pw.alloc rfl rfl rfl rfl rfl (fun g5 => ?_))
    repeat (first | (with_reducible first | refine Pw.seq ?_ | refine Pw.region ?_ | refine Pw.nil ?_ | refine Pw.then_ ?_ | refine Pw.skip ?_ | refine Pw.block ?_ | refine Pw.exit ?_ | refine Pw.inX ?_ | refine Pw.inN ?_ | refine Pw.inR ?_ | refine Pw.thenX ?_ | refine Pw.thenR ?_ | refine Pw.ret ?_) | refine Pw.list (Pw.pure rfl rfl rfl ?_) | refine Pw.inY rfl ?_ | refine Pw.list (Pw.off rfl rfl ?_) | refine Pw.condT rfl ?_ | refine Pw.condF rfl ?_ | refine Pw.list (Pw.box rfl rfl rfl rfl (fun _ => ?_)) | refine Pw.list (Pw.alloc rfl rfl rfl rfl rfl (fun _ => ?_)) | refine Pw.list (Pw.build rfl rfl rfl rfl ?_) | refine Pw.list (Pw.ld rfl inferInstance rfl rfl rfl ?_) | refine Pw.list (Pw.sto rfl rfl inferInstance rfl rfl rfl rfl rfl inferInstance rfl ?_))
    refine freeHead ?_
    repeat (first | (with_reducible first | refine Pw.seq ?_ | refine Pw.region ?_ | refine Pw.nil ?_ | refine Pw.then_ ?_ | refine Pw.skip ?_ | refine Pw.block ?_ | refine Pw.exit ?_ | refine Pw.inX ?_ | refine Pw.inN ?_ | refine Pw.inR ?_ | refine Pw.thenX ?_ | refine Pw.thenR ?_ | refine Pw.ret ?_) | refine Pw.list (Pw.pure rfl rfl rfl ?_) | refine Pw.inY rfl ?_ | refine Pw.list (Pw.off rfl rfl ?_) | refine Pw.condT rfl ?_ | refine Pw.condF rfl ?_ | refine Pw.list (Pw.box rfl rfl rfl rfl (fun _ => ?_)) | refine Pw.list (Pw.alloc rfl rfl rfl rfl rfl (fun _ => ?_)) | refine Pw.list (Pw.build rfl rfl rfl rfl ?_) | refine Pw.list (Pw.ld rfl inferInstance rfl rfl rfl ?_) | refine Pw.list (Pw.sto rfl rfl inferInstance rfl rfl rfl rfl rfl inferInstance rfl ?_))
    refine Pw.loopJ (σ := Nat × List Shr × Gr) (fun t => t.1 ≤ cs.length ∧ t.2.1.map shK = shTo vs cs S i ++ shRow vs S (cs.take t.1) i ∧ gOk t.2.2 (cellsS t.2.1) t.2.1.length 4 ∧ t.2.1.length ≤ i * 32 + t.1) (fun t => ⟨[(0, .pointer (some ⟨gr, 0, none⟩)), (3, gv t.2.2 t.2.1.length), (4, .int .i64 i), (5, .pointer (some ⟨g5, 0, none⟩)), (20, .slice (some av) vs.length cv), (21, .int .i64 vs.length), (22, .int .i64 i), (31, .slice Ac cs.length cc), (32, .int .i64 cs.length), (33, .int .i64 t.1)], gL1 t.2.2 (cellsS t.2.1) 58, [AllS t.2.1, fun W => W.heap[g5]? = some (row [.int .i64 v.id, .int .u64 v.st, sl v.pk v.z] 44), fun W => W.heap[gr]? = some (row (rB vs.length (some av, cv) cs (Ac, cc) ga S.D zd gl capl (.slice (some ⟨ge, 0, none⟩) vs.length cape) vS) 75), fun W => W.heap[gl]? = some (row (cellsN ns ++ ex) 34), fun W => W.heap[ge]? = some (row ((es.map Prod.fst).map (fun g => Value.map (some g)) ++ exe) 103), AllM es, AllN ns, S1 (natL S.D) zd, AllE es, VS vs (some av, cv), I1 cs (Ac, cc)]⟩) (fun t => cs.length - t.1) (0, l, s) ⟨Nat.zero_le _, by show l.map shK = _; rw [hl]; simp [shRow], hs, by show l.length ≤ i * 32 + 0; omega⟩ (by
      intro X h
      dsimp only at h
      refine Pw.enter ?_ ?_ X h
      · exact ⟨rfl, rfl, rfl, rfl, rfl, rfl, rfl, rfl, rfl, rfl, trivial⟩
      · exact fun w h => allCons (hv w h : AllS l w) (allCons (Blks.h (L := []) (g := g5) w (fun b hb => by cases hb) h) (allCons (Blks.h (L := []) (g := gr) w (fun b hb => by cases hb) h) (allCons (Blks.h (L := []) (g := gl) w (fun b hb => by cases hb) h) (allCons (Blks.h (L := []) (g := ge) w (fun b hb => by cases hb) h) (allCons (hv w h) (allCons (hv w h) (allCons (hv w h) (allCons (hv w h) (allCons (hv w h) (allCons (hv w h) allNil))))))))))) ?_
    rintro ⟨k, l2, s2⟩ ⟨hk, hl2, hs2, hln2⟩
    dsimp only at hk hl2 hs2 hln2 ⊢
    repeat (first | (with_reducible first | refine Pw.seq ?_ | refine Pw.region ?_ | refine Pw.nil ?_ | refine Pw.then_ ?_ | refine Pw.skip ?_ | refine Pw.block ?_ | refine Pw.exit ?_ | refine Pw.inX ?_ | refine Pw.inN ?_ | refine Pw.inR ?_ | refine Pw.thenX ?_ | refine Pw.thenR ?_ | refine Pw.ret ?_) | refine Pw.list (Pw.pure rfl rfl rfl ?_) | refine Pw.inY rfl ?_ | refine Pw.list (Pw.off rfl rfl ?_) | refine Pw.condT rfl ?_ | refine Pw.condF rfl ?_)
    refine Pw.condD rfl (fun ck => ?_) (fun ck => ?_)
    · obtain ⟨c, hc, hcm⟩ := get_at (show k < cs.length by omega)
      have hrow := shRow_snoc (vs := vs) (S := S) (i := i) hc
      repeat (first | (with_reducible first | refine Pw.seq ?_ | refine Pw.region ?_ | refine Pw.nil ?_ | refine Pw.then_ ?_ | refine Pw.skip ?_ | refine Pw.block ?_ | refine Pw.exit ?_ | refine Pw.inX ?_ | refine Pw.inN ?_ | refine Pw.inR ?_ | refine Pw.thenX ?_ | refine Pw.thenR ?_ | refine Pw.ret ?_) | refine Pw.list (Pw.pure rfl rfl rfl ?_) | refine Pw.inY rfl ?_ | refine Pw.list (Pw.off rfl rfl ?_) | refine Pw.condT rfl ?_ | refine Pw.condF rfl ?_)
      refine Pw.list (Pw.index rfl rfl rfl rfl (Int.natCast_nonneg k) ck (fun w h => (hv w h : I1 cs (Ac, cc) w).has (Int.natCast_nonneg k) ck) rfl rfl ?_)
      rintro ad rfl
      refine Pw.list (Pw.load1 rfl rfl (fun w hs => (hv w hs.all : I1 cs (some ad, cc) w).cell (Int.natCast_nonneg k) ck) rfl rfl ?_)
      rw [get_rd hc]
      repeat (first | (with_reducible first | refine Pw.seq ?_ | refine Pw.region ?_ | refine Pw.nil ?_ | refine Pw.then_ ?_ | refine Pw.skip ?_ | refine Pw.block ?_ | refine Pw.exit ?_ | refine Pw.inX ?_ | refine Pw.inN ?_ | refine Pw.inR ?_ | refine Pw.thenX ?_ | refine Pw.thenR ?_ | refine Pw.ret ?_) | refine Pw.list (Pw.pure rfl rfl rfl ?_) | refine Pw.inY rfl ?_ | refine Pw.list (Pw.off rfl rfl ?_) | refine Pw.condT rfl ?_ | refine Pw.condF rfl ?_ | refine Pw.list (Pw.box rfl rfl rfl rfl (fun _ => ?_)) | refine Pw.list (Pw.alloc rfl rfl rfl rfl rfl (fun _ => ?_)) | refine Pw.list (Pw.build rfl rfl rfl rfl ?_) | refine Pw.list (Pw.ld rfl inferInstance rfl rfl rfl ?_) | refine Pw.list (Pw.sto rfl rfl inferInstance rfl rfl rfl rfl rfl inferInstance rfl ?_))
      refine Pw.list (Pw.indexS rfl rfl rfl rfl hi0 hi1 rfl rfl ?_)
      refine Pw.list (Pw.load1 (v := .map (some e.1)) rfl rfl (fun w hs => by rw [add_none, cell_of_blk (Blks.h (L := []) (g := ge) w (fun b hb => by cases hb) hs.all)]; exact edge_at hge) rfl rfl ?_)
      repeat (first | (with_reducible first | refine Pw.seq ?_ | refine Pw.region ?_ | refine Pw.nil ?_ | refine Pw.then_ ?_ | refine Pw.skip ?_ | refine Pw.block ?_ | refine Pw.exit ?_ | refine Pw.inX ?_ | refine Pw.inN ?_ | refine Pw.inR ?_ | refine Pw.thenX ?_ | refine Pw.thenR ?_ | refine Pw.ret ?_) | refine Pw.list (Pw.pure rfl rfl rfl ?_) | refine Pw.inY rfl ?_ | refine Pw.list (Pw.off rfl rfl ?_) | refine Pw.condT rfl ?_ | refine Pw.condF rfl ?_ | refine Pw.list (Pw.box rfl rfl rfl rfl (fun _ => ?_)) | refine Pw.list (Pw.alloc rfl rfl rfl rfl rfl (fun _ => ?_)) | refine Pw.list (Pw.build rfl rfl rfl rfl ?_) | refine Pw.list (Pw.ld rfl inferInstance rfl rfl rfl ?_) | refine Pw.list (Pw.sto rfl rfl inferInstance rfl rfl rfl rfl rfl inferInstance rfl ?_))
      refine Pw.list (Pw.lookupOk (m := mE e.2) rfl rfl rfl rfl rfl rfl (fun w hs => (hv w hs.all : AllM es w) e hem) rfl rfl ?_)
      have hso : shOne vs S i c = (e.2.find? (fun x => decide (x.1 = c))).map (fun t => (v.id, c, qn (Rat.divInt (t.2.1 * v.st * S.D) (t.2.2.1 * q)), qd (Rat.divInt (t.2.1 * v.st * S.D) (t.2.2.1 * q)))) := by
        unfold shOne shareOf
        rw [hed, hst, hqa, hvd]
        show ((edgeOf (edE e) c).map _).map _ = _
        rw [edge_find]
        cases e.2.find? (fun x => decide (x.1 = c)) <;> rfl
      rcases lkp_find c e.2 0 with ⟨hf, hk0⟩ | ⟨jj, t, hf, ht, hk0⟩
      · rw [hf] at hso
        refine Pw.re (d := 46) (v' := .tuple #[.agg #[.slice none 0 0, .slice none 0 0], .bool false]) rfl (by unfold mval; rw [hk0]; rfl) ?_
        repeat (first | (with_reducible first | refine Pw.seq ?_ | refine Pw.region ?_ | refine Pw.nil ?_ | refine Pw.then_ ?_ | refine Pw.skip ?_ | refine Pw.block ?_ | refine Pw.exit ?_ | refine Pw.inX ?_ | refine Pw.inN ?_ | refine Pw.inR ?_ | refine Pw.thenX ?_ | refine Pw.thenR ?_ | refine Pw.ret ?_) | refine Pw.list (Pw.pure rfl rfl rfl ?_) | refine Pw.inY rfl ?_ | refine Pw.list (Pw.off rfl rfl ?_) | refine Pw.condT rfl ?_ | refine Pw.condF rfl ?_ | refine Pw.list (Pw.box rfl rfl rfl rfl (fun _ => ?_)) | refine Pw.list (Pw.alloc rfl rfl rfl rfl rfl (fun _ => ?_)) | refine Pw.list (Pw.build rfl rfl rfl rfl ?_) | refine Pw.list (Pw.ld rfl inferInstance rfl rfl rfl ?_) | refine Pw.list (Pw.sto rfl rfl inferInstance rfl rfl rfl rfl rfl inferInstance rfl ?_))
        refine freeHead ?_
        repeat (first | (with_reducible first | refine Pw.seq ?_ | refine Pw.region ?_ | refine Pw.nil ?_ | refine Pw.then_ ?_ | refine Pw.skip ?_ | refine Pw.block ?_ | refine Pw.exit ?_ | refine Pw.inX ?_ | refine Pw.inN ?_ | refine Pw.inR ?_ | refine Pw.thenX ?_ | refine Pw.thenR ?_ | refine Pw.ret ?_) | refine Pw.list (Pw.pure rfl rfl rfl ?_) | refine Pw.inY rfl ?_ | refine Pw.list (Pw.off rfl rfl ?_) | refine Pw.condT rfl ?_ | refine Pw.condF rfl ?_ | refine Pw.list (Pw.box rfl rfl rfl rfl (fun _ => ?_)) | refine Pw.list (Pw.alloc rfl rfl rfl rfl rfl (fun _ => ?_)) | refine Pw.list (Pw.build rfl rfl rfl rfl ?_) | refine Pw.list (Pw.ld rfl inferInstance rfl rfl rfl ?_) | refine Pw.list (Pw.sto rfl rfl inferInstance rfl rfl rfl rfl rfl inferInstance rfl ?_))
        refine Pw.re (d := 33) (v' := .int .i64 ((k + 1 : Nat) : Int)) rfl (congrArg (Value.int .i64) (i64s (n := 100000) (by omega) (by omega))) ?_
        exact Pw.again (k + 1, l2, s2) ⟨by show k + 1 ≤ cs.length; omega, by show l2.map shK = _; rw [hl2, hrow, hso]; simp, hs2, by show l2.length ≤ i * 32 + (k + 1); omega⟩ (by show cs.length - (k + 1) < cs.length - k; omega) ⟨rfl, rfl, rfl, rfl, rfl, rfl, rfl, rfl, rfl, rfl, trivial⟩ rfl (fun w h => allCons (hv w h : AllS l2 w) (allCons (Blks.h (L := []) (g := g5) w (fun b hb => by cases hb) h) (allCons (Blks.h (L := []) (g := gr) w (fun b hb => by cases hb) h) (allCons (Blks.h (L := []) (g := gl) w (fun b hb => by cases hb) h) (allCons (Blks.h (L := []) (g := ge) w (fun b hb => by cases hb) h) (allCons (hv w h) (allCons (hv w h) (allCons (hv w h) (allCons (hv w h) (allCons (hv w h) (allCons (hv w h) allNil)))))))))))
      · rw [hf] at hso
        obtain ⟨e1, e2⟩ := hS.e0 i (edE e) hed
        obtain ⟨b0, b1, b2, b3⟩ := e1 (t.1, t.2.1, t.2.2.1) (List.mem_map_of_mem ht)
        have hq1 := hS.at i
        have hq2 := e2 (List.ne_nil_of_mem (List.mem_map_of_mem (f := fun t : Ee => (t.1, t.2.1, t.2.2.1)) ht))
        rw [hqa] at hq1 hq2
        dsimp only at b0 b1 b2 b3
        have hs0 := hV.s i
        have hsv : st vs i ≤ 18446744073709551615 := Int.le_trans (st_le hV hiv) hV.t
        rw [hst] at hs0 hsv
        have hSD := hS.d0
        have hSD1 := hS.d1
        have hp2 := pw_two
        have c0 : 0 ≤ t.2.1 * v.st := Int.mul_nonneg b0 hs0
        have c1 : t.2.1 * v.st < pw (a + 2) := mul_lt_pw b0 b1 (by omega) hs0
        have d0 : 0 ≤ t.2.1 * v.st * S.D := Int.mul_nonneg c0 (by omega)
        have d1 : t.2.1 * v.st * S.D < pw (a + 2 + a) := mul_lt_pw c0 c1 hSD1 (by omega)
        have f0 : 0 < t.2.2.1 * q := Int.mul_pos b2 hq2
        have f1 : t.2.2.1 * q < pw (a + a) := mul_lt_pw (by omega) b3 hq1.2 hq1.1
        refine Pw.re (d := 46) (v' := .tuple #[.agg #[sl (natL t.2.1) t.2.2.2.1, sl (natL t.2.2.1) t.2.2.2.2], .bool true]) rfl (by unfold mval; rw [hk0]; rfl) ?_
        repeat (first | (with_reducible first | refine Pw.seq ?_ | refine Pw.region ?_ | refine Pw.nil ?_ | refine Pw.then_ ?_ | refine Pw.skip ?_ | refine Pw.block ?_ | refine Pw.exit ?_ | refine Pw.inX ?_ | refine Pw.inN ?_ | refine Pw.inR ?_ | refine Pw.thenX ?_ | refine Pw.thenR ?_ | refine Pw.ret ?_) | refine Pw.list (Pw.pure rfl rfl rfl ?_) | refine Pw.inY rfl ?_ | refine Pw.list (Pw.off rfl rfl ?_) | refine Pw.condT rfl ?_ | refine Pw.condF rfl ?_ | refine Pw.list (Pw.box rfl rfl rfl rfl (fun _ => ?_)) | refine Pw.list (Pw.alloc rfl rfl rfl rfl rfl (fun _ => ?_)) | refine Pw.list (Pw.build rfl rfl rfl rfl ?_) | refine Pw.list (Pw.ld rfl inferInstance rfl rfl rfl ?_) | refine Pw.list (Pw.sto rfl rfl inferInstance rfl rfl rfl rfl rfl inferInstance rfl ?_))
        refine freeHead ?_
        repeat (first | (with_reducible first | refine Pw.seq ?_ | refine Pw.region ?_ | refine Pw.nil ?_ | refine Pw.then_ ?_ | refine Pw.skip ?_ | refine Pw.block ?_ | refine Pw.exit ?_ | refine Pw.inX ?_ | refine Pw.inN ?_ | refine Pw.inR ?_ | refine Pw.thenX ?_ | refine Pw.thenR ?_ | refine Pw.ret ?_) | refine Pw.list (Pw.pure rfl rfl rfl ?_) | refine Pw.inY rfl ?_ | refine Pw.list (Pw.off rfl rfl ?_) | refine Pw.condT rfl ?_ | refine Pw.condF rfl ?_ | refine Pw.list (Pw.box rfl rfl rfl rfl (fun _ => ?_)) | refine Pw.list (Pw.alloc rfl rfl rfl rfl rfl (fun _ => ?_)) | refine Pw.list (Pw.build rfl rfl rfl rfl ?_) | refine Pw.list (Pw.ld rfl inferInstance rfl rfl rfl ?_) | refine Pw.list (Pw.sto rfl rfl inferInstance rfl rfl rfl rfl rfl inferInstance rfl ?_))
        refine Pw.drawnG mixed rfl rfl ?_
        refine Pw.takeP 0 (nb 15 1) rfl rfl rfl rfl (by kernel_rfl) np sf ?_
        refine Pw.takeF 1 (nb 15 3) rfl rfl inferInstance rfl rfl rfl (by kernel_rfl) np sf ?_
        refine Pw.takeP 2 (nb 15 7) rfl rfl rfl rfl (by kernel_rfl) np sf ?_
        refine Pw.takeF 3 (nb 15 15) rfl rfl inferInstance rfl rfl rfl (by kernel_rfl) np sf ?_
        refine Pw.takeP 5 (nb 15 47) rfl rfl rfl rfl (by kernel_rfl) np sf ?_
        refine Pw.takeP 6 (nb 15 111) rfl rfl rfl rfl (by kernel_rfl) np sf ?_
        refine Pw.takeP 7 (nb 15 239) rfl rfl rfl rfl (by kernel_rfl) np sf ?_
        refine Pw.takeF 8 (nb 15 495) rfl rfl inferInstance rfl rfl rfl (by kernel_rfl) np sf ?_
        refine Pw.one 4 (nb 15 511) rfl (by kernel_rfl) ?_
        refine Pw.call (times_ct (natL t.2.1) t.2.2.2.1 v.st (natL_lm _) (natL_la b0 b1 (by omega))) rfl rfl rfl (by kernel_rfl) rfl rfl (fun w h => ((hv w h : AllE es w) e hem t ht).1) ?_
        intro zp _
        rw [mul_n b0 b1 (by omega) hs0 hsv]
        refine Pw.held sf ?_
        refine Pw.one 9 (nb 15 1023) rfl (by kernel_rfl) ?_
        refine Pw.call (Mul_ct (natL (t.2.1 * v.st)) (natL S.D) zp zd (natL_lm _) (natL_lm _) (natL_la c0 c1 (by omega)) (natL_la (by omega) hSD1 (by omega))) rfl rfl rfl (by kernel_rfl) rfl rfl (fun w h => ⟨(hv w h), (hv w h)⟩) ?_
        intro zq _
        rw [mul_nn c0 c1 (by omega) hSD1 (by omega)]
        refine Pw.held sf ?_
        refine Pw.takeP 10 (nb 15 2047) rfl rfl rfl rfl (by kernel_rfl) np sf ?_
        refine Pw.takeP 11 (nb 15 4095) rfl rfl rfl rfl (by kernel_rfl) np sf ?_
        refine Pw.takeP 12 (nb 15 8191) rfl rfl rfl rfl (by kernel_rfl) np sf ?_
        refine Pw.takeP 13 (nb 15 16383) rfl rfl rfl rfl (by kernel_rfl) np sf ?_
        refine Pw.takeP 14 (nb 15 32767) rfl rfl rfl rfl (by kernel_rfl) np sf ?_
        refine Pw.done (by kernel_rfl) ?_
        skip
        repeat (first | (with_reducible first | refine Pw.seq ?_ | refine Pw.region ?_ | refine Pw.nil ?_ | refine Pw.then_ ?_ | refine Pw.skip ?_ | refine Pw.block ?_ | refine Pw.exit ?_ | refine Pw.inX ?_ | refine Pw.inN ?_ | refine Pw.inR ?_ | refine Pw.thenX ?_ | refine Pw.thenR ?_ | refine Pw.ret ?_) | refine Pw.list (Pw.pure rfl rfl rfl ?_) | refine Pw.inY rfl ?_ | refine Pw.list (Pw.off rfl rfl ?_) | refine Pw.condT rfl ?_ | refine Pw.condF rfl ?_ | refine Pw.list (Pw.box rfl rfl rfl rfl (fun _ => ?_)) | refine Pw.list (Pw.alloc rfl rfl rfl rfl rfl (fun _ => ?_)) | refine Pw.list (Pw.build rfl rfl rfl rfl ?_) | refine Pw.list (Pw.ld rfl inferInstance rfl rfl rfl ?_) | refine Pw.list (Pw.sto rfl rfl inferInstance rfl rfl rfl rfl rfl inferInstance rfl ?_))
        refine Pw.drawnG mixed rfl rfl ?_
        refine Pw.takeP 0 (nb 15 1) rfl rfl rfl rfl (by kernel_rfl) np sf ?_
        refine Pw.takeF 1 (nb 15 3) rfl rfl inferInstance rfl rfl rfl (by kernel_rfl) np sf ?_
        refine Pw.takeP 2 (nb 15 7) rfl rfl rfl rfl (by kernel_rfl) np sf ?_
        refine Pw.takeP 3 (nb 15 15) rfl rfl rfl rfl (by kernel_rfl) np sf ?_
        refine Pw.takeP 4 (nb 15 31) rfl rfl rfl rfl (by kernel_rfl) np sf ?_
        refine Pw.takeF 5 (nb 15 63) rfl rfl inferInstance rfl rfl rfl (by kernel_rfl) np sf ?_
        refine Pw.takeP 6 (nb 15 127) rfl rfl rfl rfl (by kernel_rfl) np sf ?_
        refine Pw.takeIx 7 (nb 15 255) rfl rfl rfl rfl rfl (by first | assumption | omega) (by first | assumption | omega) rfl rfl (by kernel_rfl) np sf ?_
        refine Pw.takeLO 8 (nb 15 511) rfl rfl inferInstance (cellN_at hp) rfl rfl rfl (by kernel_rfl) np sf ?_
        refine Pw.re (d := 73) (v' := sl (natL q) p.2) rfl (by rw [hpq]) ?_
        refine Pw.one 9 (nb 15 1023) rfl (by kernel_rfl) ?_
        refine Pw.call (Mul_ct (natL t.2.2.1) (natL q) t.2.2.2.2 p.2 (natL_lm _) (natL_lm _) (natL_la (by omega) b3 (by omega)) (natL_la hq1.1 hq1.2 (by omega))) rfl rfl rfl (by kernel_rfl) rfl rfl (fun w h => ⟨((hv w h : AllE es w) e hem t ht).2, by have h1 := (hv w h : AllN ns w) p hpm; unfold heldN at h1; rwa [hpq] at h1⟩) ?_
        intro zr _
        rw [mul_nn (by omega) b3 hq1.1 hq1.2 (by omega)]
        refine Pw.held sf ?_
        refine Pw.takeP 10 (nb 15 2047) rfl rfl rfl rfl (by kernel_rfl) np sf ?_
        refine Pw.takeP 11 (nb 15 4095) rfl rfl rfl rfl (by kernel_rfl) np sf ?_
        refine Pw.takeP 12 (nb 15 8191) rfl rfl rfl rfl (by kernel_rfl) np sf ?_
        refine Pw.takeP 13 (nb 15 16383) rfl rfl rfl rfl (by kernel_rfl) np sf ?_
        refine Pw.takeP 14 (nb 15 32767) rfl rfl rfl rfl (by kernel_rfl) np sf ?_
        refine Pw.done (by kernel_rfl) ?_
        skip
        repeat (first | (with_reducible first | refine Pw.seq ?_ | refine Pw.region ?_ | refine Pw.nil ?_ | refine Pw.then_ ?_ | refine Pw.skip ?_ | refine Pw.block ?_ | refine Pw.exit ?_ | refine Pw.inX ?_ | refine Pw.inN ?_ | refine Pw.inR ?_ | refine Pw.thenX ?_ | refine Pw.thenR ?_ | refine Pw.ret ?_) | refine Pw.list (Pw.pure rfl rfl rfl ?_) | refine Pw.inY rfl ?_ | refine Pw.list (Pw.off rfl rfl ?_) | refine Pw.condT rfl ?_ | refine Pw.condF rfl ?_ | refine Pw.list (Pw.box rfl rfl rfl rfl (fun _ => ?_)) | refine Pw.list (Pw.alloc rfl rfl rfl rfl rfl (fun _ => ?_)) | refine Pw.list (Pw.build rfl rfl rfl rfl ?_) | refine Pw.list (Pw.ld rfl inferInstance rfl rfl rfl ?_) | refine Pw.list (Pw.sto rfl rfl inferInstance rfl rfl rfl rfl rfl inferInstance rfl ?_))
        refine Pw.re (d := 78) (v' := sl (natL (t.2.1 * v.st * S.D)) zq) rfl rfl ?_
        refine Pw.re (d := 79) (v' := sl (natL (t.2.2.1 * q)) zr) rfl rfl ?_
        refine Pw.list (Pw.call (Make_ct (natL (t.2.1 * v.st * S.D)) (natL (t.2.2.1 * q)) zq zr (natL_lm _) (natL_lm _) (natL_la d0 d1 (by omega)) (natL_la (by omega) f1 (by omega))) rfl rfl rfl (by kernel_rfl) rfl rfl (fun w h => ⟨(hv w h), (hv w h)⟩) ?_)
        intro zx _
        rw [make_nn d0 d1 (by omega) f0 f1 (by omega)]
        replace hso : shOne vs S i c = some (v.id, c, qn (Rat.divInt (t.2.1 * v.st * S.D) (t.2.2.1 * q)), qd (Rat.divInt (t.2.1 * v.st * S.D) (t.2.2.1 * q))) := hso
        generalize Rat.divInt (t.2.1 * v.st * S.D) (t.2.2.1 * q) = x at hso ⊢
        repeat (first | (with_reducible first | refine Pw.seq ?_ | refine Pw.region ?_ | refine Pw.nil ?_ | refine Pw.then_ ?_ | refine Pw.skip ?_ | refine Pw.block ?_ | refine Pw.exit ?_ | refine Pw.inX ?_ | refine Pw.inN ?_ | refine Pw.inR ?_ | refine Pw.thenX ?_ | refine Pw.thenR ?_ | refine Pw.ret ?_) | refine Pw.list (Pw.pure rfl rfl rfl ?_) | refine Pw.inY rfl ?_ | refine Pw.list (Pw.off rfl rfl ?_) | refine Pw.condT rfl ?_ | refine Pw.condF rfl ?_ | refine Pw.list (Pw.box rfl rfl rfl rfl (fun _ => ?_)) | refine Pw.list (Pw.alloc rfl rfl rfl rfl rfl (fun _ => ?_)) | refine Pw.list (Pw.build rfl rfl rfl rfl ?_) | refine Pw.list (Pw.ld rfl inferInstance rfl rfl rfl ?_) | refine Pw.list (Pw.sto rfl rfl inferInstance rfl rfl rfl rfl rfl inferInstance rfl ?_))
        refine freeHead ?_
        repeat (first | (with_reducible first | refine Pw.seq ?_ | refine Pw.region ?_ | refine Pw.nil ?_ | refine Pw.then_ ?_ | refine Pw.skip ?_ | refine Pw.block ?_ | refine Pw.exit ?_ | refine Pw.inX ?_ | refine Pw.inN ?_ | refine Pw.inR ?_ | refine Pw.thenX ?_ | refine Pw.thenR ?_ | refine Pw.ret ?_) | refine Pw.list (Pw.pure rfl rfl rfl ?_) | refine Pw.inY rfl ?_ | refine Pw.list (Pw.off rfl rfl ?_) | refine Pw.condT rfl ?_ | refine Pw.condF rfl ?_ | refine Pw.list (Pw.box rfl rfl rfl rfl (fun _ => ?_)) | refine Pw.list (Pw.alloc rfl rfl rfl rfl rfl (fun _ => ?_)) | refine Pw.list (Pw.build rfl rfl rfl rfl ?_) | refine Pw.list (Pw.ld rfl inferInstance rfl rfl rfl ?_) | refine Pw.list (Pw.sto rfl rfl inferInstance rfl rfl rfl rfl rfl inferInstance rfl ?_))
        refine Pw.list (Pw.lit14 rfl rfl rfl rfl rfl rfl rfl rfl rfl (fun gs0 => freeHead ?_))
        refine Pw.list (Pw.push (s := s2) (m := l2.length) (cells := cellsS l2) (news := encS ⟨v.id, c, qn x, qd x, zx⟩) (L0 := []) rfl rfl rfl rfl rfl rfl rfl hs2 rfl (encS_one _) (fun w hs j u hu => by
          have h1 : w.heap[gs0]? = some (row (encS ⟨v.id, c, qn x, qd x, zx⟩) 58) := fact0 hs.all
          rw [add_none, cell_of_blk h1]
          simpa using hu) (by omega) (by simp only [maxLen]; omega) (by show (l2.length + 1) * 64 ≤ _; omega) rfl rfl (fun s3 hs3 => ?_))
        rw [← cellsS_snoc] at hs3 ⊢
        have hlen : (l2 ++ [(⟨v.id, c, qn x, qd x, zx⟩ : Shr)]).length = l2.length + 1 := by simp
        rw [← hlen] at hs3 ⊢
        repeat (first | (with_reducible first | refine Pw.seq ?_ | refine Pw.region ?_ | refine Pw.nil ?_ | refine Pw.then_ ?_ | refine Pw.skip ?_ | refine Pw.block ?_ | refine Pw.exit ?_ | refine Pw.inX ?_ | refine Pw.inN ?_ | refine Pw.inR ?_ | refine Pw.thenX ?_ | refine Pw.thenR ?_ | refine Pw.ret ?_) | refine Pw.list (Pw.pure rfl rfl rfl ?_) | refine Pw.inY rfl ?_ | refine Pw.list (Pw.off rfl rfl ?_) | refine Pw.condT rfl ?_ | refine Pw.condF rfl ?_ | refine Pw.list (Pw.box rfl rfl rfl rfl (fun _ => ?_)) | refine Pw.list (Pw.alloc rfl rfl rfl rfl rfl (fun _ => ?_)) | refine Pw.list (Pw.build rfl rfl rfl rfl ?_) | refine Pw.list (Pw.ld rfl inferInstance rfl rfl rfl ?_) | refine Pw.list (Pw.sto rfl rfl inferInstance rfl rfl rfl rfl rfl inferInstance rfl ?_))
        refine Pw.re (d := 33) (v' := .int .i64 ((k + 1 : Nat) : Int)) rfl (congrArg (Value.int .i64) (i64s (n := 100000) (by omega) (by omega))) ?_
        exact Pw.again (k + 1, l2 ++ [⟨v.id, c, qn x, qd x, zx⟩], s3) ⟨by show k + 1 ≤ cs.length; omega, by show (l2 ++ [(⟨v.id, c, qn x, qd x, zx⟩ : Shr)]).map shK = _; rw [List.map_append, hl2, hrow, hso]; simp, hs3, by show (l2 ++ [(⟨v.id, c, qn x, qd x, zx⟩ : Shr)]).length ≤ i * 32 + (k + 1); omega⟩ (by show cs.length - (k + 1) < cs.length - k; omega) ⟨rfl, rfl, rfl, rfl, rfl, rfl, rfl, rfl, rfl, rfl, trivial⟩ rfl (fun w h => allCons (fun s hs => by
          rcases List.mem_append.1 hs with hs | hs
          · exact (hv w h : AllS l2 w) s hs
          · rw [List.mem_singleton.1 hs]; exact (hv w h : R2 (qn x) (qd x) zx w)) (allCons (Blks.h (L := []) (g := g5) w (fun b hb => by cases hb) h) (allCons (Blks.h (L := []) (g := gr) w (fun b hb => by cases hb) h) (allCons (Blks.h (L := []) (g := gl) w (fun b hb => by cases hb) h) (allCons (Blks.h (L := []) (g := ge) w (fun b hb => by cases hb) h) (allCons (hv w h) (allCons (hv w h) (allCons (hv w h) (allCons (hv w h) (allCons (hv w h) (allCons (hv w h) allNil)))))))))))
    · obtain rfl : k = cs.length := by omega
      rw [List.take_length] at hl2
      repeat (first | (with_reducible first | refine Pw.seq ?_ | refine Pw.region ?_ | refine Pw.nil ?_ | refine Pw.then_ ?_ | refine Pw.skip ?_ | refine Pw.block ?_ | refine Pw.exit ?_ | refine Pw.inX ?_ | refine Pw.inN ?_ | refine Pw.inR ?_ | refine Pw.thenX ?_ | refine Pw.thenR ?_ | refine Pw.ret ?_) | refine Pw.list (Pw.pure rfl rfl rfl ?_) | refine Pw.inY rfl ?_ | refine Pw.list (Pw.off rfl rfl ?_) | refine Pw.condT rfl ?_ | refine Pw.condF rfl ?_ | refine Pw.list (Pw.box rfl rfl rfl rfl (fun _ => ?_)) | refine Pw.list (Pw.alloc rfl rfl rfl rfl rfl (fun _ => ?_)) | refine Pw.list (Pw.build rfl rfl rfl rfl ?_) | refine Pw.list (Pw.ld rfl inferInstance rfl rfl rfl ?_) | refine Pw.list (Pw.sto rfl rfl inferInstance rfl rfl rfl rfl rfl inferInstance rfl ?_))
      refine Pw.re (d := 22) (v' := .int .i64 ((i + 1 : Nat) : Int)) rfl (congrArg (Value.int .i64) (i64s (n := 100000) (by omega) (by omega))) ?_
      exact Pw.again (i + 1, l2, s2) ⟨by show i + 1 ≤ vs.length; omega, by show l2.map shK = _; rw [hl2, shTo_succ], hs2, by show l2.length ≤ (i + 1) * 32; omega⟩ (by show vs.length - (i + 1) < vs.length - i; omega) ⟨rfl, rfl, rfl, rfl, rfl, trivial⟩ rfl (fun w h => allCons (hv w h : AllS l2 w) (allCons (Blks.h (L := []) (g := gr) w (fun b hb => by cases hb) h) (allCons (Blks.h (L := []) (g := gl) w (fun b hb => by cases hb) h) (allCons (Blks.h (L := []) (g := ge) w (fun b hb => by cases hb) h) (allCons (hv w h) (allCons (hv w h) (allCons (hv w h) (allCons (hv w h) (allCons (hv w h) (allCons (hv w h) allNil))))))))))
  · obtain rfl : i = vs.length := by omega
    obtain _ | ⟨gs, caps, exs⟩ := s
    · have h0 : l = [] := List.eq_nil_of_length_eq_zero hs.1
      subst h0
      repeat (first | (with_reducible first | refine Pw.seq ?_ | refine Pw.region ?_ | refine Pw.nil ?_ | refine Pw.then_ ?_ | refine Pw.skip ?_ | refine Pw.block ?_ | refine Pw.exit ?_ | refine Pw.inX ?_ | refine Pw.inN ?_ | refine Pw.inR ?_ | refine Pw.thenX ?_ | refine Pw.thenR ?_ | refine Pw.ret ?_) | refine Pw.list (Pw.pure rfl rfl rfl ?_) | refine Pw.inY rfl ?_ | refine Pw.list (Pw.off rfl rfl ?_) | refine Pw.condT rfl ?_ | refine Pw.condF rfl ?_ | refine Pw.list (Pw.box rfl rfl rfl rfl (fun _ => ?_)) | refine Pw.list (Pw.alloc rfl rfl rfl rfl rfl (fun _ => ?_)) | refine Pw.list (Pw.build rfl rfl rfl rfl ?_) | refine Pw.list (Pw.ld rfl inferInstance rfl rfl rfl ?_) | refine Pw.list (Pw.sto rfl rfl inferInstance rfl rfl rfl rfl rfl inferInstance rfl ?_))
      exact Pw.ret_ (x := ([], (none, 0))) (.tmp rfl .nil) rfl hl (fun w h => Rows.nil _ _ _ _ _)
    · refine Pw.eqL (L' := [⟨gs, row (cellsS l ++ exs) 58⟩]) rfl (freeHead ?_)
      repeat (first | (with_reducible first | refine Pw.seq ?_ | refine Pw.region ?_ | refine Pw.nil ?_ | refine Pw.then_ ?_ | refine Pw.skip ?_ | refine Pw.block ?_ | refine Pw.exit ?_ | refine Pw.inX ?_ | refine Pw.inN ?_ | refine Pw.inR ?_ | refine Pw.thenX ?_ | refine Pw.thenR ?_ | refine Pw.ret ?_) | refine Pw.list (Pw.pure rfl rfl rfl ?_) | refine Pw.inY rfl ?_ | refine Pw.list (Pw.off rfl rfl ?_) | refine Pw.condT rfl ?_ | refine Pw.condF rfl ?_ | refine Pw.list (Pw.box rfl rfl rfl rfl (fun _ => ?_)) | refine Pw.list (Pw.alloc rfl rfl rfl rfl rfl (fun _ => ?_)) | refine Pw.list (Pw.build rfl rfl rfl rfl ?_) | refine Pw.list (Pw.ld rfl inferInstance rfl rfl rfl ?_) | refine Pw.list (Pw.sto rfl rfl inferInstance rfl rfl rfl rfl rfl inferInstance rfl ?_))
      exact Pw.ret_ (x := (l, (some ⟨gs, 0, none⟩, caps))) (.tmp rfl .nil) rfl hl (fun w h => rows_of_row (ex := exs) (fact0 h) (fun y _ => rfl) (hv w h : AllS l w) hs.2.1 (by simp only [maxLen]; omega) (by omega))
end Go.Proofs.Wk
/- Elections: the approvers as they grow, plain. -/
namespace Go.Proofs.Wk
open Go.RowKit
set_option maxRecDepth 100000
set_option linter.unusedVariables false
set_option linter.unusedSimpArgs false
abbrev Ae := Int × Gr × List Nat
abbrev cellsI (l : List Nat) : List Value := (nI l).map (Value.int .i64)
abbrev mA (A : List Ae) : List (Int × Value) := A.map (fun e => (e.1, gv e.2.1 e.2.2.length))
abbrev gA (A : List Ae) : List Blk := A.flatMap (fun e => gL e.2.1 (cellsI e.2.2) 3)
structure AOk (A : List Ae) : Prop where
  nd : (A.map Prod.fst).Nodup
  ok : ∀ e ∈ A, gOk e.2.1 (cellsI e.2.2) e.2.2.length 1
def apA (A : List Ae) (c : Int) : List Nat := ((A.find? (fun e => decide (e.1 = c))).map (fun e => e.2.2)).getD []
theorem cellsI_snoc (l : List Nat) (i : Nat) : cellsI (l ++ [i]) = cellsI l ++ [.int .i64 (i : Int)] := by simp [nI]
theorem find_cases (A : List Ae) (c : Int) : ((∀ e ∈ A, e.1 ≠ c) ∧ A.find? (fun e => decide (e.1 = c)) = none) ∨ (∃ q e, A[q]? = some e ∧ e.1 = c ∧ A.find? (fun e => decide (e.1 = c)) = some e ∧ ∀ (r : Nat) (d : Ae), r < q → A[r]? = some d → d.1 ≠ c) := by
  induction A with
  | nil => exact .inl ⟨fun e he => (by cases he), rfl⟩
  | cons d A ih =>
    by_cases h : d.1 = c
    · refine .inr ⟨0, d, rfl, h, ?_, fun r _ hr => absurd hr (Nat.not_lt_zero r)⟩
      rw [List.find?_cons, decide_eq_true h]
    · have e1 : (d :: A).find? (fun e => decide (e.1 = c)) = A.find? (fun e => decide (e.1 = c)) := by rw [List.find?_cons, decide_eq_false h]
      rw [e1]
      rcases ih with ⟨h1, h2⟩ | ⟨q, e, h1, h2, h3, h4⟩
      · refine .inl ⟨fun e he => ?_, h2⟩
        rcases List.mem_cons.1 he with rfl | he
        · exact h
        · exact h1 e he
      · refine .inr ⟨q + 1, e, h1, h2, h3, fun r x hr hx => ?_⟩
        cases r with
        | zero => rw [← Option.some.inj hx]; exact h
        | succ r => exact h4 r x (by omega) hx
theorem lkp_mA {c : Int} : ∀ {A : List Ae} {i q : Nat} {e : Ae}, A[q]? = some e → e.1 = c → (∀ (r : Nat) (d : Ae), r < q → A[r]? = some d → d.1 ≠ c) → lkp c (mA A) i = some (i + q, gv e.2.1 e.2.2.length)
  | [], i, q, e, h, _, _ => by cases h
  | d :: A, i, 0, e, h, he, _ => by
    have : d = e := Option.some.inj h
    subst this
    show (if c = d.1 then _ else _) = _
    rw [if_pos he.symm]; rfl
  | d :: A, i, q + 1, e, h, he, hb => by
    show (if c = d.1 then _ else _) = _
    rw [if_neg (fun e' => hb 0 d (Nat.succ_pos q) rfl e'.symm)]
    rw [lkp_mA (A := A) (i := i + 1) (q := q) h he (fun r x hr hx => hb (r + 1) x (by omega) hx)]
    rw [show i + 1 + q = i + (q + 1) by omega]
/-- An entry's block ahead, the others behind. -/
theorem permA : ∀ {A : List Ae} {q : Nat} {e : Ae}, A[q]? = some e → (gA A).Perm (gL e.2.1 (cellsI e.2.2) 3 ++ (gA (A.take q) ++ gA (A.drop (q + 1))))
  | [], q, e, h => by cases h
  | d :: A, 0, e, h => by
    have : d = e := Option.some.inj h
    subst this
    simp [gA]
  | d :: A, q + 1, e, h => by
    have ih := permA (A := A) (q := q) h
    show (gL d.2.1 (cellsI d.2.2) 3 ++ gA A).Perm (gL e.2.1 (cellsI e.2.2) 3 ++ ((gL d.2.1 (cellsI d.2.2) 3 ++ gA (A.take q)) ++ gA (A.drop (q + 1))))
    refine (List.Perm.append_left _ ih).trans ?_
    rw [List.append_assoc (gL d.2.1 _ _)]
    exact List.perm_append_comm_assoc _ _ _
theorem permA_set {A : List Ae} {q : Nat} {e f : Ae} (h : A[q]? = some e) : (gL f.2.1 (cellsI f.2.2) 3 ++ (gA (A.take q) ++ gA (A.drop (q + 1)))).Perm (gA (A.set q f)) := by
  have hq : q < A.length := (List.getElem?_eq_some_iff.1 h).1
  have h1 : (A.set q f)[q]? = some f := by rw [List.getElem?_set_self hq]
  have h2 := permA h1
  rw [List.take_set_of_le (Nat.le_refl q), List.drop_set_of_lt (Nat.lt_succ_self q)] at h2
  exact h2.symm
theorem apA_of {A : List Ae} {c : Int} {e : Ae} (h : A.find? (fun e => decide (e.1 = c)) = some e) : apA A c = e.2.2 := by unfold apA; rw [h]; rfl
theorem apA_none {A : List Ae} {c : Int} (h : A.find? (fun e => decide (e.1 = c)) = none) : apA A c = [] := by unfold apA; rw [h]; rfl
theorem apA_new {A : List Ae} {c : Int} {s : Gr} {i : Nat} (h : ∀ e ∈ A, e.1 ≠ c) (d : Int) : apA (A ++ [(c, s, [i])]) d = if d = c then [i] else apA A d := by
  unfold apA
  rw [List.find?_append]
  by_cases hd : d = c
  · subst hd
    have h1 : A.find? (fun e => decide (e.1 = d)) = none := List.find?_eq_none.2 fun e he => by simpa using h e he
    rw [h1, if_pos rfl]
    simp
  · rw [if_neg hd]
    cases A.find? (fun e => decide (e.1 = d)) with
    | some e => rfl
    | none => simp [List.find?_cons, decide_eq_false (fun e : c = d => hd e.symm)]
theorem apA_set {c : Int} {s : Gr} {l : List Nat} (d : Int) : ∀ {A : List Ae} {q : Nat} {e : Ae}, A[q]? = some e → e.1 = c → (∀ (r : Nat) (x : Ae), r < q → A[r]? = some x → x.1 ≠ c) → apA (A.set q (c, s, l)) d = if d = c then l else apA A d
  | [], q, e, h, _, _ => by cases h
  | x :: A, 0, e, h, he, _ => by
    have : x = e := Option.some.inj h
    subst this
    show apA ((c, s, l) :: A) d = _
    unfold apA
    by_cases hd : d = c
    · rw [if_pos hd, List.find?_cons, decide_eq_true hd.symm]; rfl
    · rw [if_neg hd, List.find?_cons, decide_eq_false (fun e : c = d => hd e.symm), List.find?_cons, decide_eq_false (fun e' : x.1 = d => hd (e'.symm.trans he))]
  | x :: A, q + 1, e, h, he, hb => by
    have ih := apA_set (s := s) (l := l) d (A := A) (q := q) h he (fun r y hr hy => hb (r + 1) y (by omega) hy)
    have hx : x.1 ≠ c := hb 0 x (Nat.succ_pos q) rfl
    show apA (x :: A.set q (c, s, l)) d = _
    unfold apA at ih ⊢
    rw [List.find?_cons, List.find?_cons]
    by_cases hxd : x.1 = d
    · rw [decide_eq_true hxd, if_neg (fun e' : d = c => hx (hxd.trans e'))]
    · rw [decide_eq_false hxd]; exact ih
theorem aok_nil : AOk [] := ⟨List.nodup_nil, fun e he => (by cases he)⟩
theorem aok_new {A : List Ae} (h : AOk A) {c : Int} {s : Gr} {i : Nat} (hc : ∀ e ∈ A, e.1 ≠ c) (hs : gOk s (cellsI [i]) 1 1) : AOk (A ++ [(c, s, [i])]) := by
  refine ⟨?_, fun e he => ?_⟩
  · rw [List.map_append, List.nodup_append]
    refine ⟨h.nd, by simp, fun x hx y hy => ?_⟩
    obtain ⟨e, he, rfl⟩ := List.mem_map.1 hx
    have : y = c := by simpa using hy
    subst this
    exact hc e he
  · rcases List.mem_append.1 he with he | he
    · exact h.ok e he
    · rw [List.mem_singleton.1 he]; exact hs
theorem aok_set {A : List Ae} (h : AOk A) {q : Nat} {e : Ae} (hq : A[q]? = some e) {s : Gr} {l : List Nat} (hs : gOk s (cellsI l) l.length 1) : AOk (A.set q (e.1, s, l)) := by
  refine ⟨?_, fun f hf => ?_⟩
  · rw [List.map_set, set_same (by rw [List.getElem?_map, hq]; rfl)]; exact h.nd
  · rcases List.mem_or_eq_of_mem_set hf with hf | rfl
    · exact h.ok f hf
    · exact hs
/-! ### What they should be -/
def apI (vs : List Vtr) (cs : List Int) (i : Nat) (c : Int) : List Nat := if c ∈ cs then (List.range i).filter (fun i => decide (0 < st vs i) && decide (c ∈ pks vs i)) else []
def apK (vs : List Vtr) (cs : List Int) (i k : Nat) (c : Int) : List Nat := apI vs cs i c ++ (if 0 < st vs i ∧ c ∈ cs ∧ c ∈ (pks vs i).take k then [i] else [])
theorem apI_zero (vs : List Vtr) (cs : List Int) (c : Int) : apI vs cs 0 c = [] := by unfold apI; split <;> rfl
theorem apI_all {vs : List Vtr} {cs : List Int} {c : Int} (h : c ∈ cs) : apI vs cs vs.length c = ap vs c := by unfold apI ap; rw [if_pos h]
theorem apK_zero (vs : List Vtr) (cs : List Int) (i : Nat) (c : Int) : apK vs cs i 0 c = apI vs cs i c := by unfold apK; simp
theorem apK_all (vs : List Vtr) (cs : List Int) (i : Nat) (c : Int) : apK vs cs i (pks vs i).length c = apI vs cs (i + 1) c := by
  unfold apK apI
  rw [List.take_length, List.range_succ, List.filter_append]
  by_cases h : c ∈ cs
  · rw [if_pos h, if_pos h]
    congr 1
    by_cases h1 : 0 < st vs i <;> by_cases h2 : c ∈ pks vs i <;> simp [h, h1, h2]
  · rw [if_neg h, if_neg h, if_neg (fun e => h e.2.1)]; rfl
theorem apK_yes {vs : List Vtr} {cs : List Int} {i k : Nat} {c : Int} (hk : (pks vs i)[k]? = some c) (hn : (pks vs i).Nodup) (hs : 0 < st vs i) (hc : c ∈ cs) (d : Int) : apK vs cs i (k + 1) d = if d = c then apK vs cs i k c ++ [i] else apK vs cs i k d := by
  unfold apK
  rw [take_snoc hk]
  have hnot : c ∉ (pks vs i).take k := fun hm => by
    have h1 : ((pks vs i).take k ++ [c]).Nodup := by rw [← take_snoc hk]; exact hn.sublist (List.take_sublist _ _)
    exact (List.nodup_append.1 h1).2.2 c hm c (List.mem_singleton.2 rfl) rfl
  by_cases hd : d = c
  · subst hd
    rw [if_pos rfl, if_pos ⟨hs, hc, List.mem_append_right _ (List.mem_singleton.2 rfl)⟩, if_neg (fun e => hnot e.2.2), List.append_nil]
  · rw [if_neg hd]
    have : (d ∈ (pks vs i).take k ++ [c]) ↔ d ∈ (pks vs i).take k := by
      rw [List.mem_append, List.mem_singleton]; exact ⟨fun e => e.elim id (fun e => absurd e hd), .inl⟩
    simp only [this]
theorem apK_no {vs : List Vtr} {cs : List Int} {i k : Nat} {c : Int} (hk : (pks vs i)[k]? = some c) (hno : ¬ (0 < st vs i ∧ c ∈ cs)) (d : Int) : apK vs cs i (k + 1) d = apK vs cs i k d := by
  unfold apK
  rw [take_snoc hk]
  congr 1
  by_cases hd : d = c
  · subst hd
    rw [if_neg (fun e => hno ⟨e.1, e.2.1⟩), if_neg (fun e => hno ⟨e.1, e.2.1⟩)]
  · have : (d ∈ (pks vs i).take k ++ [c]) ↔ d ∈ (pks vs i).take k := by
      rw [List.mem_append, List.mem_singleton]; exact ⟨fun e => e.elim id (fun e => absurd e hd), .inl⟩
    simp only [this]
end Go.Proofs.Wk
/- An election at one voter: phragmen.Elect walked. -/
namespace Go.Proofs.Wk
open Go.RowKit
set_option maxRecDepth 100000
set_option maxHeartbeats 8000000
attribute [local irreducible] Pw OpG
set_option linter.unusedVariables false
set_option linter.unusedSimpArgs false
abbrev s1 (z zv zc : Option Addr × Nat) : Sn := ⟨[⟨1, 5, [2], z⟩], zv, [2], zc⟩
theorem s1_formed (z zv zc : Option Addr × Nat) : formB (s1 z zv zc) = true := by
  refine formB_yes (by simp) (by simp) (by rfl) (fun j hj => ?_)
  obtain rfl : j = 0 := by simp at hj; exact hj
  rfl
theorem ofNe1 : ofN 1 = [1] := by rw [ofN_natL (by omega) (by omega), natL_one]
theorem natL5 : natL 5 = [5] := by
  unfold natL; rw [if_neg (by omega), show (5 : Int) / 4294967296 = 0 by decide, natL_zero]; rfl
theorem ofNe5 : ofN 5 = [5] := by rw [ofN_natL (by omega) (by omega), natL5]
theorem v1 : val [1] = 1 := by decide
theorem v5 : val [5] = 5 := by decide
theorem v0 : val [] = 0 := by decide
theorem f1 : fmB [1] = true := by decide
theorem f5 : fmB [5] = true := by decide
theorem f0 : fmB [] = true := by decide
theorem lm1 : Lm [1] := fun x hx => by rw [List.mem_singleton.1 hx]; omega
theorem lm5 : Lm [5] := fun x hx => by rw [List.mem_singleton.1 hx]; omega
theorem lm0 : Lm [] := fun x hx => by cases hx
theorem t15 : (mulS [1] (ofN 5)).1 = [5] := by
  rw [ofNe5, mulS_bd f1 f5, v1, v5, show (1 : Int) * 5 = 5 by decide, natL5, bd_ok (by simp)]
theorem t05 : (mulS [] (ofN 5)).1 = [] := by
  rw [ofNe5, mulS_bd f0 f5, v0, v5, show (0 : Int) * 5 = 0 by decide, natL_zero, bd_ok (by simp)]
theorem a10 : (addS [1] []).1 = [1] := by
  rw [addS_bd f1 f0, v0, v1, show (1 : Int) + 0 = 1 by decide, natL_one, bd_ok (by simp)]
theorem s10 : (subS [1] []).1 = [1] := by
  unfold subS
  rw [if_pos ⟨f1, f0⟩, v0, v1, if_neg (by decide), show (1 : Int) - 0 = 1 by decide, natL_one]
theorem IndexSeat0_ct (f : Value) : Ct Try.prog 73 #[.slice none 0 0, f] (fun _ => True) (fun _ : Unit => .int .i64 (-1)) Tt (fun _ _ => True) := by
  refine Ct.start Try.func73 rfl rfl (slots_of rfl slots2) (fun D w0 => ?_)
  repeat (first | (with_reducible first | refine Pw.seq ?_ | refine Pw.region ?_ | refine Pw.nil ?_ | refine Pw.then_ ?_ | refine Pw.skip ?_ | refine Pw.block ?_ | refine Pw.exit ?_ | refine Pw.inX ?_ | refine Pw.inN ?_ | refine Pw.inR ?_ | refine Pw.thenX ?_ | refine Pw.thenR ?_ | refine Pw.ret ?_) | refine Pw.list (Pw.pure rfl rfl rfl ?_) | refine Pw.inY rfl ?_ | refine Pw.list (Pw.off rfl rfl ?_) | refine Pw.condT rfl ?_ | refine Pw.condF rfl ?_ | refine Pw.list (Pw.box rfl rfl rfl rfl (fun _ => ?_)) | refine Pw.list (Pw.alloc rfl rfl rfl rfl rfl (fun _ => ?_)) | refine Pw.list (Pw.build rfl rfl rfl rfl ?_) | refine Pw.list (Pw.ld rfl inferInstance rfl rfl rfl ?_) | refine Pw.list (Pw.sto rfl rfl inferInstance rfl rfl rfl rfl rfl inferInstance rfl ?_))
  refine Pw.rounds 2 (Pw.round ?_)
  repeat (first | (with_reducible first | refine Pw.seq ?_ | refine Pw.region ?_ | refine Pw.nil ?_ | refine Pw.then_ ?_ | refine Pw.skip ?_ | refine Pw.block ?_ | refine Pw.exit ?_ | refine Pw.inX ?_ | refine Pw.inN ?_ | refine Pw.inR ?_ | refine Pw.thenX ?_ | refine Pw.thenR ?_ | refine Pw.ret ?_) | refine Pw.list (Pw.pure rfl rfl rfl ?_) | refine Pw.inY rfl ?_ | refine Pw.list (Pw.off rfl rfl ?_) | refine Pw.condT rfl ?_ | refine Pw.condF rfl ?_ | refine Pw.list (Pw.box rfl rfl rfl rfl (fun _ => ?_)) | refine Pw.list (Pw.alloc rfl rfl rfl rfl rfl (fun _ => ?_)) | refine Pw.list (Pw.build rfl rfl rfl rfl ?_) | refine Pw.list (Pw.ld rfl inferInstance rfl rfl rfl ?_) | refine Pw.list (Pw.sto rfl rfl inferInstance rfl rfl rfl rfl rfl inferInstance rfl ?_))
  exact Pw.ret_ (x := ()) (.tmp rfl .nil) rfl trivial (fun w h => by trivial)
theorem ContainsSeat0_ct (f : Value) : Ct Try.prog 50 #[.slice none 0 0, f] (fun _ => True) (fun _ : Unit => .bool false) Tt (fun _ _ => True) := by
  refine Ct.start Try.func50 rfl rfl (slots_of rfl slots2) (fun D w0 => ?_)
  repeat (first | (with_reducible first | refine Pw.seq ?_ | refine Pw.region ?_ | refine Pw.nil ?_ | refine Pw.then_ ?_ | refine Pw.skip ?_ | refine Pw.block ?_ | refine Pw.exit ?_ | refine Pw.inX ?_ | refine Pw.inN ?_ | refine Pw.inR ?_ | refine Pw.thenX ?_ | refine Pw.thenR ?_ | refine Pw.ret ?_) | refine Pw.list (Pw.pure rfl rfl rfl ?_) | refine Pw.inY rfl ?_ | refine Pw.list (Pw.off rfl rfl ?_) | refine Pw.condT rfl ?_ | refine Pw.condF rfl ?_ | refine Pw.list (Pw.box rfl rfl rfl rfl (fun _ => ?_)) | refine Pw.list (Pw.alloc rfl rfl rfl rfl rfl (fun _ => ?_)) | refine Pw.list (Pw.build rfl rfl rfl rfl ?_) | refine Pw.list (Pw.ld rfl inferInstance rfl rfl rfl ?_) | refine Pw.list (Pw.sto rfl rfl inferInstance rfl rfl rfl rfl rfl inferInstance rfl ?_))
  refine Pw.list (Pw.call (IndexSeat0_ct f) rfl rfl rfl (by kernel_rfl) rfl rfl (fun w h => trivial) ?_)
  intro _ _
  repeat (first | (with_reducible first | refine Pw.seq ?_ | refine Pw.region ?_ | refine Pw.nil ?_ | refine Pw.then_ ?_ | refine Pw.skip ?_ | refine Pw.block ?_ | refine Pw.exit ?_ | refine Pw.inX ?_ | refine Pw.inN ?_ | refine Pw.inR ?_ | refine Pw.thenX ?_ | refine Pw.thenR ?_ | refine Pw.ret ?_) | refine Pw.list (Pw.pure rfl rfl rfl ?_) | refine Pw.inY rfl ?_ | refine Pw.list (Pw.off rfl rfl ?_) | refine Pw.condT rfl ?_ | refine Pw.condF rfl ?_ | refine Pw.list (Pw.box rfl rfl rfl rfl (fun _ => ?_)) | refine Pw.list (Pw.alloc rfl rfl rfl rfl rfl (fun _ => ?_)) | refine Pw.list (Pw.build rfl rfl rfl rfl ?_) | refine Pw.list (Pw.ld rfl inferInstance rfl rfl rfl ?_) | refine Pw.list (Pw.sto rfl rfl inferInstance rfl rfl rfl rfl rfl inferInstance rfl ?_))
  exact Pw.ret_ (x := ()) (.tmp rfl .nil) rfl trivial (fun w h => by trivial)
theorem Elect1_ct (z zv zc : Option Addr × Nat) :
    Ct Try.prog 10 #[snV (s1 z zv zc), .int .i64 1] (snF (s1 z zv zc)) (fun r : Nat × Nat × Value => .tuple #[.slice (some ⟨r.1, 0, none⟩) 1 r.2.1, r.2.2, .int .i64 0]) Tt (fun r W => W.cell? ⟨r.1, 0, none⟩ = some (.int .i64 2)) := by
  refine Ct.start Try.func10 rfl rfl (slots_of rfl slots2) (fun D w0 => Pw.facts sn2 ?_)
  repeat (first | (with_reducible first | refine Pw.seq ?_ | refine Pw.region ?_ | refine Pw.nil ?_ | refine Pw.then_ ?_ | refine Pw.skip ?_ | refine Pw.block ?_ | refine Pw.exit ?_ | refine Pw.inX ?_ | refine Pw.inN ?_ | refine Pw.inR ?_ | refine Pw.thenX ?_ | refine Pw.thenR ?_ | refine Pw.ret ?_) | refine Pw.list (Pw.pure rfl rfl rfl ?_) | refine Pw.inY rfl ?_ | refine Pw.list (Pw.off rfl rfl ?_) | refine Pw.condT rfl ?_ | refine Pw.condF rfl ?_)
  refine Pw.list (Pw.box rfl rfl rfl rfl (fun g2 => freeHead ?_))
  repeat (first | (with_reducible first | refine Pw.seq ?_ | refine Pw.region ?_ | refine Pw.nil ?_ | refine Pw.then_ ?_ | refine Pw.skip ?_ | refine Pw.block ?_ | refine Pw.exit ?_ | refine Pw.inX ?_ | refine Pw.inN ?_ | refine Pw.inR ?_ | refine Pw.thenX ?_ | refine Pw.thenR ?_ | refine Pw.ret ?_) | refine Pw.list (Pw.pure rfl rfl rfl ?_) | refine Pw.inY rfl ?_ | refine Pw.list (Pw.off rfl rfl ?_) | refine Pw.condT rfl ?_ | refine Pw.condF rfl ?_ | refine Pw.list (Pw.box rfl rfl rfl rfl (fun _ => ?_)) | refine Pw.list (Pw.alloc rfl rfl rfl rfl rfl (fun _ => ?_)) | refine Pw.list (Pw.build rfl rfl rfl rfl ?_) | refine Pw.list (Pw.ld rfl inferInstance rfl rfl rfl ?_) | refine Pw.list (Pw.sto rfl rfl inferInstance rfl rfl rfl rfl rfl inferInstance rfl ?_))
  refine Pw.list (Pw.call (gFormed_ct (s1 z zv zc) (fun v hv => by rw [List.mem_singleton.1 hv]; exact ⟨by show (0 : Int) ≤ 5; omega, by show (5 : Int) ≤ _; omega⟩)) rfl rfl rfl (by kernel_rfl) rfl rfl (fun w h => ⟨(hv w h), (hv w h)⟩) ?_)
  intro _ _
  rw [s1_formed]
  repeat (first | (with_reducible first | refine Pw.seq ?_ | refine Pw.region ?_ | refine Pw.nil ?_ | refine Pw.then_ ?_ | refine Pw.skip ?_ | refine Pw.block ?_ | refine Pw.exit ?_ | refine Pw.inX ?_ | refine Pw.inN ?_ | refine Pw.inR ?_ | refine Pw.thenX ?_ | refine Pw.thenR ?_ | refine Pw.ret ?_) | refine Pw.list (Pw.pure rfl rfl rfl ?_) | refine Pw.inY rfl ?_ | refine Pw.list (Pw.off rfl rfl ?_) | refine Pw.condT rfl ?_ | refine Pw.condF rfl ?_ | refine Pw.list (Pw.box rfl rfl rfl rfl (fun _ => ?_)) | refine Pw.list (Pw.alloc rfl rfl rfl rfl rfl (fun _ => ?_)) | refine Pw.list (Pw.build rfl rfl rfl rfl ?_) | refine Pw.list (Pw.ld rfl inferInstance rfl rfl rfl ?_) | refine Pw.list (Pw.sto rfl rfl inferInstance rfl rfl rfl rfl rfl inferInstance rfl ?_))
  refine Pw.list (Pw.inline (K' := [(0, snV (s1 z zv zc))]) Try.func26 rfl rfl rfl rfl (by kernel_rfl) rfl rfl rfl (slots_of rfl slots1) (fun R hR => ?_))
  repeat (first | (with_reducible first | refine Pw.seq ?_ | refine Pw.region ?_ | refine Pw.nil ?_ | refine Pw.then_ ?_ | refine Pw.skip ?_ | refine Pw.block ?_ | refine Pw.exit ?_ | refine Pw.inX ?_ | refine Pw.inN ?_ | refine Pw.inR ?_ | refine Pw.thenX ?_ | refine Pw.thenR ?_ | refine Pw.ret ?_) | refine Pw.list (Pw.pure rfl rfl rfl ?_) | refine Pw.inY rfl ?_ | refine Pw.list (Pw.off rfl rfl ?_) | refine Pw.condT rfl ?_ | refine Pw.condF rfl ?_)
  refine Pw.list (Pw.box rfl rfl rfl rfl (fun g1 => freeHead ?_))
  repeat (first | (with_reducible first | refine Pw.seq ?_ | refine Pw.region ?_ | refine Pw.nil ?_ | refine Pw.then_ ?_ | refine Pw.skip ?_ | refine Pw.block ?_ | refine Pw.exit ?_ | refine Pw.inX ?_ | refine Pw.inN ?_ | refine Pw.inR ?_ | refine Pw.thenX ?_ | refine Pw.thenR ?_ | refine Pw.ret ?_) | refine Pw.list (Pw.pure rfl rfl rfl ?_) | refine Pw.inY rfl ?_ | refine Pw.list (Pw.off rfl rfl ?_) | refine Pw.condT rfl ?_ | refine Pw.condF rfl ?_ | refine Pw.list (Pw.box rfl rfl rfl rfl (fun _ => ?_)) | refine Pw.list (Pw.alloc rfl rfl rfl rfl rfl (fun _ => ?_)) | refine Pw.list (Pw.build rfl rfl rfl rfl ?_) | refine Pw.list (Pw.ld rfl inferInstance rfl rfl rfl ?_) | refine Pw.list (Pw.sto rfl rfl inferInstance rfl rfl rfl rfl rfl inferInstance rfl ?_))
  refine Pw.join (σ := Nat × Nat × (Option Addr × Nat)) (fun _ => True) (fun t => ⟨[(1, .pointer (some ⟨g1, 0, none⟩)), (3, .pointer (some ⟨t.1, 0, none⟩))], [⟨t.1, row [.slice zv.1 1 zv.2, sl [2] zc, .map (some t.2.1), sl (ofN 1) t.2.2, .slice none 0 0, .slice none 0 0, .slice none 0 0] 75⟩, ⟨t.2.1, mapO []⟩], [S1 (ofN 1) t.2.2, fun W => W.heap[g1]? = some (row [.slice zv.1 1 zv.2, sl [2] zc] 25), fun W => W.heap[g2]? = some (row [.slice zv.1 1 zv.2, sl [2] zc] 25), VS [⟨1, 5, [2], z⟩] zv, I1 [2] zc]⟩) ?_ ?_
  · skip
    refine Pw.drawnG mixed rfl rfl ?_
    refine Pw.takeF 0 (nb 6 1) rfl rfl inferInstance rfl rfl rfl (by kernel_rfl) np sf ?_
    refine Pw.two 1 2 (nb 6 3) (nb 6 5) rfl rfl (by kernel_rfl) ?_ ?_
    · skip
      refine Pw.makeMap rfl rfl (fun ga => ?_)
      refine Pw.held sf ?_
      refine Pw.one 2 (nb 6 7) rfl (by kernel_rfl) ?_
      refine Pw.call (Of_ct 1) rfl rfl rfl (by kernel_rfl) rfl rfl (fun w h => trivial) ?_
      intro zd _
      refine Pw.held sf ?_
      refine Pw.takeBuild 3 (nb 6 15) rfl rfl rfl rfl rfl (by kernel_rfl) np sf ?_
      refine Pw.one 4 (nb 6 31) rfl (by kernel_rfl) ?_
      refine Pw.box rfl rfl rfl rfl (fun gr => ?_)
      refine Pw.held sf ?_
      refine Pw.takeP 5 (nb 6 63) rfl rfl rfl rfl (by kernel_rfl) np sf ?_
      refine Pw.done (by kernel_rfl) ?_
      exact Pw.then_ (Pw.arrive (gr, ga, zd) trivial ⟨rfl, rfl, trivial⟩ rfl (fun w h => allCons (hv w h) (allCons (by first | exact fact0 (h) | exact fact0 (allTail (h)) | exact fact0 (allTail (allTail (h))) | exact fact0 (allTail (allTail (allTail (h)))) | exact fact0 (allTail (allTail (allTail (allTail (h))))) | exact fact0 (allTail (allTail (allTail (allTail (allTail (h)))))) | exact fact0 (allTail (allTail (allTail (allTail (allTail (allTail (h))))))) | exact fact0 (allTail (allTail (allTail (allTail (allTail (allTail (allTail (h)))))))) | exact fact0 (allTail (allTail (allTail (allTail (allTail (allTail (allTail (allTail (h))))))))) | exact fact0 (allTail (allTail (allTail (allTail (allTail (allTail (allTail (allTail (allTail (h))))))))))) (allCons (by first | exact fact0 (h) | exact fact0 (allTail (h)) | exact fact0 (allTail (allTail (h))) | exact fact0 (allTail (allTail (allTail (h)))) | exact fact0 (allTail (allTail (allTail (allTail (h))))) | exact fact0 (allTail (allTail (allTail (allTail (allTail (h)))))) | exact fact0 (allTail (allTail (allTail (allTail (allTail (allTail (h))))))) | exact fact0 (allTail (allTail (allTail (allTail (allTail (allTail (allTail (h)))))))) | exact fact0 (allTail (allTail (allTail (allTail (allTail (allTail (allTail (allTail (h))))))))) | exact fact0 (allTail (allTail (allTail (allTail (allTail (allTail (allTail (allTail (allTail (h))))))))))) (allCons (hv w h) (allCons (hv w h) allNil))))))
    · skip
      refine Pw.call (Of_ct 1) rfl rfl rfl (by kernel_rfl) rfl rfl (fun w h => trivial) ?_
      intro zd _
      refine Pw.held sf ?_
      refine Pw.one 1 (nb 6 7) rfl (by kernel_rfl) ?_
      refine Pw.makeMap rfl rfl (fun ga => ?_)
      refine Pw.held sf ?_
      refine Pw.takeBuild 3 (nb 6 15) rfl rfl rfl rfl rfl (by kernel_rfl) np sf ?_
      refine Pw.one 4 (nb 6 31) rfl (by kernel_rfl) ?_
      refine Pw.box rfl rfl rfl rfl (fun gr => ?_)
      refine Pw.held sf ?_
      refine Pw.takeP 5 (nb 6 63) rfl rfl rfl rfl (by kernel_rfl) np sf ?_
      refine Pw.done (by kernel_rfl) ?_
      exact Pw.then_ (Pw.arrive (gr, ga, zd) trivial ⟨rfl, rfl, trivial⟩ rfl (fun w h => allCons (hv w h) (allCons (by first | exact fact0 (h) | exact fact0 (allTail (h)) | exact fact0 (allTail (allTail (h))) | exact fact0 (allTail (allTail (allTail (h)))) | exact fact0 (allTail (allTail (allTail (allTail (h))))) | exact fact0 (allTail (allTail (allTail (allTail (allTail (h)))))) | exact fact0 (allTail (allTail (allTail (allTail (allTail (allTail (h))))))) | exact fact0 (allTail (allTail (allTail (allTail (allTail (allTail (allTail (h)))))))) | exact fact0 (allTail (allTail (allTail (allTail (allTail (allTail (allTail (allTail (h))))))))) | exact fact0 (allTail (allTail (allTail (allTail (allTail (allTail (allTail (allTail (allTail (h))))))))))) (allCons (by first | exact fact0 (h) | exact fact0 (allTail (h)) | exact fact0 (allTail (allTail (h))) | exact fact0 (allTail (allTail (allTail (h)))) | exact fact0 (allTail (allTail (allTail (allTail (h))))) | exact fact0 (allTail (allTail (allTail (allTail (allTail (h)))))) | exact fact0 (allTail (allTail (allTail (allTail (allTail (allTail (h))))))) | exact fact0 (allTail (allTail (allTail (allTail (allTail (allTail (allTail (h)))))))) | exact fact0 (allTail (allTail (allTail (allTail (allTail (allTail (allTail (allTail (h))))))))) | exact fact0 (allTail (allTail (allTail (allTail (allTail (allTail (allTail (allTail (allTail (h))))))))))) (allCons (hv w h) (allCons (hv w h) allNil))))))
  rintro ⟨gr, ga, zd⟩ _
  dsimp only
  obtain ⟨Az, cz⟩ := zv
  refine Pw.use (p := Az.isSome = true) (fun w h => (hv w h : VS [⟨1, 5, [2], z⟩] (Az, cz) w).has (i := 0) (Int.le_refl 0) (by show (0 : Int) < 1; omega)) (fun hA => ?_)
  obtain ⟨av, rfl⟩ := Option.isSome_iff_exists.1 hA
  repeat (first | (with_reducible first | refine Pw.seq ?_ | refine Pw.region ?_ | refine Pw.nil ?_ | refine Pw.then_ ?_ | refine Pw.skip ?_ | refine Pw.block ?_ | refine Pw.exit ?_ | refine Pw.inX ?_ | refine Pw.inN ?_ | refine Pw.inR ?_ | refine Pw.thenX ?_ | refine Pw.thenR ?_ | refine Pw.ret ?_) | refine Pw.list (Pw.pure rfl rfl rfl ?_) | refine Pw.inY rfl ?_ | refine Pw.list (Pw.off rfl rfl ?_) | refine Pw.condT rfl ?_ | refine Pw.condF rfl ?_ | refine Pw.list (Pw.box rfl rfl rfl rfl (fun _ => ?_)) | refine Pw.list (Pw.alloc rfl rfl rfl rfl rfl (fun _ => ?_)) | refine Pw.list (Pw.build rfl rfl rfl rfl ?_) | refine Pw.list (Pw.ld rfl inferInstance rfl rfl rfl ?_) | refine Pw.list (Pw.sto rfl rfl inferInstance rfl rfl rfl rfl rfl inferInstance rfl ?_))
  refine Pw.rounds 3 (Pw.round ?_)
  repeat (first | (with_reducible first | refine Pw.seq ?_ | refine Pw.region ?_ | refine Pw.nil ?_ | refine Pw.then_ ?_ | refine Pw.skip ?_ | refine Pw.block ?_ | refine Pw.exit ?_ | refine Pw.inX ?_ | refine Pw.inN ?_ | refine Pw.inR ?_ | refine Pw.thenX ?_ | refine Pw.thenR ?_ | refine Pw.ret ?_) | refine Pw.list (Pw.pure rfl rfl rfl ?_) | refine Pw.inY rfl ?_ | refine Pw.list (Pw.off rfl rfl ?_) | refine Pw.condT rfl ?_ | refine Pw.condF rfl ?_ | refine Pw.list (Pw.box rfl rfl rfl rfl (fun _ => ?_)) | refine Pw.list (Pw.alloc rfl rfl rfl rfl rfl (fun _ => ?_)) | refine Pw.list (Pw.build rfl rfl rfl rfl ?_) | refine Pw.list (Pw.ld rfl inferInstance rfl rfl rfl ?_) | refine Pw.list (Pw.sto rfl rfl inferInstance rfl rfl rfl rfl rfl inferInstance rfl ?_))
  refine Pw.list (Pw.indexS rfl rfl rfl rfl (Int.le_refl 0) (by show (0 : Int) < 1; omega) rfl rfl ?_)
  refine Pw.list (Pw.loadR ⟨1, 5, [2], z⟩ rfl inferInstance rfl rfl (by kernel_rfl) rfl rfl ?_)
  refine Pw.re (d := 20) (v' := vtV ⟨1, 5, [2], z⟩) rfl rfl ?_
  repeat (first | (with_reducible first | refine Pw.seq ?_ | refine Pw.region ?_ | refine Pw.nil ?_ | refine Pw.then_ ?_ | refine Pw.skip ?_ | refine Pw.block ?_ | refine Pw.exit ?_ | refine Pw.inX ?_ | refine Pw.inN ?_ | refine Pw.inR ?_ | refine Pw.thenX ?_ | refine Pw.thenR ?_ | refine Pw.ret ?_) | refine Pw.list (Pw.pure rfl rfl rfl ?_) | refine Pw.inY rfl ?_ | refine Pw.list (Pw.off rfl rfl ?_) | refine Pw.condT rfl ?_ | refine Pw.condF rfl ?_ | refine Pw.list (Pw.box rfl rfl rfl rfl (fun _ => ?_)) | refine Pw.list (Pw.alloc rfl rfl rfl rfl rfl (fun _ => ?_)) | refine Pw.list (Pw.build rfl rfl rfl rfl ?_) | refine Pw.list (Pw.ld rfl inferInstance rfl rfl rfl ?_) | refine Pw.list (Pw.sto rfl rfl inferInstance rfl rfl rfl rfl rfl inferInstance rfl ?_))
  refine freeHead ?_
  repeat (first | (with_reducible first | refine Pw.seq ?_ | refine Pw.region ?_ | refine Pw.nil ?_ | refine Pw.then_ ?_ | refine Pw.skip ?_ | refine Pw.block ?_ | refine Pw.exit ?_ | refine Pw.inX ?_ | refine Pw.inN ?_ | refine Pw.inR ?_ | refine Pw.thenX ?_ | refine Pw.thenR ?_ | refine Pw.ret ?_) | refine Pw.list (Pw.pure rfl rfl rfl ?_) | refine Pw.inY rfl ?_ | refine Pw.list (Pw.off rfl rfl ?_) | refine Pw.condT rfl ?_ | refine Pw.condF rfl ?_ | refine Pw.list (Pw.box rfl rfl rfl rfl (fun _ => ?_)) | refine Pw.list (Pw.alloc rfl rfl rfl rfl rfl (fun _ => ?_)) | refine Pw.list (Pw.build rfl rfl rfl rfl ?_) | refine Pw.list (Pw.ld rfl inferInstance rfl rfl rfl ?_) | refine Pw.list (Pw.sto rfl rfl inferInstance rfl rfl rfl rfl rfl inferInstance rfl ?_))
  refine Pw.list (Pw.lit1 rfl rfl rfl rfl rfl rfl rfl rfl rfl (fun gl0 => freeHead ?_))
  refine Pw.list (Pw.push (s := none) (m := 0) (cells := []) (news := [.slice none 0 0]) rfl rfl rfl rfl rfl rfl rfl ⟨rfl, rfl⟩ rfl (fun u hu => by rw [List.mem_singleton.1 hu]; rfl) (fun w hs j u hu => by
    have h1 : w.heap[gl0]? = some (row [.slice none 0 0] 34) := fact0 hs.all
    rw [add_none, cell_of_blk h1]
    simpa using hu) (by omega) (by simp only [maxLen]; omega) (by show 1 * 24 ≤ _; omega) rfl rfl (fun ql hql => ?_))
  obtain _ | ⟨gl, capl, exl⟩ := ql
  · have := hql.1; omega
  refine Pw.eqL (L' := [⟨gl, row (.slice none 0 0 :: exl) 34⟩, ⟨gr, row [.slice (some av) 1 cz, sl [2] zc, .map (some ga), sl (ofN 1) zd, .slice none 0 0, .slice none 0 0, .slice none 0 0] 75⟩, ⟨ga, mapO []⟩]) rfl ?_
  refine Pw.re (d := 27) (v' := .slice (some ⟨gl, 0, none⟩) 1 capl) rfl rfl ?_
  repeat (first | (with_reducible first | refine Pw.seq ?_ | refine Pw.region ?_ | refine Pw.nil ?_ | refine Pw.then_ ?_ | refine Pw.skip ?_ | refine Pw.block ?_ | refine Pw.exit ?_ | refine Pw.inX ?_ | refine Pw.inN ?_ | refine Pw.inR ?_ | refine Pw.thenX ?_ | refine Pw.thenR ?_ | refine Pw.ret ?_) | refine Pw.list (Pw.pure rfl rfl rfl ?_) | refine Pw.inY rfl ?_ | refine Pw.list (Pw.off rfl rfl ?_) | refine Pw.condT rfl ?_ | refine Pw.condF rfl ?_ | refine Pw.list (Pw.box rfl rfl rfl rfl (fun _ => ?_)) | refine Pw.list (Pw.alloc rfl rfl rfl rfl rfl (fun _ => ?_)) | refine Pw.list (Pw.build rfl rfl rfl rfl ?_) | refine Pw.list (Pw.ld rfl inferInstance rfl rfl rfl ?_) | refine Pw.list (Pw.sto rfl rfl inferInstance rfl rfl rfl rfl rfl inferInstance rfl ?_))
  refine Pw.list (Pw.makeMap rfl rfl (fun gm => ?_))
  refine Pw.list (Pw.lit1 rfl rfl rfl rfl rfl rfl rfl rfl rfl (fun ge0 => freeHead ?_))
  refine Pw.list (Pw.push (s := none) (m := 0) (cells := []) (news := [.map (some gm)]) rfl rfl rfl rfl rfl rfl rfl ⟨rfl, rfl⟩ rfl (fun u hu => by rw [List.mem_singleton.1 hu]; rfl) (fun w hs j u hu => by
    have h1 : w.heap[ge0]? = some (row [.map (some gm)] 103) := fact0 hs.all
    rw [add_none, cell_of_blk h1]
    simpa using hu) (by omega) (by simp only [maxLen]; omega) (by show 1 * 8 ≤ _; omega) rfl rfl (fun qe hqe => ?_))
  obtain _ | ⟨ge, cape, exe⟩ := qe
  · have := hqe.1; omega
  refine Pw.eqL (L' := [⟨ge, row (.map (some gm) :: exe) 103⟩, ⟨gm, mapO []⟩, ⟨gl, row (.slice none 0 0 :: exl) 34⟩, ⟨gr, row [.slice (some av) 1 cz, sl [2] zc, .map (some ga), sl (ofN 1) zd, .slice (some ⟨gl, 0, none⟩) 1 capl, .slice none 0 0, .slice none 0 0] 75⟩, ⟨ga, mapO []⟩]) rfl ?_
  refine Pw.re (d := 37) (v' := .slice (some ⟨ge, 0, none⟩) 1 cape) rfl rfl ?_
  repeat (first | (with_reducible first | refine Pw.seq ?_ | refine Pw.region ?_ | refine Pw.nil ?_ | refine Pw.then_ ?_ | refine Pw.skip ?_ | refine Pw.block ?_ | refine Pw.exit ?_ | refine Pw.inX ?_ | refine Pw.inN ?_ | refine Pw.inR ?_ | refine Pw.thenX ?_ | refine Pw.thenR ?_ | refine Pw.ret ?_) | refine Pw.list (Pw.pure rfl rfl rfl ?_) | refine Pw.inY rfl ?_ | refine Pw.list (Pw.off rfl rfl ?_) | refine Pw.condT rfl ?_ | refine Pw.condF rfl ?_ | refine Pw.list (Pw.box rfl rfl rfl rfl (fun _ => ?_)) | refine Pw.list (Pw.alloc rfl rfl rfl rfl rfl (fun _ => ?_)) | refine Pw.list (Pw.build rfl rfl rfl rfl ?_) | refine Pw.list (Pw.ld rfl inferInstance rfl rfl rfl ?_) | refine Pw.list (Pw.sto rfl rfl inferInstance rfl rfl rfl rfl rfl inferInstance rfl ?_))
  obtain ⟨Ap, cp⟩ := z
  obtain ⟨Ac, cc⟩ := zc
  refine Pw.use (p := Ac.isSome = true) (fun w h => (hv w h : I1 [2] (Ac, cc) w).has (i := 0) (Int.le_refl 0) (by show (0 : Int) < 1; omega)) (fun hA => ?_)
  obtain ⟨ac, rfl⟩ := Option.isSome_iff_exists.1 hA
  refine Pw.use (p := Ap.isSome = true) (fun w h => (hv w h : heldV ⟨1, 5, [2], (Ap, cp)⟩ w).has (i := 0) (Int.le_refl 0) (by show (0 : Int) < 1; omega)) (fun hA => ?_)
  obtain ⟨ap, rfl⟩ := Option.isSome_iff_exists.1 hA
  refine Pw.rounds 3 (Pw.round ?_)
  repeat (first | (with_reducible first | refine Pw.seq ?_ | refine Pw.region ?_ | refine Pw.nil ?_ | refine Pw.then_ ?_ | refine Pw.skip ?_ | refine Pw.block ?_ | refine Pw.exit ?_ | refine Pw.inX ?_ | refine Pw.inN ?_ | refine Pw.inR ?_ | refine Pw.thenX ?_ | refine Pw.thenR ?_ | refine Pw.ret ?_) | refine Pw.list (Pw.pure rfl rfl rfl ?_) | refine Pw.inY rfl ?_ | refine Pw.list (Pw.off rfl rfl ?_) | refine Pw.condT rfl ?_ | refine Pw.condF rfl ?_ | refine Pw.list (Pw.box rfl rfl rfl rfl (fun _ => ?_)) | refine Pw.list (Pw.alloc rfl rfl rfl rfl rfl (fun _ => ?_)) | refine Pw.list (Pw.build rfl rfl rfl rfl ?_) | refine Pw.list (Pw.ld rfl inferInstance rfl rfl rfl ?_) | refine Pw.list (Pw.sto rfl rfl inferInstance rfl rfl rfl rfl rfl inferInstance rfl ?_))
  refine Pw.list (Pw.indexS rfl rfl rfl rfl (Int.le_refl 0) (by show (0 : Int) < 1; omega) rfl rfl ?_)
  refine Pw.list (Pw.load1 rfl rfl (fun w hs => (hv w hs.all : heldV ⟨1, 5, [2], (some ap, cp)⟩ w).cell (i := 0) (Int.le_refl 0) (by show (0 : Int) < 1; omega)) rfl rfl ?_)
  refine Pw.re (d := 46) (v' := .int .i64 2) rfl rfl ?_
  repeat (first | (with_reducible first | refine Pw.seq ?_ | refine Pw.region ?_ | refine Pw.nil ?_ | refine Pw.then_ ?_ | refine Pw.skip ?_ | refine Pw.block ?_ | refine Pw.exit ?_ | refine Pw.inX ?_ | refine Pw.inN ?_ | refine Pw.inR ?_ | refine Pw.thenX ?_ | refine Pw.thenR ?_ | refine Pw.ret ?_) | refine Pw.list (Pw.pure rfl rfl rfl ?_) | refine Pw.inY rfl ?_ | refine Pw.list (Pw.off rfl rfl ?_) | refine Pw.condT rfl ?_ | refine Pw.condF rfl ?_ | refine Pw.list (Pw.box rfl rfl rfl rfl (fun _ => ?_)) | refine Pw.list (Pw.alloc rfl rfl rfl rfl rfl (fun _ => ?_)) | refine Pw.list (Pw.build rfl rfl rfl rfl ?_) | refine Pw.list (Pw.ld rfl inferInstance rfl rfl rfl ?_) | refine Pw.list (Pw.sto rfl rfl inferInstance rfl rfl rfl rfl rfl inferInstance rfl ?_))
  refine Pw.list (Pw.call (Contains_ct [2] (some ac, cc) 2) rfl rfl rfl (by kernel_rfl) rfl rfl (fun w h => (hv w h)) ?_)
  intro _ _
  refine Pw.re (d := 54) (v' := .bool true) rfl rfl ?_
  repeat (first | (with_reducible first | refine Pw.seq ?_ | refine Pw.region ?_ | refine Pw.nil ?_ | refine Pw.then_ ?_ | refine Pw.skip ?_ | refine Pw.block ?_ | refine Pw.exit ?_ | refine Pw.inX ?_ | refine Pw.inN ?_ | refine Pw.inR ?_ | refine Pw.thenX ?_ | refine Pw.thenR ?_ | refine Pw.ret ?_) | refine Pw.list (Pw.pure rfl rfl rfl ?_) | refine Pw.inY rfl ?_ | refine Pw.list (Pw.off rfl rfl ?_) | refine Pw.condT rfl ?_ | refine Pw.condF rfl ?_ | refine Pw.list (Pw.box rfl rfl rfl rfl (fun _ => ?_)) | refine Pw.list (Pw.alloc rfl rfl rfl rfl rfl (fun _ => ?_)) | refine Pw.list (Pw.build rfl rfl rfl rfl ?_) | refine Pw.list (Pw.ld rfl inferInstance rfl rfl rfl ?_) | refine Pw.list (Pw.sto rfl rfl inferInstance rfl rfl rfl rfl rfl inferInstance rfl ?_))
  refine Pw.joinQ (σ := Nat × Nat) (fun _ => True) (fun t => ⟨[(1, .pointer (some ⟨g1, 0, none⟩)), (3, .pointer (some ⟨gr, 0, none⟩)), (15, .int .i64 1), (16, .int .i64 0), (42, .int .i64 1), (43, .int .i64 0)], [⟨ge, row (.map (some gm) :: exe) 103⟩, ⟨gm, mapO []⟩, ⟨gl, row (.slice none 0 0 :: exl) 34⟩, ⟨gr, row [.slice (some av) 1 cz, sl [2] (some ac, cc), .map (some ga), sl (ofN 1) zd, .slice (some ⟨gl, 0, none⟩) 1 capl, .slice (some ⟨ge, 0, none⟩) 1 cape, .slice none 0 0] 75⟩, ⟨ga, mapO [(2, .slice (some ⟨t.1, 0, none⟩) 1 t.2)]⟩], [I1 [0] (some ⟨t.1, 0, none⟩, t.2), S1 (ofN 1) zd, VS [⟨1, 5, [2], (some ap, cp)⟩] (some av, cz), I1 [2] (some ac, cc)]⟩) ?_ ?_
  · skip
    refine Pw.drawnH (g := gr) inferInstance mixed rfl rfl ?_
    refine Pw.takeP 0 (nb 15 1) rfl rfl rfl rfl (by kernel_rfl) np so ?_
    refine Pw.takeP 1 (nb 15 3) rfl rfl rfl rfl (by kernel_rfl) np so ?_
    refine Pw.takeP 2 (nb 15 7) rfl rfl rfl rfl (by kernel_rfl) np so ?_
    refine Pw.takeF 3 (nb 15 15) rfl rfl inferInstance rfl rfl rfl (by kernel_rfl) np so ?_
    refine Pw.takeP 4 (nb 15 31) rfl rfl rfl rfl (by kernel_rfl) np so ?_
    refine Pw.takeP 5 (nb 15 63) rfl rfl rfl rfl (by kernel_rfl) np so ?_
    refine Pw.takeP 6 (nb 15 127) rfl rfl rfl rfl (by kernel_rfl) np so ?_
    refine Pw.takeP 7 (nb 15 255) rfl rfl rfl rfl (by kernel_rfl) np so ?_
    refine Pw.takeF 8 (nb 15 511) rfl rfl inferInstance rfl rfl rfl (by kernel_rfl) np so ?_
    refine Pw.takeP 9 (nb 15 1023) rfl rfl rfl rfl (by kernel_rfl) np so ?_
    refine Pw.takeP 11 (nb 15 3071) rfl rfl rfl rfl (by kernel_rfl) np so ?_
    refine Pw.two 10 12 (nb 15 4095) (nb 15 7167) rfl rfl (by kernel_rfl) ?_ ?_
    · skip
      refine Pw.lookupF (m := []) rfl rfl rfl rfl rfl rfl (fun w hs => hs.own ⟨ga, mapO []⟩ (.tail _ (.tail _ (.tail _ (.tail _ (.head _)))))) rfl rfl ?_
      refine Pw.held so ?_
      refine Pw.one 12 (nb 15 8191) rfl (by kernel_rfl) ?_
      refine Pw.lit1 rfl rfl rfl rfl rfl rfl rfl rfl rfl (fun gp0 => freeHead ?_)
      refine Pw.held so ?_
      refine Pw.one 13 (nb 15 16383) rfl (by kernel_rfl) ?_
      refine Pw.push (s := none) (m := 0) (cells := []) (news := [.int .i64 0]) rfl rfl rfl rfl rfl rfl rfl ⟨rfl, rfl⟩ rfl (fun u hu => by rw [List.mem_singleton.1 hu]; rfl) (fun w hs j u hu => by
        have h1 : w.heap[gp0]? = some (row [.int .i64 0] 3) := by first | exact fact0 hs.all | exact fact1 hs.all
        rw [add_none, cell_of_blk h1]
        simpa using hu) (by omega) (by simp only [maxLen]; omega) (by show 1 * 8 ≤ _; omega) rfl rfl (fun qp hqp => ?_)
      obtain _ | ⟨gp, capp, exp⟩ := qp
      · have := hqp.1; omega
      refine freeHead (g := gp) (o := row (.int .i64 0 :: exp) 3) ?_
      refine Pw.eqL (L' := [⟨ge, row (.map (some gm) :: exe) 103⟩, ⟨gm, mapO []⟩, ⟨gl, row (.slice none 0 0 :: exl) 34⟩, ⟨gr, row [.slice (some av) 1 cz, sl [2] (some ac, cc), .map (some ga), sl (ofN 1) zd, .slice (some ⟨gl, 0, none⟩) 1 capl, .slice (some ⟨ge, 0, none⟩) 1 cape, .slice none 0 0] 75⟩, ⟨ga, mapO []⟩]) rfl ?_
      refine Pw.re (d := 69) (v' := .slice (some ⟨gp, 0, none⟩) 1 capp) rfl rfl ?_
      refine Pw.held so ?_
      refine Pw.one 14 (nb 15 32767) rfl (by kernel_rfl) ?_
      refine Pw.mapNew (m := []) (k := 2) rfl rfl rfl rfl rfl (fun p hp => by cases hp) (.tail (.tail (.tail (.tail .head)))) rfl ?_
      refine Pw.held so ?_
      refine Pw.done (by kernel_rfl) ?_
      exact Pw.then_ (Pw.arrive (gp, capp) trivial ⟨rfl, rfl, rfl, rfl, rfl, rfl, trivial⟩ rfl (fun w h => allCons (ints_of_row (l := [0]) (ex := exp) (fact0 h) hqp.2.1 (by simp [maxLen])) (allCons (hv w h) (allCons (hv w h) (allCons (hv w h) allNil)))))
    · skip
      refine Pw.lit1 rfl rfl rfl rfl rfl rfl rfl rfl rfl (fun gp0 => freeHead ?_)
      refine Pw.held so ?_
      refine Pw.one 10 (nb 15 8191) rfl (by kernel_rfl) ?_
      refine Pw.lookupF (m := []) rfl rfl rfl rfl rfl rfl (fun w hs => hs.own ⟨ga, mapO []⟩ (.tail _ (.tail _ (.tail _ (.tail _ (.head _)))))) rfl rfl ?_
      refine Pw.held so ?_
      refine Pw.one 13 (nb 15 16383) rfl (by kernel_rfl) ?_
      refine Pw.push (s := none) (m := 0) (cells := []) (news := [.int .i64 0]) rfl rfl rfl rfl rfl rfl rfl ⟨rfl, rfl⟩ rfl (fun u hu => by rw [List.mem_singleton.1 hu]; rfl) (fun w hs j u hu => by
        have h1 : w.heap[gp0]? = some (row [.int .i64 0] 3) := by first | exact fact0 hs.all | exact fact1 hs.all
        rw [add_none, cell_of_blk h1]
        simpa using hu) (by omega) (by simp only [maxLen]; omega) (by show 1 * 8 ≤ _; omega) rfl rfl (fun qp hqp => ?_)
      obtain _ | ⟨gp, capp, exp⟩ := qp
      · have := hqp.1; omega
      refine freeHead (g := gp) (o := row (.int .i64 0 :: exp) 3) ?_
      refine Pw.eqL (L' := [⟨ge, row (.map (some gm) :: exe) 103⟩, ⟨gm, mapO []⟩, ⟨gl, row (.slice none 0 0 :: exl) 34⟩, ⟨gr, row [.slice (some av) 1 cz, sl [2] (some ac, cc), .map (some ga), sl (ofN 1) zd, .slice (some ⟨gl, 0, none⟩) 1 capl, .slice (some ⟨ge, 0, none⟩) 1 cape, .slice none 0 0] 75⟩, ⟨ga, mapO []⟩]) rfl ?_
      refine Pw.re (d := 69) (v' := .slice (some ⟨gp, 0, none⟩) 1 capp) rfl rfl ?_
      refine Pw.held so ?_
      refine Pw.one 14 (nb 15 32767) rfl (by kernel_rfl) ?_
      refine Pw.mapNew (m := []) (k := 2) rfl rfl rfl rfl rfl (fun p hp => by cases hp) (.tail (.tail (.tail (.tail .head)))) rfl ?_
      refine Pw.held so ?_
      refine Pw.done (by kernel_rfl) ?_
      exact Pw.then_ (Pw.arrive (gp, capp) trivial ⟨rfl, rfl, rfl, rfl, rfl, rfl, trivial⟩ rfl (fun w h => allCons (ints_of_row (l := [0]) (ex := exp) (fact0 h) hqp.2.1 (by simp [maxLen])) (allCons (hv w h) (allCons (hv w h) (allCons (hv w h) allNil)))))
  rintro ⟨gp, capp⟩ _
  dsimp only
  repeat (first | (with_reducible first | refine Pw.seq ?_ | refine Pw.region ?_ | refine Pw.nil ?_ | refine Pw.then_ ?_ | refine Pw.skip ?_ | refine Pw.block ?_ | refine Pw.exit ?_ | refine Pw.inX ?_ | refine Pw.inN ?_ | refine Pw.inR ?_ | refine Pw.thenX ?_ | refine Pw.thenR ?_ | refine Pw.ret ?_) | refine Pw.list (Pw.pure rfl rfl rfl ?_) | refine Pw.inY rfl ?_ | refine Pw.list (Pw.off rfl rfl ?_) | refine Pw.condT rfl ?_ | refine Pw.condF rfl ?_ | refine Pw.list (Pw.box rfl rfl rfl rfl (fun _ => ?_)) | refine Pw.list (Pw.alloc rfl rfl rfl rfl rfl (fun _ => ?_)) | refine Pw.list (Pw.build rfl rfl rfl rfl ?_) | refine Pw.list (Pw.ld rfl inferInstance rfl rfl rfl ?_) | refine Pw.list (Pw.sto rfl rfl inferInstance rfl rfl rfl rfl rfl inferInstance rfl ?_))
  refine Pw.re (d := 43) (v' := .int .i64 1) rfl (by kernel_rfl) ?_
  refine Pw.round ?_
  repeat (first | (with_reducible first | refine Pw.seq ?_ | refine Pw.region ?_ | refine Pw.nil ?_ | refine Pw.then_ ?_ | refine Pw.skip ?_ | refine Pw.block ?_ | refine Pw.exit ?_ | refine Pw.inX ?_ | refine Pw.inN ?_ | refine Pw.inR ?_ | refine Pw.thenX ?_ | refine Pw.thenR ?_ | refine Pw.ret ?_) | refine Pw.list (Pw.pure rfl rfl rfl ?_) | refine Pw.inY rfl ?_ | refine Pw.list (Pw.off rfl rfl ?_) | refine Pw.condT rfl ?_ | refine Pw.condF rfl ?_ | refine Pw.list (Pw.box rfl rfl rfl rfl (fun _ => ?_)) | refine Pw.list (Pw.alloc rfl rfl rfl rfl rfl (fun _ => ?_)) | refine Pw.list (Pw.build rfl rfl rfl rfl ?_) | refine Pw.list (Pw.ld rfl inferInstance rfl rfl rfl ?_) | refine Pw.list (Pw.sto rfl rfl inferInstance rfl rfl rfl rfl rfl inferInstance rfl ?_))
  refine Pw.re (d := 16) (v' := .int .i64 1) rfl (by kernel_rfl) ?_
  refine Pw.round ?_
  repeat (first | (with_reducible first | refine Pw.seq ?_ | refine Pw.region ?_ | refine Pw.nil ?_ | refine Pw.then_ ?_ | refine Pw.skip ?_ | refine Pw.block ?_ | refine Pw.exit ?_ | refine Pw.inX ?_ | refine Pw.inN ?_ | refine Pw.inR ?_ | refine Pw.thenX ?_ | refine Pw.thenR ?_ | refine Pw.ret ?_) | refine Pw.list (Pw.pure rfl rfl rfl ?_) | refine Pw.inY rfl ?_ | refine Pw.list (Pw.off rfl rfl ?_) | refine Pw.condT rfl ?_ | refine Pw.condF rfl ?_ | refine Pw.list (Pw.box rfl rfl rfl rfl (fun _ => ?_)) | refine Pw.list (Pw.alloc rfl rfl rfl rfl rfl (fun _ => ?_)) | refine Pw.list (Pw.build rfl rfl rfl rfl ?_) | refine Pw.list (Pw.ld rfl inferInstance rfl rfl rfl ?_) | refine Pw.list (Pw.sto rfl rfl inferInstance rfl rfl rfl rfl rfl inferInstance rfl ?_))
  refine Pw.back hR (.tmp rfl .nil) rfl ?_
  clear hR
  refine freeHead ?_
  rw [ofNe1]
  repeat (first | (with_reducible first | refine Pw.seq ?_ | refine Pw.region ?_ | refine Pw.nil ?_ | refine Pw.then_ ?_ | refine Pw.skip ?_ | refine Pw.block ?_ | refine Pw.exit ?_ | refine Pw.inX ?_ | refine Pw.inN ?_ | refine Pw.inR ?_ | refine Pw.thenX ?_ | refine Pw.thenR ?_ | refine Pw.ret ?_) | refine Pw.list (Pw.pure rfl rfl rfl ?_) | refine Pw.inY rfl ?_ | refine Pw.list (Pw.off rfl rfl ?_) | refine Pw.condT rfl ?_ | refine Pw.condF rfl ?_ | refine Pw.list (Pw.box rfl rfl rfl rfl (fun _ => ?_)) | refine Pw.list (Pw.alloc rfl rfl rfl rfl rfl (fun _ => ?_)) | refine Pw.list (Pw.build rfl rfl rfl rfl ?_) | refine Pw.list (Pw.ld rfl inferInstance rfl rfl rfl ?_) | refine Pw.list (Pw.sto rfl rfl inferInstance rfl rfl rfl rfl rfl inferInstance rfl ?_))
  refine Pw.rounds 3 (Pw.round ?_)
  repeat (first | (with_reducible first | refine Pw.seq ?_ | refine Pw.region ?_ | refine Pw.nil ?_ | refine Pw.then_ ?_ | refine Pw.skip ?_ | refine Pw.block ?_ | refine Pw.exit ?_ | refine Pw.inX ?_ | refine Pw.inN ?_ | refine Pw.inR ?_ | refine Pw.thenX ?_ | refine Pw.thenR ?_ | refine Pw.ret ?_) | refine Pw.list (Pw.pure rfl rfl rfl ?_) | refine Pw.inY rfl ?_ | refine Pw.list (Pw.off rfl rfl ?_) | refine Pw.condT rfl ?_ | refine Pw.condF rfl ?_ | refine Pw.list (Pw.box rfl rfl rfl rfl (fun _ => ?_)) | refine Pw.list (Pw.alloc rfl rfl rfl rfl rfl (fun _ => ?_)) | refine Pw.list (Pw.build rfl rfl rfl rfl ?_) | refine Pw.list (Pw.ld rfl inferInstance rfl rfl rfl ?_) | refine Pw.list (Pw.sto rfl rfl inferInstance rfl rfl rfl rfl rfl inferInstance rfl ?_))
  refine Pw.list (Pw.inline (K' := [(0, .pointer (some ⟨gr, 0, none⟩))]) Try.func27 rfl rfl rfl rfl (by kernel_rfl) rfl rfl rfl (slots_of rfl slots1) (fun R hR => ?_))
  repeat (first | (with_reducible first | refine Pw.seq ?_ | refine Pw.region ?_ | refine Pw.nil ?_ | refine Pw.then_ ?_ | refine Pw.skip ?_ | refine Pw.block ?_ | refine Pw.exit ?_ | refine Pw.inX ?_ | refine Pw.inN ?_ | refine Pw.inR ?_ | refine Pw.thenX ?_ | refine Pw.thenR ?_ | refine Pw.ret ?_) | refine Pw.list (Pw.pure rfl rfl rfl ?_) | refine Pw.inY rfl ?_ | refine Pw.list (Pw.off rfl rfl ?_) | refine Pw.condT rfl ?_ | refine Pw.condF rfl ?_ | refine Pw.list (Pw.box rfl rfl rfl rfl (fun _ => ?_)) | refine Pw.list (Pw.alloc rfl rfl rfl rfl rfl (fun _ => ?_)) | refine Pw.list (Pw.build rfl rfl rfl rfl ?_) | refine Pw.list (Pw.ld rfl inferInstance rfl rfl rfl ?_) | refine Pw.list (Pw.sto rfl rfl inferInstance rfl rfl rfl rfl rfl inferInstance rfl ?_))
  refine Pw.rounds 3 (Pw.round ?_)
  repeat (first | (with_reducible first | refine Pw.seq ?_ | refine Pw.region ?_ | refine Pw.nil ?_ | refine Pw.then_ ?_ | refine Pw.skip ?_ | refine Pw.block ?_ | refine Pw.exit ?_ | refine Pw.inX ?_ | refine Pw.inN ?_ | refine Pw.inR ?_ | refine Pw.thenX ?_ | refine Pw.thenR ?_ | refine Pw.ret ?_) | refine Pw.list (Pw.pure rfl rfl rfl ?_) | refine Pw.inY rfl ?_ | refine Pw.list (Pw.off rfl rfl ?_) | refine Pw.condT rfl ?_ | refine Pw.condF rfl ?_ | refine Pw.list (Pw.box rfl rfl rfl rfl (fun _ => ?_)) | refine Pw.list (Pw.alloc rfl rfl rfl rfl rfl (fun _ => ?_)) | refine Pw.list (Pw.build rfl rfl rfl rfl ?_) | refine Pw.list (Pw.ld rfl inferInstance rfl rfl rfl ?_) | refine Pw.list (Pw.sto rfl rfl inferInstance rfl rfl rfl rfl rfl inferInstance rfl ?_))
  refine Pw.list (Pw.indexS rfl rfl rfl rfl (Int.le_refl 0) (by show (0 : Int) < 1; omega) rfl rfl ?_)
  refine Pw.list (Pw.load1 rfl rfl (fun w hs => (hv w hs.all : I1 [2] (some ac, cc) w).cell (i := 0) (Int.le_refl 0) (by show (0 : Int) < 1; omega)) rfl rfl ?_)
  refine Pw.re (d := 26) (v' := .int .i64 2) rfl rfl ?_
  refine Pw.list (Pw.alloc rfl rfl rfl rfl rfl (fun g7 => ?_))
  repeat (first | (with_reducible first | refine Pw.seq ?_ | refine Pw.region ?_ | refine Pw.nil ?_ | refine Pw.then_ ?_ | refine Pw.skip ?_ | refine Pw.block ?_ | refine Pw.exit ?_ | refine Pw.inX ?_ | refine Pw.inN ?_ | refine Pw.inR ?_ | refine Pw.thenX ?_ | refine Pw.thenR ?_ | refine Pw.ret ?_) | refine Pw.list (Pw.pure rfl rfl rfl ?_) | refine Pw.inY rfl ?_ | refine Pw.list (Pw.off rfl rfl ?_) | refine Pw.condT rfl ?_ | refine Pw.condF rfl ?_ | refine Pw.list (Pw.box rfl rfl rfl rfl (fun _ => ?_)) | refine Pw.list (Pw.alloc rfl rfl rfl rfl rfl (fun _ => ?_)) | refine Pw.list (Pw.build rfl rfl rfl rfl ?_) | refine Pw.list (Pw.ld rfl inferInstance rfl rfl rfl ?_) | refine Pw.list (Pw.sto rfl rfl inferInstance rfl rfl rfl rfl rfl inferInstance rfl ?_))
  refine freeHead ?_
  refine Pw.drawnH (g := gr) inferInstance mixed rfl rfl ?_
  refine Pw.takeP 0 (nb 16 1) rfl rfl rfl rfl (by kernel_rfl) np so ?_
  refine Pw.takeP 1 (nb 16 3) rfl rfl rfl rfl (by kernel_rfl) np so ?_
  refine Pw.takeP 2 (nb 16 7) rfl rfl rfl rfl (by kernel_rfl) np so ?_
  refine Pw.takeF 3 (nb 16 15) rfl rfl inferInstance rfl rfl rfl (by kernel_rfl) np so ?_
  refine Pw.takeF 4 (nb 16 31) rfl rfl inferInstance rfl rfl rfl (by kernel_rfl) np so ?_
  refine Pw.one 5 (nb 16 63) rfl (by kernel_rfl) ?_
  refine Pw.lookupF (m := [(2, .slice (some ⟨gp, 0, none⟩) 1 capp)]) rfl rfl rfl rfl rfl rfl (fun w hs => hs.own ⟨ga, _⟩ (.tail _ (.tail _ (.tail _ (.head _))))) rfl rfl ?_
  refine Pw.held so ?_
  refine Pw.takeP 6 (nb 16 127) rfl rfl rfl rfl (by kernel_rfl) np so ?_
  refine Pw.takeP 7 (nb 16 255) rfl rfl rfl rfl (by kernel_rfl) np so ?_
  refine Pw.takeP 8 (nb 16 511) rfl rfl rfl rfl (by kernel_rfl) np so ?_
  refine Pw.takeP 9 (nb 16 1023) rfl rfl rfl rfl (by kernel_rfl) np so ?_
  refine Pw.takeP 10 (nb 16 2047) rfl rfl rfl rfl (by kernel_rfl) np so ?_
  refine Pw.takeP 11 (nb 16 4095) rfl rfl rfl rfl (by kernel_rfl) np so ?_
  refine Pw.takeF 12 (nb 16 8191) rfl rfl inferInstance rfl rfl rfl (by kernel_rfl) np so ?_
  refine Pw.takeP 13 (nb 16 16383) rfl rfl rfl rfl (by kernel_rfl) np so ?_
  refine Pw.one 14 (nb 16 32767) rfl (by kernel_rfl) ?_
  refine Pw.call (ContainsSeat0_ct _) rfl rfl rfl (by kernel_rfl) rfl rfl (fun w h => trivial) ?_
  intro _ _
  refine Pw.held so ?_
  refine Pw.takeP 15 (nb 16 65535) rfl rfl rfl rfl (by kernel_rfl) np so ?_
  refine Pw.done (by kernel_rfl) ?_
  skip
  repeat (first | (with_reducible first | refine Pw.seq ?_ | refine Pw.region ?_ | refine Pw.nil ?_ | refine Pw.then_ ?_ | refine Pw.skip ?_ | refine Pw.block ?_ | refine Pw.exit ?_ | refine Pw.inX ?_ | refine Pw.inN ?_ | refine Pw.inR ?_ | refine Pw.thenX ?_ | refine Pw.thenR ?_ | refine Pw.ret ?_) | refine Pw.list (Pw.pure rfl rfl rfl ?_) | refine Pw.inY rfl ?_ | refine Pw.list (Pw.off rfl rfl ?_) | refine Pw.condT rfl ?_ | refine Pw.condF rfl ?_ | refine Pw.list (Pw.box rfl rfl rfl rfl (fun _ => ?_)) | refine Pw.list (Pw.alloc rfl rfl rfl rfl rfl (fun _ => ?_)) | refine Pw.list (Pw.build rfl rfl rfl rfl ?_) | refine Pw.list (Pw.ld rfl inferInstance rfl rfl rfl ?_) | refine Pw.list (Pw.sto rfl rfl inferInstance rfl rfl rfl rfl rfl inferInstance rfl ?_))
  refine Pw.list (Pw.inline (K' := [(0, .pointer (some ⟨gr, 0, none⟩)), (1, .int .i64 2)]) Try.func52 rfl rfl rfl rfl (by kernel_rfl) rfl rfl rfl (slots_of rfl slots2) (fun R hR => ?_))
  repeat (first | (with_reducible first | refine Pw.seq ?_ | refine Pw.region ?_ | refine Pw.nil ?_ | refine Pw.then_ ?_ | refine Pw.skip ?_ | refine Pw.block ?_ | refine Pw.exit ?_ | refine Pw.inX ?_ | refine Pw.inN ?_ | refine Pw.inR ?_ | refine Pw.thenX ?_ | refine Pw.thenR ?_ | refine Pw.ret ?_) | refine Pw.list (Pw.pure rfl rfl rfl ?_) | refine Pw.inY rfl ?_ | refine Pw.list (Pw.off rfl rfl ?_) | refine Pw.condT rfl ?_ | refine Pw.condF rfl ?_ | refine Pw.list (Pw.box rfl rfl rfl rfl (fun _ => ?_)) | refine Pw.list (Pw.alloc rfl rfl rfl rfl rfl (fun _ => ?_)) | refine Pw.list (Pw.build rfl rfl rfl rfl ?_) | refine Pw.list (Pw.ld rfl inferInstance rfl rfl rfl ?_) | refine Pw.list (Pw.sto rfl rfl inferInstance rfl rfl rfl rfl rfl inferInstance rfl ?_))
  refine Pw.list (Pw.lookupF (m := [(2, .slice (some ⟨gp, 0, none⟩) 1 capp)]) rfl rfl rfl rfl rfl rfl (fun w hs => hs.own ⟨ga, _⟩ (.tail _ (.tail _ (.tail _ (.head _))))) rfl rfl ?_)
  refine Pw.re (d := 17) (v' := .slice (some ⟨gp, 0, none⟩) 1 capp) rfl rfl ?_
  repeat (first | (with_reducible first | refine Pw.seq ?_ | refine Pw.region ?_ | refine Pw.nil ?_ | refine Pw.then_ ?_ | refine Pw.skip ?_ | refine Pw.block ?_ | refine Pw.exit ?_ | refine Pw.inX ?_ | refine Pw.inN ?_ | refine Pw.inR ?_ | refine Pw.thenX ?_ | refine Pw.thenR ?_ | refine Pw.ret ?_) | refine Pw.list (Pw.pure rfl rfl rfl ?_) | refine Pw.inY rfl ?_ | refine Pw.list (Pw.off rfl rfl ?_) | refine Pw.condT rfl ?_ | refine Pw.condF rfl ?_ | refine Pw.list (Pw.box rfl rfl rfl rfl (fun _ => ?_)) | refine Pw.list (Pw.alloc rfl rfl rfl rfl rfl (fun _ => ?_)) | refine Pw.list (Pw.build rfl rfl rfl rfl ?_) | refine Pw.list (Pw.ld rfl inferInstance rfl rfl rfl ?_) | refine Pw.list (Pw.sto rfl rfl inferInstance rfl rfl rfl rfl rfl inferInstance rfl ?_))
  refine Pw.rounds 3 (Pw.round ?_)
  repeat (first | (with_reducible first | refine Pw.seq ?_ | refine Pw.region ?_ | refine Pw.nil ?_ | refine Pw.then_ ?_ | refine Pw.skip ?_ | refine Pw.block ?_ | refine Pw.exit ?_ | refine Pw.inX ?_ | refine Pw.inN ?_ | refine Pw.inR ?_ | refine Pw.thenX ?_ | refine Pw.thenR ?_ | refine Pw.ret ?_) | refine Pw.list (Pw.pure rfl rfl rfl ?_) | refine Pw.inY rfl ?_ | refine Pw.list (Pw.off rfl rfl ?_) | refine Pw.condT rfl ?_ | refine Pw.condF rfl ?_ | refine Pw.list (Pw.box rfl rfl rfl rfl (fun _ => ?_)) | refine Pw.list (Pw.alloc rfl rfl rfl rfl rfl (fun _ => ?_)) | refine Pw.list (Pw.build rfl rfl rfl rfl ?_) | refine Pw.list (Pw.ld rfl inferInstance rfl rfl rfl ?_) | refine Pw.list (Pw.sto rfl rfl inferInstance rfl rfl rfl rfl rfl inferInstance rfl ?_))
  refine Pw.list (Pw.indexS rfl rfl rfl rfl (Int.le_refl 0) (by show (0 : Int) < 1; omega) rfl rfl ?_)
  refine Pw.list (Pw.load1 rfl rfl (fun w hs => (hv w hs.all : I1 [0] (some ⟨gp, 0, none⟩, capp) w).cell (i := 0) (Int.le_refl 0) (by show (0 : Int) < 1; omega)) rfl rfl ?_)
  refine Pw.re (d := 22) (v' := .int .i64 0) rfl rfl ?_
  repeat (first | (with_reducible first | refine Pw.seq ?_ | refine Pw.region ?_ | refine Pw.nil ?_ | refine Pw.then_ ?_ | refine Pw.skip ?_ | refine Pw.block ?_ | refine Pw.exit ?_ | refine Pw.inX ?_ | refine Pw.inN ?_ | refine Pw.inR ?_ | refine Pw.thenX ?_ | refine Pw.thenR ?_ | refine Pw.ret ?_) | refine Pw.list (Pw.pure rfl rfl rfl ?_) | refine Pw.inY rfl ?_ | refine Pw.list (Pw.off rfl rfl ?_) | refine Pw.condT rfl ?_ | refine Pw.condF rfl ?_ | refine Pw.list (Pw.box rfl rfl rfl rfl (fun _ => ?_)) | refine Pw.list (Pw.alloc rfl rfl rfl rfl rfl (fun _ => ?_)) | refine Pw.list (Pw.build rfl rfl rfl rfl ?_) | refine Pw.list (Pw.ld rfl inferInstance rfl rfl rfl ?_) | refine Pw.list (Pw.sto rfl rfl inferInstance rfl rfl rfl rfl rfl inferInstance rfl ?_))
  refine Pw.drawnH2 (g := gr) (g' := gl) inferInstance inferInstance mixed rfl rfl ?_
  refine Pw.takeP 0 (nb 23 1) rfl rfl rfl rfl (by kernel_rfl) np so ?_
  refine Pw.takeP 1 (nb 23 3) rfl rfl rfl rfl (by kernel_rfl) np so ?_
  refine Pw.takeP 2 (nb 23 7) rfl rfl rfl rfl (by kernel_rfl) np so ?_
  refine Pw.takeP 3 (nb 23 15) rfl rfl rfl rfl (by kernel_rfl) np so ?_
  refine Pw.takeF 4 (nb 23 31) rfl rfl inferInstance rfl rfl rfl (by kernel_rfl) np so ?_
  refine Pw.takeP 5 (nb 23 63) rfl rfl rfl rfl (by kernel_rfl) np so ?_
  refine Pw.takeIx 6 (nb 23 127) rfl rfl rfl rfl rfl (by first | assumption | omega) (by first | assumption | omega) rfl rfl (by kernel_rfl) np so ?_
  refine Pw.takeF 7 (nb 23 255) rfl rfl inferInstance rfl rfl rfl (by kernel_rfl) np so ?_
  refine Pw.takeP 8 (nb 23 511) rfl rfl rfl rfl (by kernel_rfl) np so ?_
  refine Pw.takeP 9 (nb 23 1023) rfl rfl rfl rfl (by kernel_rfl) np so ?_
  refine Pw.takeP 10 (nb 23 2047) rfl rfl rfl rfl (by kernel_rfl) np so ?_
  refine Pw.takeP 11 (nb 23 4095) rfl rfl rfl rfl (by kernel_rfl) np so ?_
  refine Pw.takeF 12 (nb 23 8191) rfl rfl inferInstance rfl rfl rfl (by kernel_rfl) np so ?_
  refine Pw.takeP 13 (nb 23 16383) rfl rfl rfl rfl (by kernel_rfl) np so ?_
  refine Pw.takeIx 14 (nb 23 32767) rfl rfl rfl rfl rfl (by first | assumption | omega) (by first | assumption | omega) rfl rfl (by kernel_rfl) np so ?_
  refine Pw.takeFS 15 (nb 23 65535) rfl rfl rfl rfl rfl rfl rfl rfl (by kernel_rfl) np so ?_
  refine Pw.one 16 (nb 23 131071) rfl (by kernel_rfl) ?_
  refine Pw.loadF (⟨1, 5, [2], (some ap, cp)⟩ : Vtr) rfl inferInstance rfl rfl rfl rfl rfl rfl ?_
  refine Pw.held so ?_
  refine Pw.one 17 (nb 23 262143) rfl (by kernel_rfl) ?_
  refine Pw.call (times_ct [] (none, 0) 5 (fun x hx => by cases hx) (by simp)) rfl rfl rfl (by kernel_rfl) rfl rfl (fun w h => Rows.nil _ _ _ _ _) ?_
  intro zt _
  rw [t05]
  refine Pw.held so ?_
  refine Pw.one 18 (nb 23 524287) rfl (by kernel_rfl) ?_
  refine Pw.call (Add_ct [1] [] zd zt lm1 lm0 (by simp) (by simp)) rfl rfl rfl (by kernel_rfl) rfl rfl (fun w h => ⟨(hv w h), (hv w h)⟩) ?_
  intro zs _
  rw [a10]
  refine Pw.held so ?_
  refine Pw.takeP 19 (nb 23 1048575) rfl rfl rfl rfl (by kernel_rfl) np so ?_
  refine Pw.takeP 20 (nb 23 2097151) rfl rfl rfl rfl (by kernel_rfl) np so ?_
  refine Pw.takeP 21 (nb 23 4194303) rfl rfl rfl rfl (by kernel_rfl) np so ?_
  refine Pw.takeP 22 (nb 23 8388607) rfl rfl rfl rfl (by kernel_rfl) np so ?_
  refine Pw.done (by kernel_rfl) ?_
  skip
  repeat (first | (with_reducible first | refine Pw.seq ?_ | refine Pw.region ?_ | refine Pw.nil ?_ | refine Pw.then_ ?_ | refine Pw.skip ?_ | refine Pw.block ?_ | refine Pw.exit ?_ | refine Pw.inX ?_ | refine Pw.inN ?_ | refine Pw.inR ?_ | refine Pw.thenX ?_ | refine Pw.thenR ?_ | refine Pw.ret ?_) | refine Pw.list (Pw.pure rfl rfl rfl ?_) | refine Pw.inY rfl ?_ | refine Pw.list (Pw.off rfl rfl ?_) | refine Pw.condT rfl ?_ | refine Pw.condF rfl ?_ | refine Pw.list (Pw.box rfl rfl rfl rfl (fun _ => ?_)) | refine Pw.list (Pw.alloc rfl rfl rfl rfl rfl (fun _ => ?_)) | refine Pw.list (Pw.build rfl rfl rfl rfl ?_) | refine Pw.list (Pw.ld rfl inferInstance rfl rfl rfl ?_) | refine Pw.list (Pw.sto rfl rfl inferInstance rfl rfl rfl rfl rfl inferInstance rfl ?_))
  refine Pw.list (Pw.indexS rfl rfl rfl rfl (Int.le_refl 0) (by show (0 : Int) < 1; omega) rfl rfl ?_)
  refine Pw.list (Pw.fieldS rfl rfl rfl rfl rfl rfl rfl ?_)
  refine Pw.list (Pw.loadF (⟨1, 5, [2], (some ap, cp)⟩ : Vtr) rfl inferInstance rfl rfl rfl rfl rfl rfl ?_)
  repeat (first | (with_reducible first | refine Pw.seq ?_ | refine Pw.region ?_ | refine Pw.nil ?_ | refine Pw.then_ ?_ | refine Pw.skip ?_ | refine Pw.block ?_ | refine Pw.exit ?_ | refine Pw.inX ?_ | refine Pw.inN ?_ | refine Pw.inR ?_ | refine Pw.thenX ?_ | refine Pw.thenR ?_ | refine Pw.ret ?_) | refine Pw.list (Pw.pure rfl rfl rfl ?_) | refine Pw.inY rfl ?_ | refine Pw.list (Pw.off rfl rfl ?_) | refine Pw.condT rfl ?_ | refine Pw.condF rfl ?_ | refine Pw.list (Pw.box rfl rfl rfl rfl (fun _ => ?_)) | refine Pw.list (Pw.alloc rfl rfl rfl rfl rfl (fun _ => ?_)) | refine Pw.list (Pw.build rfl rfl rfl rfl ?_) | refine Pw.list (Pw.ld rfl inferInstance rfl rfl rfl ?_) | refine Pw.list (Pw.sto rfl rfl inferInstance rfl rfl rfl rfl rfl inferInstance rfl ?_))
  refine Pw.re (d := 5) (v' := .int .u64 5) rfl (by kernel_rfl) ?_
  refine Pw.re (d := 19) (v' := .int .i64 1) rfl (by kernel_rfl) ?_
  refine Pw.round ?_
  repeat (first | (with_reducible first | refine Pw.seq ?_ | refine Pw.region ?_ | refine Pw.nil ?_ | refine Pw.then_ ?_ | refine Pw.skip ?_ | refine Pw.block ?_ | refine Pw.exit ?_ | refine Pw.inX ?_ | refine Pw.inN ?_ | refine Pw.inR ?_ | refine Pw.thenX ?_ | refine Pw.thenR ?_ | refine Pw.ret ?_) | refine Pw.list (Pw.pure rfl rfl rfl ?_) | refine Pw.inY rfl ?_ | refine Pw.list (Pw.off rfl rfl ?_) | refine Pw.condT rfl ?_ | refine Pw.condF rfl ?_ | refine Pw.list (Pw.box rfl rfl rfl rfl (fun _ => ?_)) | refine Pw.list (Pw.alloc rfl rfl rfl rfl rfl (fun _ => ?_)) | refine Pw.list (Pw.build rfl rfl rfl rfl ?_) | refine Pw.list (Pw.ld rfl inferInstance rfl rfl rfl ?_) | refine Pw.list (Pw.sto rfl rfl inferInstance rfl rfl rfl rfl rfl inferInstance rfl ?_))
  refine Pw.back hR (.tmp rfl (.tmp rfl .nil)) rfl ?_
  clear hR
  repeat (first | (with_reducible first | refine Pw.seq ?_ | refine Pw.region ?_ | refine Pw.nil ?_ | refine Pw.then_ ?_ | refine Pw.skip ?_ | refine Pw.block ?_ | refine Pw.exit ?_ | refine Pw.inX ?_ | refine Pw.inN ?_ | refine Pw.inR ?_ | refine Pw.thenX ?_ | refine Pw.thenR ?_ | refine Pw.ret ?_) | refine Pw.list (Pw.pure rfl rfl rfl ?_) | refine Pw.inY rfl ?_ | refine Pw.list (Pw.off rfl rfl ?_) | refine Pw.condT rfl ?_ | refine Pw.condF rfl ?_ | refine Pw.list (Pw.box rfl rfl rfl rfl (fun _ => ?_)) | refine Pw.list (Pw.alloc rfl rfl rfl rfl rfl (fun _ => ?_)) | refine Pw.list (Pw.build rfl rfl rfl rfl ?_) | refine Pw.list (Pw.ld rfl inferInstance rfl rfl rfl ?_) | refine Pw.list (Pw.sto rfl rfl inferInstance rfl rfl rfl rfl rfl inferInstance rfl ?_))
  refine Pw.re (d := 3) (v' := .int .i64 2) rfl rfl ?_
  refine Pw.re (d := 5) (v' := .int .u64 5) rfl rfl ?_
  refine Pw.re (d := 4) (v' := sl [1] zs) rfl rfl ?_
  refine Pw.re (d := 23) (v' := .int .i64 1) rfl (by kernel_rfl) ?_
  refine Pw.round ?_
  repeat (first | (with_reducible first | refine Pw.seq ?_ | refine Pw.region ?_ | refine Pw.nil ?_ | refine Pw.then_ ?_ | refine Pw.skip ?_ | refine Pw.block ?_ | refine Pw.exit ?_ | refine Pw.inX ?_ | refine Pw.inN ?_ | refine Pw.inR ?_ | refine Pw.thenX ?_ | refine Pw.thenR ?_ | refine Pw.ret ?_) | refine Pw.list (Pw.pure rfl rfl rfl ?_) | refine Pw.inY rfl ?_ | refine Pw.list (Pw.off rfl rfl ?_) | refine Pw.condT rfl ?_ | refine Pw.condF rfl ?_ | refine Pw.list (Pw.box rfl rfl rfl rfl (fun _ => ?_)) | refine Pw.list (Pw.alloc rfl rfl rfl rfl rfl (fun _ => ?_)) | refine Pw.list (Pw.build rfl rfl rfl rfl ?_) | refine Pw.list (Pw.ld rfl inferInstance rfl rfl rfl ?_) | refine Pw.list (Pw.sto rfl rfl inferInstance rfl rfl rfl rfl rfl inferInstance rfl ?_))
  refine Pw.list (Pw.call (times_ct [1] zd 5 lm1 (by simp)) rfl rfl rfl (by kernel_rfl) rfl rfl (fun w h => (hv w h)) ?_)
  intro zn _
  rw [t15]
  repeat (first | (with_reducible first | refine Pw.seq ?_ | refine Pw.region ?_ | refine Pw.nil ?_ | refine Pw.then_ ?_ | refine Pw.skip ?_ | refine Pw.block ?_ | refine Pw.exit ?_ | refine Pw.inX ?_ | refine Pw.inN ?_ | refine Pw.inR ?_ | refine Pw.thenX ?_ | refine Pw.thenR ?_ | refine Pw.ret ?_) | refine Pw.list (Pw.pure rfl rfl rfl ?_) | refine Pw.inY rfl ?_ | refine Pw.list (Pw.off rfl rfl ?_) | refine Pw.condT rfl ?_ | refine Pw.condF rfl ?_ | refine Pw.list (Pw.box rfl rfl rfl rfl (fun _ => ?_)) | refine Pw.list (Pw.alloc rfl rfl rfl rfl rfl (fun _ => ?_)) | refine Pw.list (Pw.build rfl rfl rfl rfl ?_) | refine Pw.list (Pw.ld rfl inferInstance rfl rfl rfl ?_) | refine Pw.list (Pw.sto rfl rfl inferInstance rfl rfl rfl rfl rfl inferInstance rfl ?_))
  refine Pw.list (Pw.call (Make_ct [1] [5] zs zn lm1 lm5 (by simp) (by simp)) rfl rfl rfl (by kernel_rfl) rfl rfl (fun w h => ⟨(hv w h), (hv w h)⟩) ?_)
  intro zw _
  generalize makeS [1] [5] = mw
  obtain ⟨m1, m2, m3⟩ := mw
  repeat (first | (with_reducible first | refine Pw.seq ?_ | refine Pw.region ?_ | refine Pw.nil ?_ | refine Pw.then_ ?_ | refine Pw.skip ?_ | refine Pw.block ?_ | refine Pw.exit ?_ | refine Pw.inX ?_ | refine Pw.inN ?_ | refine Pw.inR ?_ | refine Pw.thenX ?_ | refine Pw.thenR ?_ | refine Pw.ret ?_) | refine Pw.list (Pw.pure rfl rfl rfl ?_) | refine Pw.inY rfl ?_ | refine Pw.list (Pw.off rfl rfl ?_) | refine Pw.condT rfl ?_ | refine Pw.condF rfl ?_ | refine Pw.list (Pw.box rfl rfl rfl rfl (fun _ => ?_)) | refine Pw.list (Pw.alloc rfl rfl rfl rfl rfl (fun _ => ?_)) | refine Pw.list (Pw.build rfl rfl rfl rfl ?_) | refine Pw.list (Pw.ld rfl inferInstance rfl rfl rfl ?_) | refine Pw.list (Pw.sto rfl rfl inferInstance rfl rfl rfl rfl rfl inferInstance rfl ?_))
  refine freeHead ?_
  refine Pw.joinQ (σ := Nat × Nat) (fun _ => True) (fun t => ⟨[(0, .pointer (some ⟨gr, 0, none⟩)), (3, .int .i64 2), (4, sl [1] zs), (5, .int .u64 5)], [⟨gm, mapO []⟩, ⟨gl, row (.slice none 0 0 :: exl) 34⟩, ⟨gr, row [.slice (some av) 1 cz, sl [2] (some ac, cc), .map (some ga), sl [5] zn, .slice (some ⟨gl, 0, none⟩) 1 capl, .slice (some ⟨ge, 0, none⟩) 1 cape, .slice (some ⟨t.1, 0, none⟩) 1 t.2] 75⟩, ⟨ga, mapO [(2, .slice (some ⟨gp, 0, none⟩) 1 capp)]⟩], [fun W => W.cell? ⟨t.1, 0, none⟩ = some (.int .i64 2), fun W => W.heap[ge]? = some (row (.map (some gm) :: exe) 103), I1 [0] (some ⟨gp, 0, none⟩, capp), S1 [1] zs, S1 [5] zn, VS [⟨1, 5, [2], (some ap, cp)⟩] (some av, cz), I1 [2] (some ac, cc)]⟩) ?_ ?_
  · skip
    refine Pw.drawnG mixed rfl rfl ?_
    refine Pw.takeP 0 (nb 13 1) rfl rfl rfl rfl (by kernel_rfl) np sf ?_
    refine Pw.takeP 1 (nb 13 3) rfl rfl rfl rfl (by kernel_rfl) np sf ?_
    refine Pw.takeP 2 (nb 13 7) rfl rfl rfl rfl (by kernel_rfl) np sf ?_
    refine Pw.takeP 3 (nb 13 15) rfl rfl rfl rfl (by kernel_rfl) np sf ?_
    refine Pw.takeP 5 (nb 13 47) rfl rfl rfl rfl (by kernel_rfl) np sf ?_
    refine Pw.takeF 6 (nb 13 111) rfl rfl inferInstance rfl rfl rfl (by kernel_rfl) np sf ?_
    refine Pw.takeBuild 7 (nb 13 239) rfl rfl rfl rfl rfl (by kernel_rfl) np sf ?_
    refine Pw.two 4 8 (nb 13 255) (nb 13 495) rfl rfl (by kernel_rfl) ?_ ?_
    · skip
      refine Pw.ld rfl inferInstance rfl rfl rfl ?_
      refine Pw.held sf ?_
      refine Pw.one 8 (nb 13 511) rfl (by kernel_rfl) ?_
      refine Pw.lit13 rfl rfl rfl rfl rfl rfl rfl rfl rfl (fun gb0 => freeHead ?_)
      refine Pw.held sf ?_
      refine Pw.one 9 (nb 13 1023) rfl (by kernel_rfl) ?_
      refine Pw.push (s := none) (m := 0) (cells := []) (news := [.int .i64 2, sl m1 zw.1, sl m2 zw.2]) rfl rfl rfl rfl rfl rfl rfl ⟨rfl, rfl⟩ rfl (fun u hu => by
        simp only [List.mem_cons, List.not_mem_nil, or_false] at hu
        rcases hu with rfl | rfl | rfl <;> rfl) (fun w hs j u hu => by
        have h1 : w.heap[gb0]? = some (row [.int .i64 2, sl m1 zw.1, sl m2 zw.2] 38) := by first | exact fact0 hs.all | exact fact1 hs.all
        rw [add_none, cell_of_blk h1]
        simpa using hu) (by omega) (by simp only [maxLen]; omega) (by show 1 * 56 ≤ _; omega) rfl rfl (fun qs hqs => ?_)
      obtain _ | ⟨gs, caps, exs⟩ := qs
      · have := hqs.1; omega
      refine freeHead (g := gs) (o := row (.int .i64 2 :: sl m1 zw.1 :: sl m2 zw.2 :: exs) 38) ?_
      refine Pw.eqL (L' := [⟨gm, mapO []⟩, ⟨gl, row (.slice none 0 0 :: exl) 34⟩, ⟨gr, row [.slice (some av) 1 cz, sl [2] (some ac, cc), .map (some ga), sl [5] zn, .slice (some ⟨gl, 0, none⟩) 1 capl, .slice (some ⟨ge, 0, none⟩) 1 cape, .slice none 0 0] 75⟩, ⟨ga, mapO [(2, .slice (some ⟨gp, 0, none⟩) 1 capp)]⟩]) rfl ?_
      refine Pw.re (d := 94) (v' := .slice (some ⟨gs, 0, none⟩) 1 caps) rfl rfl ?_
      refine Pw.held sf ?_
      refine Pw.takeP 10 (nb 13 2047) rfl rfl rfl rfl (by kernel_rfl) np sf ?_
      refine Pw.takeP 11 (nb 13 4095) rfl rfl rfl rfl (by kernel_rfl) np sf ?_
      refine Pw.one 12 (nb 13 8191) rfl (by kernel_rfl) ?_
      refine Pw.sto rfl rfl inferInstance rfl rfl rfl rfl rfl inferInstance rfl ?_
      refine Pw.held sf ?_
      refine Pw.done (by kernel_rfl) ?_
      exact Pw.then_ (Pw.arrive (gs, caps) trivial ⟨rfl, rfl, rfl, rfl, trivial⟩ rfl (fun w h => allCons (by rw [cell_of_blk (fact0 h)]; rfl) (allCons (Blks.h (L := []) (g := ge) w (fun b hb => by cases hb) h) (allCons (hv w h) (allCons (hv w h) (allCons (hv w h) (allCons (hv w h) (allCons (hv w h) allNil))))))))
    · skip
      refine Pw.lit13 rfl rfl rfl rfl rfl rfl rfl rfl rfl (fun gb0 => freeHead ?_)
      refine Pw.held sf ?_
      refine Pw.one 4 (nb 13 511) rfl (by kernel_rfl) ?_
      refine Pw.ld rfl inferInstance rfl rfl rfl ?_
      refine Pw.held sf ?_
      refine Pw.one 9 (nb 13 1023) rfl (by kernel_rfl) ?_
      refine Pw.push (s := none) (m := 0) (cells := []) (news := [.int .i64 2, sl m1 zw.1, sl m2 zw.2]) rfl rfl rfl rfl rfl rfl rfl ⟨rfl, rfl⟩ rfl (fun u hu => by
        simp only [List.mem_cons, List.not_mem_nil, or_false] at hu
        rcases hu with rfl | rfl | rfl <;> rfl) (fun w hs j u hu => by
        have h1 : w.heap[gb0]? = some (row [.int .i64 2, sl m1 zw.1, sl m2 zw.2] 38) := by first | exact fact0 hs.all | exact fact1 hs.all
        rw [add_none, cell_of_blk h1]
        simpa using hu) (by omega) (by simp only [maxLen]; omega) (by show 1 * 56 ≤ _; omega) rfl rfl (fun qs hqs => ?_)
      obtain _ | ⟨gs, caps, exs⟩ := qs
      · have := hqs.1; omega
      refine freeHead (g := gs) (o := row (.int .i64 2 :: sl m1 zw.1 :: sl m2 zw.2 :: exs) 38) ?_
      refine Pw.eqL (L' := [⟨gm, mapO []⟩, ⟨gl, row (.slice none 0 0 :: exl) 34⟩, ⟨gr, row [.slice (some av) 1 cz, sl [2] (some ac, cc), .map (some ga), sl [5] zn, .slice (some ⟨gl, 0, none⟩) 1 capl, .slice (some ⟨ge, 0, none⟩) 1 cape, .slice none 0 0] 75⟩, ⟨ga, mapO [(2, .slice (some ⟨gp, 0, none⟩) 1 capp)]⟩]) rfl ?_
      refine Pw.re (d := 94) (v' := .slice (some ⟨gs, 0, none⟩) 1 caps) rfl rfl ?_
      refine Pw.held sf ?_
      refine Pw.takeP 10 (nb 13 2047) rfl rfl rfl rfl (by kernel_rfl) np sf ?_
      refine Pw.takeP 11 (nb 13 4095) rfl rfl rfl rfl (by kernel_rfl) np sf ?_
      refine Pw.one 12 (nb 13 8191) rfl (by kernel_rfl) ?_
      refine Pw.sto rfl rfl inferInstance rfl rfl rfl rfl rfl inferInstance rfl ?_
      refine Pw.held sf ?_
      refine Pw.done (by kernel_rfl) ?_
      exact Pw.then_ (Pw.arrive (gs, caps) trivial ⟨rfl, rfl, rfl, rfl, trivial⟩ rfl (fun w h => allCons (by rw [cell_of_blk (fact0 h)]; rfl) (allCons (Blks.h (L := []) (g := ge) w (fun b hb => by cases hb) h) (allCons (hv w h) (allCons (hv w h) (allCons (hv w h) (allCons (hv w h) (allCons (hv w h) allNil))))))))
  rintro ⟨gs, caps⟩ _
  dsimp only
  refine Pw.perm (List.perm_middle (l₁ := [_, _])) (freeHead ?_)
  refine Pw.eqL (L' := [⟨gm, mapO []⟩, ⟨gl, row (.slice none 0 0 :: exl) 34⟩, ⟨ga, mapO [(2, .slice (some ⟨gp, 0, none⟩) 1 capp)]⟩]) rfl ?_
  repeat (first | (with_reducible first | refine Pw.seq ?_ | refine Pw.region ?_ | refine Pw.nil ?_ | refine Pw.then_ ?_ | refine Pw.skip ?_ | refine Pw.block ?_ | refine Pw.exit ?_ | refine Pw.inX ?_ | refine Pw.inN ?_ | refine Pw.inR ?_ | refine Pw.thenX ?_ | refine Pw.thenR ?_ | refine Pw.ret ?_) | refine Pw.list (Pw.pure rfl rfl rfl ?_) | refine Pw.inY rfl ?_ | refine Pw.list (Pw.off rfl rfl ?_) | refine Pw.condT rfl ?_ | refine Pw.condF rfl ?_ | refine Pw.list (Pw.box rfl rfl rfl rfl (fun _ => ?_)) | refine Pw.list (Pw.alloc rfl rfl rfl rfl rfl (fun _ => ?_)) | refine Pw.list (Pw.build rfl rfl rfl rfl ?_) | refine Pw.list (Pw.ld rfl inferInstance rfl rfl rfl ?_) | refine Pw.list (Pw.sto rfl rfl inferInstance rfl rfl rfl rfl rfl inferInstance rfl ?_))
  refine Pw.rounds 3 (Pw.round ?_)
  repeat (first | (with_reducible first | refine Pw.seq ?_ | refine Pw.region ?_ | refine Pw.nil ?_ | refine Pw.then_ ?_ | refine Pw.skip ?_ | refine Pw.block ?_ | refine Pw.exit ?_ | refine Pw.inX ?_ | refine Pw.inN ?_ | refine Pw.inR ?_ | refine Pw.thenX ?_ | refine Pw.thenR ?_ | refine Pw.ret ?_) | refine Pw.list (Pw.pure rfl rfl rfl ?_) | refine Pw.inY rfl ?_ | refine Pw.list (Pw.off rfl rfl ?_) | refine Pw.condT rfl ?_ | refine Pw.condF rfl ?_ | refine Pw.list (Pw.box rfl rfl rfl rfl (fun _ => ?_)) | refine Pw.list (Pw.alloc rfl rfl rfl rfl rfl (fun _ => ?_)) | refine Pw.list (Pw.build rfl rfl rfl rfl ?_) | refine Pw.list (Pw.ld rfl inferInstance rfl rfl rfl ?_) | refine Pw.list (Pw.sto rfl rfl inferInstance rfl rfl rfl rfl rfl inferInstance rfl ?_))
  refine Pw.drawnG mixed rfl rfl ?_
  refine Pw.takeP 0 (nb 16 1) rfl rfl rfl rfl (by kernel_rfl) np sf ?_
  refine Pw.takeP 1 (nb 16 3) rfl rfl rfl rfl (by kernel_rfl) np sf ?_
  refine Pw.takeP 2 (nb 16 7) rfl rfl rfl rfl (by kernel_rfl) np sf ?_
  refine Pw.takeF 3 (nb 16 15) rfl rfl inferInstance rfl rfl rfl (by kernel_rfl) np sf ?_
  refine Pw.takeP 4 (nb 16 31) rfl rfl rfl rfl (by kernel_rfl) np sf ?_
  refine Pw.takeP 5 (nb 16 63) rfl rfl rfl rfl (by kernel_rfl) np sf ?_
  refine Pw.takeP 6 (nb 16 127) rfl rfl rfl rfl (by kernel_rfl) np sf ?_
  refine Pw.takeP 7 (nb 16 255) rfl rfl rfl rfl (by kernel_rfl) np sf ?_
  refine Pw.takeF 8 (nb 16 511) rfl rfl inferInstance rfl rfl rfl (by kernel_rfl) np sf ?_
  refine Pw.takeP 9 (nb 16 1023) rfl rfl rfl rfl (by kernel_rfl) np sf ?_
  refine Pw.takeIx 10 (nb 16 2047) rfl rfl rfl rfl rfl (by first | assumption | omega) (by first | assumption | omega) rfl rfl (by kernel_rfl) np sf ?_
  refine Pw.takeP 12 (nb 16 6143) rfl rfl rfl rfl (by kernel_rfl) np sf ?_
  refine Pw.one 11 (nb 16 8191) rfl (by kernel_rfl) ?_
  refine Pw.ld rfl inferInstance rfl rfl rfl ?_
  refine Pw.held sf ?_
  refine Pw.one 13 (nb 16 16383) rfl (by kernel_rfl) ?_
  refine Pw.call (times_ct [] (none, 0) 5 (fun x hx => by cases hx) (by simp)) rfl rfl rfl (by kernel_rfl) rfl rfl (fun w h => Rows.nil _ _ _ _ _) ?_
  intro zt _
  rw [t05]
  refine Pw.re (d := 118) (v' := .slice zt.1 0 zt.2) rfl rfl ?_
  refine Pw.held sf ?_
  refine Pw.takeIx 14 (nb 16 32767) rfl rfl rfl rfl rfl (by first | assumption | omega) (by first | assumption | omega) rfl rfl (by kernel_rfl) np sf ?_
  refine Pw.one 15 (nb 16 65535) rfl (by kernel_rfl) ?_
  refine Pw.sto (vs := [.slice zt.1 0 zt.2]) rfl rfl inferInstance rfl rfl rfl rfl (putN_here (old := [.slice none 0 0]) (post := exl) rfl) inferInstance rfl ?_
  refine Pw.held sf ?_
  refine Pw.done (by kernel_rfl) ?_
  skip
  repeat (first | (with_reducible first | refine Pw.seq ?_ | refine Pw.region ?_ | refine Pw.nil ?_ | refine Pw.then_ ?_ | refine Pw.skip ?_ | refine Pw.block ?_ | refine Pw.exit ?_ | refine Pw.inX ?_ | refine Pw.inN ?_ | refine Pw.inR ?_ | refine Pw.thenX ?_ | refine Pw.thenR ?_ | refine Pw.ret ?_) | refine Pw.list (Pw.pure rfl rfl rfl ?_) | refine Pw.inY rfl ?_ | refine Pw.list (Pw.off rfl rfl ?_) | refine Pw.condT rfl ?_ | refine Pw.condF rfl ?_ | refine Pw.list (Pw.box rfl rfl rfl rfl (fun _ => ?_)) | refine Pw.list (Pw.alloc rfl rfl rfl rfl rfl (fun _ => ?_)) | refine Pw.list (Pw.build rfl rfl rfl rfl ?_) | refine Pw.list (Pw.ld rfl inferInstance rfl rfl rfl ?_) | refine Pw.list (Pw.sto rfl rfl inferInstance rfl rfl rfl rfl rfl inferInstance rfl ?_))
  refine Pw.re (d := 102) (v' := .int .i64 1) rfl (by kernel_rfl) ?_
  refine Pw.round ?_
  repeat (first | (with_reducible first | refine Pw.seq ?_ | refine Pw.region ?_ | refine Pw.nil ?_ | refine Pw.then_ ?_ | refine Pw.skip ?_ | refine Pw.block ?_ | refine Pw.exit ?_ | refine Pw.inX ?_ | refine Pw.inN ?_ | refine Pw.inR ?_ | refine Pw.thenX ?_ | refine Pw.thenR ?_ | refine Pw.ret ?_) | refine Pw.list (Pw.pure rfl rfl rfl ?_) | refine Pw.inY rfl ?_ | refine Pw.list (Pw.off rfl rfl ?_) | refine Pw.condT rfl ?_ | refine Pw.condF rfl ?_ | refine Pw.list (Pw.box rfl rfl rfl rfl (fun _ => ?_)) | refine Pw.list (Pw.alloc rfl rfl rfl rfl rfl (fun _ => ?_)) | refine Pw.list (Pw.build rfl rfl rfl rfl ?_) | refine Pw.list (Pw.ld rfl inferInstance rfl rfl rfl ?_) | refine Pw.list (Pw.sto rfl rfl inferInstance rfl rfl rfl rfl rfl inferInstance rfl ?_))
  refine Pw.list (Pw.lookupF (m := [(2, .slice (some ⟨gp, 0, none⟩) 1 capp)]) rfl rfl rfl rfl rfl rfl (fun w hs => hs.own ⟨ga, _⟩ (.tail _ (.tail _ (.head _)))) rfl rfl ?_)
  refine Pw.re (d := 126) (v' := .slice (some ⟨gp, 0, none⟩) 1 capp) rfl rfl ?_
  repeat (first | (with_reducible first | refine Pw.seq ?_ | refine Pw.region ?_ | refine Pw.nil ?_ | refine Pw.then_ ?_ | refine Pw.skip ?_ | refine Pw.block ?_ | refine Pw.exit ?_ | refine Pw.inX ?_ | refine Pw.inN ?_ | refine Pw.inR ?_ | refine Pw.thenX ?_ | refine Pw.thenR ?_ | refine Pw.ret ?_) | refine Pw.list (Pw.pure rfl rfl rfl ?_) | refine Pw.inY rfl ?_ | refine Pw.list (Pw.off rfl rfl ?_) | refine Pw.condT rfl ?_ | refine Pw.condF rfl ?_ | refine Pw.list (Pw.box rfl rfl rfl rfl (fun _ => ?_)) | refine Pw.list (Pw.alloc rfl rfl rfl rfl rfl (fun _ => ?_)) | refine Pw.list (Pw.build rfl rfl rfl rfl ?_) | refine Pw.list (Pw.ld rfl inferInstance rfl rfl rfl ?_) | refine Pw.list (Pw.sto rfl rfl inferInstance rfl rfl rfl rfl rfl inferInstance rfl ?_))
  refine Pw.rounds 3 (Pw.round ?_)
  repeat (first | (with_reducible first | refine Pw.seq ?_ | refine Pw.region ?_ | refine Pw.nil ?_ | refine Pw.then_ ?_ | refine Pw.skip ?_ | refine Pw.block ?_ | refine Pw.exit ?_ | refine Pw.inX ?_ | refine Pw.inN ?_ | refine Pw.inR ?_ | refine Pw.thenX ?_ | refine Pw.thenR ?_ | refine Pw.ret ?_) | refine Pw.list (Pw.pure rfl rfl rfl ?_) | refine Pw.inY rfl ?_ | refine Pw.list (Pw.off rfl rfl ?_) | refine Pw.condT rfl ?_ | refine Pw.condF rfl ?_ | refine Pw.list (Pw.box rfl rfl rfl rfl (fun _ => ?_)) | refine Pw.list (Pw.alloc rfl rfl rfl rfl rfl (fun _ => ?_)) | refine Pw.list (Pw.build rfl rfl rfl rfl ?_) | refine Pw.list (Pw.ld rfl inferInstance rfl rfl rfl ?_) | refine Pw.list (Pw.sto rfl rfl inferInstance rfl rfl rfl rfl rfl inferInstance rfl ?_))
  refine Pw.list (Pw.indexS rfl rfl rfl rfl (Int.le_refl 0) (by show (0 : Int) < 1; omega) rfl rfl ?_)
  refine Pw.list (Pw.load1 rfl rfl (fun w hs => (hv w hs.all : I1 [0] (some ⟨gp, 0, none⟩, capp) w).cell (i := 0) (Int.le_refl 0) (by show (0 : Int) < 1; omega)) rfl rfl ?_)
  refine Pw.re (d := 131) (v' := .int .i64 0) rfl rfl ?_
  repeat (first | (with_reducible first | refine Pw.seq ?_ | refine Pw.region ?_ | refine Pw.nil ?_ | refine Pw.then_ ?_ | refine Pw.skip ?_ | refine Pw.block ?_ | refine Pw.exit ?_ | refine Pw.inX ?_ | refine Pw.inN ?_ | refine Pw.inR ?_ | refine Pw.thenX ?_ | refine Pw.thenR ?_ | refine Pw.ret ?_) | refine Pw.list (Pw.pure rfl rfl rfl ?_) | refine Pw.inY rfl ?_ | refine Pw.list (Pw.off rfl rfl ?_) | refine Pw.condT rfl ?_ | refine Pw.condF rfl ?_ | refine Pw.list (Pw.box rfl rfl rfl rfl (fun _ => ?_)) | refine Pw.list (Pw.alloc rfl rfl rfl rfl rfl (fun _ => ?_)) | refine Pw.list (Pw.build rfl rfl rfl rfl ?_) | refine Pw.list (Pw.ld rfl inferInstance rfl rfl rfl ?_) | refine Pw.list (Pw.sto rfl rfl inferInstance rfl rfl rfl rfl rfl inferInstance rfl ?_))
  refine Pw.list (Pw.indexS rfl rfl rfl rfl (Int.le_refl 0) (by show (0 : Int) < 1; omega) rfl rfl ?_)
  repeat (first | (with_reducible first | refine Pw.seq ?_ | refine Pw.region ?_ | refine Pw.nil ?_ | refine Pw.then_ ?_ | refine Pw.skip ?_ | refine Pw.block ?_ | refine Pw.exit ?_ | refine Pw.inX ?_ | refine Pw.inN ?_ | refine Pw.inR ?_ | refine Pw.thenX ?_ | refine Pw.thenR ?_ | refine Pw.ret ?_) | refine Pw.list (Pw.pure rfl rfl rfl ?_) | refine Pw.inY rfl ?_ | refine Pw.list (Pw.off rfl rfl ?_) | refine Pw.condT rfl ?_ | refine Pw.condF rfl ?_ | refine Pw.list (Pw.box rfl rfl rfl rfl (fun _ => ?_)) | refine Pw.list (Pw.alloc rfl rfl rfl rfl rfl (fun _ => ?_)) | refine Pw.list (Pw.build rfl rfl rfl rfl ?_) | refine Pw.list (Pw.ld rfl inferInstance rfl rfl rfl ?_) | refine Pw.list (Pw.sto rfl rfl inferInstance rfl rfl rfl rfl rfl inferInstance rfl ?_))
  refine Pw.list (Pw.call (Sub_ct [1] [] zs zt lm1 lm0 (by simp) (by simp)) rfl rfl rfl (by kernel_rfl) rfl rfl (fun w h => ⟨(hv w h), (hv w h)⟩) ?_)
  intro zl _
  rw [s10]
  repeat (first | (with_reducible first | refine Pw.seq ?_ | refine Pw.region ?_ | refine Pw.nil ?_ | refine Pw.then_ ?_ | refine Pw.skip ?_ | refine Pw.block ?_ | refine Pw.exit ?_ | refine Pw.inX ?_ | refine Pw.inN ?_ | refine Pw.inR ?_ | refine Pw.thenX ?_ | refine Pw.thenR ?_ | refine Pw.ret ?_) | refine Pw.list (Pw.pure rfl rfl rfl ?_) | refine Pw.inY rfl ?_ | refine Pw.list (Pw.off rfl rfl ?_) | refine Pw.condT rfl ?_ | refine Pw.condF rfl ?_ | refine Pw.list (Pw.box rfl rfl rfl rfl (fun _ => ?_)) | refine Pw.list (Pw.alloc rfl rfl rfl rfl rfl (fun _ => ?_)) | refine Pw.list (Pw.build rfl rfl rfl rfl ?_) | refine Pw.list (Pw.ld rfl inferInstance rfl rfl rfl ?_) | refine Pw.list (Pw.sto rfl rfl inferInstance rfl rfl rfl rfl rfl inferInstance rfl ?_))
  refine Pw.drawnG mixed rfl rfl ?_
  refine Pw.takeP 0 (nb 15 1) rfl rfl rfl rfl (by kernel_rfl) np sf ?_
  refine Pw.takeP 1 (nb 15 3) rfl rfl rfl rfl (by kernel_rfl) np sf ?_
  refine Pw.takeP 2 (nb 15 7) rfl rfl rfl rfl (by kernel_rfl) np sf ?_
  refine Pw.takeF 3 (nb 15 15) rfl rfl inferInstance rfl rfl rfl (by kernel_rfl) np sf ?_
  refine Pw.takeP 4 (nb 15 31) rfl rfl rfl rfl (by kernel_rfl) np sf ?_
  refine Pw.takeIx 5 (nb 15 63) rfl rfl rfl rfl rfl (by first | assumption | omega) (by first | assumption | omega) rfl rfl (by kernel_rfl) np sf ?_
  refine Pw.takeF 6 (nb 15 127) rfl rfl inferInstance rfl rfl rfl (by kernel_rfl) np sf ?_
  refine Pw.takeP 7 (nb 15 255) rfl rfl rfl rfl (by kernel_rfl) np sf ?_
  refine Pw.takeP 8 (nb 15 511) rfl rfl rfl rfl (by kernel_rfl) np sf ?_
  refine Pw.takeP 9 (nb 15 1023) rfl rfl rfl rfl (by kernel_rfl) np sf ?_
  refine Pw.takeP 10 (nb 15 2047) rfl rfl rfl rfl (by kernel_rfl) np sf ?_
  refine Pw.takeP 11 (nb 15 4095) rfl rfl rfl rfl (by kernel_rfl) np sf ?_
  refine Pw.takeF 12 (nb 15 8191) rfl rfl inferInstance rfl rfl rfl (by kernel_rfl) np sf ?_
  refine Pw.takeBuild 13 (nb 15 16383) rfl rfl rfl rfl rfl (by kernel_rfl) np sf ?_
  refine Pw.one 14 (nb 15 32767) rfl (by kernel_rfl) ?_
  refine Pw.re (d := 157) (v' := .agg #[sl [1] zl, sl [5] zn]) rfl rfl ?_
  refine Pw.mapNew (m := []) (k := 2) rfl rfl rfl rfl rfl (fun p hp => by cases hp) .head rfl ?_
  refine Pw.held sf ?_
  refine Pw.done (by kernel_rfl) ?_
  skip
  repeat (first | (with_reducible first | refine Pw.seq ?_ | refine Pw.region ?_ | refine Pw.nil ?_ | refine Pw.then_ ?_ | refine Pw.skip ?_ | refine Pw.block ?_ | refine Pw.exit ?_ | refine Pw.inX ?_ | refine Pw.inN ?_ | refine Pw.inR ?_ | refine Pw.thenX ?_ | refine Pw.thenR ?_ | refine Pw.ret ?_) | refine Pw.list (Pw.pure rfl rfl rfl ?_) | refine Pw.inY rfl ?_ | refine Pw.list (Pw.off rfl rfl ?_) | refine Pw.condT rfl ?_ | refine Pw.condF rfl ?_ | refine Pw.list (Pw.box rfl rfl rfl rfl (fun _ => ?_)) | refine Pw.list (Pw.alloc rfl rfl rfl rfl rfl (fun _ => ?_)) | refine Pw.list (Pw.build rfl rfl rfl rfl ?_) | refine Pw.list (Pw.ld rfl inferInstance rfl rfl rfl ?_) | refine Pw.list (Pw.sto rfl rfl inferInstance rfl rfl rfl rfl rfl inferInstance rfl ?_))
  refine Pw.list (Pw.indexS rfl rfl rfl rfl (Int.le_refl 0) (by show (0 : Int) < 1; omega) rfl rfl ?_)
  refine Pw.list (Pw.sto (vs := [.slice zs.1 1 zs.2]) rfl rfl inferInstance rfl rfl rfl rfl (putN_here (old := [.slice zt.1 0 zt.2]) (post := exl) rfl) inferInstance rfl ?_)
  repeat (first | (with_reducible first | refine Pw.seq ?_ | refine Pw.region ?_ | refine Pw.nil ?_ | refine Pw.then_ ?_ | refine Pw.skip ?_ | refine Pw.block ?_ | refine Pw.exit ?_ | refine Pw.inX ?_ | refine Pw.inN ?_ | refine Pw.inR ?_ | refine Pw.thenX ?_ | refine Pw.thenR ?_ | refine Pw.ret ?_) | refine Pw.list (Pw.pure rfl rfl rfl ?_) | refine Pw.inY rfl ?_ | refine Pw.list (Pw.off rfl rfl ?_) | refine Pw.condT rfl ?_ | refine Pw.condF rfl ?_ | refine Pw.list (Pw.box rfl rfl rfl rfl (fun _ => ?_)) | refine Pw.list (Pw.alloc rfl rfl rfl rfl rfl (fun _ => ?_)) | refine Pw.list (Pw.build rfl rfl rfl rfl ?_) | refine Pw.list (Pw.ld rfl inferInstance rfl rfl rfl ?_) | refine Pw.list (Pw.sto rfl rfl inferInstance rfl rfl rfl rfl rfl inferInstance rfl ?_))
  refine Pw.re (d := 128) (v' := .int .i64 1) rfl (by kernel_rfl) ?_
  refine Pw.round ?_
  repeat (first | (with_reducible first | refine Pw.seq ?_ | refine Pw.region ?_ | refine Pw.nil ?_ | refine Pw.then_ ?_ | refine Pw.skip ?_ | refine Pw.block ?_ | refine Pw.exit ?_ | refine Pw.inX ?_ | refine Pw.inN ?_ | refine Pw.inR ?_ | refine Pw.thenX ?_ | refine Pw.thenR ?_ | refine Pw.ret ?_) | refine Pw.list (Pw.pure rfl rfl rfl ?_) | refine Pw.inY rfl ?_ | refine Pw.list (Pw.off rfl rfl ?_) | refine Pw.condT rfl ?_ | refine Pw.condF rfl ?_ | refine Pw.list (Pw.box rfl rfl rfl rfl (fun _ => ?_)) | refine Pw.list (Pw.alloc rfl rfl rfl rfl rfl (fun _ => ?_)) | refine Pw.list (Pw.build rfl rfl rfl rfl ?_) | refine Pw.list (Pw.ld rfl inferInstance rfl rfl rfl ?_) | refine Pw.list (Pw.sto rfl rfl inferInstance rfl rfl rfl rfl rfl inferInstance rfl ?_))
  refine Pw.back hR (.tmp rfl .nil) rfl ?_
  clear hR
  refine Pw.eqL (L' := [⟨gm, mapO [(2, .agg #[sl [1] zl, sl [5] zn])]⟩, ⟨gl, row (.slice zs.1 1 zs.2 :: exl) 34⟩, ⟨ga, mapO [(2, .slice (some ⟨gp, 0, none⟩) 1 capp)]⟩]) rfl (freeHead (freeHead ?_))
  repeat (first | (with_reducible first | refine Pw.seq ?_ | refine Pw.region ?_ | refine Pw.nil ?_ | refine Pw.then_ ?_ | refine Pw.skip ?_ | refine Pw.block ?_ | refine Pw.exit ?_ | refine Pw.inX ?_ | refine Pw.inN ?_ | refine Pw.inR ?_ | refine Pw.thenX ?_ | refine Pw.thenR ?_ | refine Pw.ret ?_) | refine Pw.list (Pw.pure rfl rfl rfl ?_) | refine Pw.inY rfl ?_ | refine Pw.list (Pw.off rfl rfl ?_) | refine Pw.condT rfl ?_ | refine Pw.condF rfl ?_ | refine Pw.list (Pw.box rfl rfl rfl rfl (fun _ => ?_)) | refine Pw.list (Pw.alloc rfl rfl rfl rfl rfl (fun _ => ?_)) | refine Pw.list (Pw.build rfl rfl rfl rfl ?_) | refine Pw.list (Pw.ld rfl inferInstance rfl rfl rfl ?_) | refine Pw.list (Pw.sto rfl rfl inferInstance rfl rfl rfl rfl rfl inferInstance rfl ?_))
  refine Pw.round ?_
  repeat (first | (with_reducible first | refine Pw.seq ?_ | refine Pw.region ?_ | refine Pw.nil ?_ | refine Pw.then_ ?_ | refine Pw.skip ?_ | refine Pw.block ?_ | refine Pw.exit ?_ | refine Pw.inX ?_ | refine Pw.inN ?_ | refine Pw.inR ?_ | refine Pw.thenX ?_ | refine Pw.thenR ?_ | refine Pw.ret ?_) | refine Pw.list (Pw.pure rfl rfl rfl ?_) | refine Pw.inY rfl ?_ | refine Pw.list (Pw.off rfl rfl ?_) | refine Pw.condT rfl ?_ | refine Pw.condF rfl ?_ | refine Pw.list (Pw.box rfl rfl rfl rfl (fun _ => ?_)) | refine Pw.list (Pw.alloc rfl rfl rfl rfl rfl (fun _ => ?_)) | refine Pw.list (Pw.build rfl rfl rfl rfl ?_) | refine Pw.list (Pw.ld rfl inferInstance rfl rfl rfl ?_) | refine Pw.list (Pw.sto rfl rfl inferInstance rfl rfl rfl rfl rfl inferInstance rfl ?_))
  refine Pw.drawnG mixed rfl rfl ?_
  refine Pw.takeP 0 (nb 9 1) rfl rfl rfl rfl (by kernel_rfl) np sf ?_
  refine Pw.takeP 1 (nb 9 3) rfl rfl rfl rfl (by kernel_rfl) np sf ?_
  refine Pw.takeP 2 (nb 9 7) rfl rfl rfl rfl (by kernel_rfl) np sf ?_
  refine Pw.takeF 3 (nb 9 15) rfl rfl inferInstance rfl rfl rfl (by kernel_rfl) np sf ?_
  refine Pw.takeP 4 (nb 9 31) rfl rfl rfl rfl (by kernel_rfl) np sf ?_
  refine Pw.one 5 (nb 9 63) rfl (by kernel_rfl) ?_
  -- call Op.call { callee := Callee.value (Operand.func 28), args := #[Operand.tmp 36], argTypes := #[69] }
  refine Pw.inline (K' := [(0, .pointer (some ⟨gr, 0, none⟩))]) Try.func28 rfl rfl rfl rfl (by kernel_rfl) rfl rfl rfl (slots_of rfl slots1) (fun R hR => ?_)
  repeat (first | (with_reducible first | refine Pw.seq ?_ | refine Pw.region ?_ | refine Pw.nil ?_ | refine Pw.then_ ?_ | refine Pw.skip ?_ | refine Pw.block ?_ | refine Pw.exit ?_ | refine Pw.inX ?_ | refine Pw.inN ?_ | refine Pw.inR ?_ | refine Pw.thenX ?_ | refine Pw.thenR ?_ | refine Pw.ret ?_) | refine Pw.list (Pw.pure rfl rfl rfl ?_) | refine Pw.inY rfl ?_ | refine Pw.list (Pw.off rfl rfl ?_) | refine Pw.condT rfl ?_ | refine Pw.condF rfl ?_ | refine Pw.list (Pw.box rfl rfl rfl rfl (fun _ => ?_)) | refine Pw.list (Pw.alloc rfl rfl rfl rfl rfl (fun _ => ?_)) | refine Pw.list (Pw.build rfl rfl rfl rfl ?_) | refine Pw.list (Pw.ld rfl inferInstance rfl rfl rfl ?_) | refine Pw.list (Pw.sto rfl rfl inferInstance rfl rfl rfl rfl rfl inferInstance rfl ?_))
  refine Pw.rounds 3 (Pw.round ?_)
  repeat (first | (with_reducible first | refine Pw.seq ?_ | refine Pw.region ?_ | refine Pw.nil ?_ | refine Pw.then_ ?_ | refine Pw.skip ?_ | refine Pw.block ?_ | refine Pw.exit ?_ | refine Pw.inX ?_ | refine Pw.inN ?_ | refine Pw.inR ?_ | refine Pw.thenX ?_ | refine Pw.thenR ?_ | refine Pw.ret ?_) | refine Pw.list (Pw.pure rfl rfl rfl ?_) | refine Pw.inY rfl ?_ | refine Pw.list (Pw.off rfl rfl ?_) | refine Pw.condT rfl ?_ | refine Pw.condF rfl ?_ | refine Pw.list (Pw.box rfl rfl rfl rfl (fun _ => ?_)) | refine Pw.list (Pw.alloc rfl rfl rfl rfl rfl (fun _ => ?_)) | refine Pw.list (Pw.build rfl rfl rfl rfl ?_) | refine Pw.list (Pw.ld rfl inferInstance rfl rfl rfl ?_) | refine Pw.list (Pw.sto rfl rfl inferInstance rfl rfl rfl rfl rfl inferInstance rfl ?_))
  refine Pw.list (Pw.indexS rfl rfl rfl rfl (Int.le_refl 0) (by show (0 : Int) < 1; omega) rfl rfl ?_)
  refine Pw.list (Pw.loadR (⟨1, 5, [2], (some ap, cp)⟩ : Vtr) rfl inferInstance rfl rfl (by kernel_rfl) rfl rfl ?_)
  refine Pw.re (d := 26) (v' := vtV ⟨1, 5, [2], (some ap, cp)⟩) rfl rfl ?_
  repeat (first | (with_reducible first | refine Pw.seq ?_ | refine Pw.region ?_ | refine Pw.nil ?_ | refine Pw.then_ ?_ | refine Pw.skip ?_ | refine Pw.block ?_ | refine Pw.exit ?_ | refine Pw.inX ?_ | refine Pw.inN ?_ | refine Pw.inR ?_ | refine Pw.thenX ?_ | refine Pw.thenR ?_ | refine Pw.ret ?_) | refine Pw.list (Pw.pure rfl rfl rfl ?_) | refine Pw.inY rfl ?_ | refine Pw.list (Pw.off rfl rfl ?_) | refine Pw.condT rfl ?_ | refine Pw.condF rfl ?_ | refine Pw.list (Pw.box rfl rfl rfl rfl (fun _ => ?_)) | refine Pw.list (Pw.alloc rfl rfl rfl rfl rfl (fun _ => ?_)) | refine Pw.list (Pw.build rfl rfl rfl rfl ?_) | refine Pw.list (Pw.ld rfl inferInstance rfl rfl rfl ?_) | refine Pw.list (Pw.sto rfl rfl inferInstance rfl rfl rfl rfl rfl inferInstance rfl ?_))
  refine freeHead ?_
  repeat (first | (with_reducible first | refine Pw.seq ?_ | refine Pw.region ?_ | refine Pw.nil ?_ | refine Pw.then_ ?_ | refine Pw.skip ?_ | refine Pw.block ?_ | refine Pw.exit ?_ | refine Pw.inX ?_ | refine Pw.inN ?_ | refine Pw.inR ?_ | refine Pw.thenX ?_ | refine Pw.thenR ?_ | refine Pw.ret ?_) | refine Pw.list (Pw.pure rfl rfl rfl ?_) | refine Pw.inY rfl ?_ | refine Pw.list (Pw.off rfl rfl ?_) | refine Pw.condT rfl ?_ | refine Pw.condF rfl ?_ | refine Pw.list (Pw.box rfl rfl rfl rfl (fun _ => ?_)) | refine Pw.list (Pw.alloc rfl rfl rfl rfl rfl (fun _ => ?_)) | refine Pw.list (Pw.build rfl rfl rfl rfl ?_) | refine Pw.list (Pw.ld rfl inferInstance rfl rfl rfl ?_) | refine Pw.list (Pw.sto rfl rfl inferInstance rfl rfl rfl rfl rfl inferInstance rfl ?_))
  refine Pw.rounds 3 (Pw.round ?_)
  repeat (first | (with_reducible first | refine Pw.seq ?_ | refine Pw.region ?_ | refine Pw.nil ?_ | refine Pw.then_ ?_ | refine Pw.skip ?_ | refine Pw.block ?_ | refine Pw.exit ?_ | refine Pw.inX ?_ | refine Pw.inN ?_ | refine Pw.inR ?_ | refine Pw.thenX ?_ | refine Pw.thenR ?_ | refine Pw.ret ?_) | refine Pw.list (Pw.pure rfl rfl rfl ?_) | refine Pw.inY rfl ?_ | refine Pw.list (Pw.off rfl rfl ?_) | refine Pw.condT rfl ?_ | refine Pw.condF rfl ?_ | refine Pw.list (Pw.box rfl rfl rfl rfl (fun _ => ?_)) | refine Pw.list (Pw.alloc rfl rfl rfl rfl rfl (fun _ => ?_)) | refine Pw.list (Pw.build rfl rfl rfl rfl ?_) | refine Pw.list (Pw.ld rfl inferInstance rfl rfl rfl ?_) | refine Pw.list (Pw.sto rfl rfl inferInstance rfl rfl rfl rfl rfl inferInstance rfl ?_))
  refine Pw.list (Pw.indexS rfl rfl rfl rfl (Int.le_refl 0) (by show (0 : Int) < 1; omega) rfl rfl ?_)
  refine Pw.list (Pw.load1 rfl rfl (fun w hs => (hv w hs.all : I1 [2] (some ac, cc) w).cell (i := 0) (Int.le_refl 0) (by show (0 : Int) < 1; omega)) rfl rfl ?_)
  refine Pw.re (d := 36) (v' := .int .i64 2) rfl rfl ?_
  repeat (first | (with_reducible first | refine Pw.seq ?_ | refine Pw.region ?_ | refine Pw.nil ?_ | refine Pw.then_ ?_ | refine Pw.skip ?_ | refine Pw.block ?_ | refine Pw.exit ?_ | refine Pw.inX ?_ | refine Pw.inN ?_ | refine Pw.inR ?_ | refine Pw.thenX ?_ | refine Pw.thenR ?_ | refine Pw.ret ?_) | refine Pw.list (Pw.pure rfl rfl rfl ?_) | refine Pw.inY rfl ?_ | refine Pw.list (Pw.off rfl rfl ?_) | refine Pw.condT rfl ?_ | refine Pw.condF rfl ?_ | refine Pw.list (Pw.box rfl rfl rfl rfl (fun _ => ?_)) | refine Pw.list (Pw.alloc rfl rfl rfl rfl rfl (fun _ => ?_)) | refine Pw.list (Pw.build rfl rfl rfl rfl ?_) | refine Pw.list (Pw.ld rfl inferInstance rfl rfl rfl ?_) | refine Pw.list (Pw.sto rfl rfl inferInstance rfl rfl rfl rfl rfl inferInstance rfl ?_))
  refine Pw.list (Pw.indexS rfl rfl rfl rfl (Int.le_refl 0) (by show (0 : Int) < 1; omega) rfl rfl ?_)
  repeat (first | (with_reducible first | refine Pw.seq ?_ | refine Pw.region ?_ | refine Pw.nil ?_ | refine Pw.then_ ?_ | refine Pw.skip ?_ | refine Pw.block ?_ | refine Pw.exit ?_ | refine Pw.inX ?_ | refine Pw.inN ?_ | refine Pw.inR ?_ | refine Pw.thenX ?_ | refine Pw.thenR ?_ | refine Pw.ret ?_) | refine Pw.list (Pw.pure rfl rfl rfl ?_) | refine Pw.inY rfl ?_ | refine Pw.list (Pw.off rfl rfl ?_) | refine Pw.condT rfl ?_ | refine Pw.condF rfl ?_ | refine Pw.list (Pw.box rfl rfl rfl rfl (fun _ => ?_)) | refine Pw.list (Pw.alloc rfl rfl rfl rfl rfl (fun _ => ?_)) | refine Pw.list (Pw.build rfl rfl rfl rfl ?_) | refine Pw.list (Pw.ld rfl inferInstance rfl rfl rfl ?_) | refine Pw.list (Pw.sto rfl rfl inferInstance rfl rfl rfl rfl rfl inferInstance rfl ?_))
  refine Pw.list (Pw.lookupOk (m := [(2, .agg #[sl [1] zl, sl [5] zn])]) rfl rfl rfl rfl rfl rfl (fun w hs => by have h := hs.all; exact (by first | exact fact0 (h) | exact fact0 (allTail (h)) | exact fact0 (allTail (allTail (h))) | exact fact0 (allTail (allTail (allTail (h)))) | exact fact0 (allTail (allTail (allTail (allTail (h))))) | exact fact0 (allTail (allTail (allTail (allTail (allTail (h)))))) | exact fact0 (allTail (allTail (allTail (allTail (allTail (allTail (h))))))) | exact fact0 (allTail (allTail (allTail (allTail (allTail (allTail (allTail (h)))))))) | exact fact0 (allTail (allTail (allTail (allTail (allTail (allTail (allTail (allTail (h))))))))) | exact fact0 (allTail (allTail (allTail (allTail (allTail (allTail (allTail (allTail (allTail (h)))))))))))) rfl rfl ?_)
  refine Pw.re (d := 46) (v' := .tuple #[.agg #[sl [1] zl, sl [5] zn], .bool true]) rfl rfl ?_
  repeat (first | (with_reducible first | refine Pw.seq ?_ | refine Pw.region ?_ | refine Pw.nil ?_ | refine Pw.then_ ?_ | refine Pw.skip ?_ | refine Pw.block ?_ | refine Pw.exit ?_ | refine Pw.inX ?_ | refine Pw.inN ?_ | refine Pw.inR ?_ | refine Pw.thenX ?_ | refine Pw.thenR ?_ | refine Pw.ret ?_) | refine Pw.list (Pw.pure rfl rfl rfl ?_) | refine Pw.inY rfl ?_ | refine Pw.list (Pw.off rfl rfl ?_) | refine Pw.condT rfl ?_ | refine Pw.condF rfl ?_ | refine Pw.list (Pw.box rfl rfl rfl rfl (fun _ => ?_)) | refine Pw.list (Pw.alloc rfl rfl rfl rfl rfl (fun _ => ?_)) | refine Pw.list (Pw.build rfl rfl rfl rfl ?_) | refine Pw.list (Pw.ld rfl inferInstance rfl rfl rfl ?_) | refine Pw.list (Pw.sto rfl rfl inferInstance rfl rfl rfl rfl rfl inferInstance rfl ?_))
  refine freeHead ?_
  repeat (first | (with_reducible first | refine Pw.seq ?_ | refine Pw.region ?_ | refine Pw.nil ?_ | refine Pw.then_ ?_ | refine Pw.skip ?_ | refine Pw.block ?_ | refine Pw.exit ?_ | refine Pw.inX ?_ | refine Pw.inN ?_ | refine Pw.inR ?_ | refine Pw.thenX ?_ | refine Pw.thenR ?_ | refine Pw.ret ?_) | refine Pw.list (Pw.pure rfl rfl rfl ?_) | refine Pw.inY rfl ?_ | refine Pw.list (Pw.off rfl rfl ?_) | refine Pw.condT rfl ?_ | refine Pw.condF rfl ?_ | refine Pw.list (Pw.box rfl rfl rfl rfl (fun _ => ?_)) | refine Pw.list (Pw.alloc rfl rfl rfl rfl rfl (fun _ => ?_)) | refine Pw.list (Pw.build rfl rfl rfl rfl ?_) | refine Pw.list (Pw.ld rfl inferInstance rfl rfl rfl ?_) | refine Pw.list (Pw.sto rfl rfl inferInstance rfl rfl rfl rfl rfl inferInstance rfl ?_))
  refine Pw.drawnG mixed rfl rfl ?_
  refine Pw.takeP 0 (nb 15 1) rfl rfl rfl rfl (by kernel_rfl) np sf ?_
  refine Pw.takeF 1 (nb 15 3) rfl rfl inferInstance rfl rfl rfl (by kernel_rfl) np sf ?_
  refine Pw.takeP 2 (nb 15 7) rfl rfl rfl rfl (by kernel_rfl) np sf ?_
  refine Pw.takeF 3 (nb 15 15) rfl rfl inferInstance rfl rfl rfl (by kernel_rfl) np sf ?_
  refine Pw.takeP 5 (nb 15 47) rfl rfl rfl rfl (by kernel_rfl) np sf ?_
  refine Pw.takeP 6 (nb 15 111) rfl rfl rfl rfl (by kernel_rfl) np sf ?_
  refine Pw.takeP 7 (nb 15 239) rfl rfl rfl rfl (by kernel_rfl) np sf ?_
  refine Pw.takeF 8 (nb 15 495) rfl rfl inferInstance rfl rfl rfl (by kernel_rfl) np sf ?_
  refine Pw.one 4 (nb 15 511) rfl (by kernel_rfl) ?_
  refine Pw.call (times_ct [1] zl 5 lm1 (by simp)) rfl rfl rfl (by kernel_rfl) rfl rfl (fun w h => (hv w h)) ?_
  intro zp _
  rw [t15]
  refine Pw.held sf ?_
  refine Pw.one 9 (nb 15 1023) rfl (by kernel_rfl) ?_
  refine Pw.call (Mul_ct [5] [5] zp zn lm5 lm5 (by simp) (by simp)) rfl rfl rfl (by kernel_rfl) rfl rfl (fun w h => ⟨(hv w h), (hv w h)⟩) ?_
  intro zq _
  have hm1 := mulS_lm (a := [5]) (b := [5])
  generalize mulS [5] [5] = u1 at hm1 ⊢
  refine Pw.held sf ?_
  refine Pw.takeP 10 (nb 15 2047) rfl rfl rfl rfl (by kernel_rfl) np sf ?_
  refine Pw.takeP 11 (nb 15 4095) rfl rfl rfl rfl (by kernel_rfl) np sf ?_
  refine Pw.takeP 12 (nb 15 8191) rfl rfl rfl rfl (by kernel_rfl) np sf ?_
  refine Pw.takeP 13 (nb 15 16383) rfl rfl rfl rfl (by kernel_rfl) np sf ?_
  refine Pw.takeP 14 (nb 15 32767) rfl rfl rfl rfl (by kernel_rfl) np sf ?_
  refine Pw.done (by kernel_rfl) ?_
  skip
  repeat (first | (with_reducible first | refine Pw.seq ?_ | refine Pw.region ?_ | refine Pw.nil ?_ | refine Pw.then_ ?_ | refine Pw.skip ?_ | refine Pw.block ?_ | refine Pw.exit ?_ | refine Pw.inX ?_ | refine Pw.inN ?_ | refine Pw.inR ?_ | refine Pw.thenX ?_ | refine Pw.thenR ?_ | refine Pw.ret ?_) | refine Pw.list (Pw.pure rfl rfl rfl ?_) | refine Pw.inY rfl ?_ | refine Pw.list (Pw.off rfl rfl ?_) | refine Pw.condT rfl ?_ | refine Pw.condF rfl ?_ | refine Pw.list (Pw.box rfl rfl rfl rfl (fun _ => ?_)) | refine Pw.list (Pw.alloc rfl rfl rfl rfl rfl (fun _ => ?_)) | refine Pw.list (Pw.build rfl rfl rfl rfl ?_) | refine Pw.list (Pw.ld rfl inferInstance rfl rfl rfl ?_) | refine Pw.list (Pw.sto rfl rfl inferInstance rfl rfl rfl rfl rfl inferInstance rfl ?_))
  refine Pw.drawnG mixed rfl rfl ?_
  refine Pw.takeP 0 (nb 15 1) rfl rfl rfl rfl (by kernel_rfl) np sf ?_
  refine Pw.takeF 1 (nb 15 3) rfl rfl inferInstance rfl rfl rfl (by kernel_rfl) np sf ?_
  refine Pw.takeP 2 (nb 15 7) rfl rfl rfl rfl (by kernel_rfl) np sf ?_
  refine Pw.takeP 3 (nb 15 15) rfl rfl rfl rfl (by kernel_rfl) np sf ?_
  refine Pw.takeP 4 (nb 15 31) rfl rfl rfl rfl (by kernel_rfl) np sf ?_
  refine Pw.takeF 5 (nb 15 63) rfl rfl inferInstance rfl rfl rfl (by kernel_rfl) np sf ?_
  refine Pw.takeP 6 (nb 15 127) rfl rfl rfl rfl (by kernel_rfl) np sf ?_
  refine Pw.takeIx 7 (nb 15 255) rfl rfl rfl rfl rfl (by first | assumption | omega) (by first | assumption | omega) rfl rfl (by kernel_rfl) np sf ?_
  refine Pw.takeF 8 (nb 15 511) rfl rfl inferInstance rfl rfl rfl (by kernel_rfl) np sf ?_
  refine Pw.one 9 (nb 15 1023) rfl (by kernel_rfl) ?_
  refine Pw.call (Mul_ct [5] [1] zn zs lm5 lm1 (by simp) (by simp)) rfl rfl rfl (by kernel_rfl) rfl rfl (fun w h => ⟨(hv w h), (hv w h)⟩) ?_
  intro zr _
  have hm2 := mulS_lm (a := [5]) (b := [1])
  generalize mulS [5] [1] = u2 at hm2 ⊢
  refine Pw.held sf ?_
  refine Pw.takeP 10 (nb 15 2047) rfl rfl rfl rfl (by kernel_rfl) np sf ?_
  refine Pw.takeP 11 (nb 15 4095) rfl rfl rfl rfl (by kernel_rfl) np sf ?_
  refine Pw.takeP 12 (nb 15 8191) rfl rfl rfl rfl (by kernel_rfl) np sf ?_
  refine Pw.takeP 13 (nb 15 16383) rfl rfl rfl rfl (by kernel_rfl) np sf ?_
  refine Pw.takeP 14 (nb 15 32767) rfl rfl rfl rfl (by kernel_rfl) np sf ?_
  refine Pw.done (by kernel_rfl) ?_
  skip
  repeat (first | (with_reducible first | refine Pw.seq ?_ | refine Pw.region ?_ | refine Pw.nil ?_ | refine Pw.then_ ?_ | refine Pw.skip ?_ | refine Pw.block ?_ | refine Pw.exit ?_ | refine Pw.inX ?_ | refine Pw.inN ?_ | refine Pw.inR ?_ | refine Pw.thenX ?_ | refine Pw.thenR ?_ | refine Pw.ret ?_) | refine Pw.list (Pw.pure rfl rfl rfl ?_) | refine Pw.inY rfl ?_ | refine Pw.list (Pw.off rfl rfl ?_) | refine Pw.condT rfl ?_ | refine Pw.condF rfl ?_ | refine Pw.list (Pw.box rfl rfl rfl rfl (fun _ => ?_)) | refine Pw.list (Pw.alloc rfl rfl rfl rfl rfl (fun _ => ?_)) | refine Pw.list (Pw.build rfl rfl rfl rfl ?_) | refine Pw.list (Pw.ld rfl inferInstance rfl rfl rfl ?_) | refine Pw.list (Pw.sto rfl rfl inferInstance rfl rfl rfl rfl rfl inferInstance rfl ?_))
  refine Pw.re (d := 78) (v' := sl u1.1 zq) rfl rfl ?_
  refine Pw.re (d := 79) (v' := sl u2.1 zr) rfl rfl ?_
  have l1 := hm1.2
  have l2 := hm2.2
  refine Pw.list (Pw.call (Make_ct u1.1 u2.1 zq zr hm1.1.1 hm2.1.1 (by omega) (by omega)) rfl rfl rfl (by kernel_rfl) rfl rfl (fun w h => ⟨(hv w h), (hv w h)⟩) ?_)
  intro zx _
  generalize makeS u1.1 u2.1 = mx
  obtain ⟨x1, x2, x3⟩ := mx
  repeat (first | (with_reducible first | refine Pw.seq ?_ | refine Pw.region ?_ | refine Pw.nil ?_ | refine Pw.then_ ?_ | refine Pw.skip ?_ | refine Pw.block ?_ | refine Pw.exit ?_ | refine Pw.inX ?_ | refine Pw.inN ?_ | refine Pw.inR ?_ | refine Pw.thenX ?_ | refine Pw.thenR ?_ | refine Pw.ret ?_) | refine Pw.list (Pw.pure rfl rfl rfl ?_) | refine Pw.inY rfl ?_ | refine Pw.list (Pw.off rfl rfl ?_) | refine Pw.condT rfl ?_ | refine Pw.condF rfl ?_ | refine Pw.list (Pw.box rfl rfl rfl rfl (fun _ => ?_)) | refine Pw.list (Pw.alloc rfl rfl rfl rfl rfl (fun _ => ?_)) | refine Pw.list (Pw.build rfl rfl rfl rfl ?_) | refine Pw.list (Pw.ld rfl inferInstance rfl rfl rfl ?_) | refine Pw.list (Pw.sto rfl rfl inferInstance rfl rfl rfl rfl rfl inferInstance rfl ?_))
  refine freeHead ?_
  repeat (first | (with_reducible first | refine Pw.seq ?_ | refine Pw.region ?_ | refine Pw.nil ?_ | refine Pw.then_ ?_ | refine Pw.skip ?_ | refine Pw.block ?_ | refine Pw.exit ?_ | refine Pw.inX ?_ | refine Pw.inN ?_ | refine Pw.inR ?_ | refine Pw.thenX ?_ | refine Pw.thenR ?_ | refine Pw.ret ?_) | refine Pw.list (Pw.pure rfl rfl rfl ?_) | refine Pw.inY rfl ?_ | refine Pw.list (Pw.off rfl rfl ?_) | refine Pw.condT rfl ?_ | refine Pw.condF rfl ?_ | refine Pw.list (Pw.box rfl rfl rfl rfl (fun _ => ?_)) | refine Pw.list (Pw.alloc rfl rfl rfl rfl rfl (fun _ => ?_)) | refine Pw.list (Pw.build rfl rfl rfl rfl ?_) | refine Pw.list (Pw.ld rfl inferInstance rfl rfl rfl ?_) | refine Pw.list (Pw.sto rfl rfl inferInstance rfl rfl rfl rfl rfl inferInstance rfl ?_))
  refine Pw.list (Pw.lit14 rfl rfl rfl rfl rfl rfl rfl rfl rfl (fun gs0 => freeHead ?_))
  refine Pw.list (Pw.push (s := none) (m := 0) (cells := []) (news := [.int .i64 1, .int .i64 2, sl x1 zx.1, sl x2 zx.2]) rfl rfl rfl rfl rfl rfl rfl ⟨rfl, rfl⟩ rfl (fun u hu => by
    simp only [List.mem_cons, List.not_mem_nil, or_false] at hu
    rcases hu with rfl | rfl | rfl | rfl <;> rfl) (fun w hs j u hu => by
    have h1 : w.heap[gs0]? = some (row [.int .i64 1, .int .i64 2, sl x1 zx.1, sl x2 zx.2] 58) := fact0 hs.all
    rw [add_none, cell_of_blk h1]
    simpa using hu) (by omega) (by simp only [maxLen]; omega) (by show 1 * 64 ≤ _; omega) rfl rfl (fun qs hqs => ?_))
  obtain _ | ⟨gh, caph, exh⟩ := qs
  · have := hqs.1; omega
  refine freeHead (g := gh) (o := row (.int .i64 1 :: .int .i64 2 :: sl x1 zx.1 :: sl x2 zx.2 :: exh) 58) ?_
  refine Pw.re (d := 90) (v' := .slice (some ⟨gh, 0, none⟩) 1 caph) rfl rfl ?_
  repeat (first | (with_reducible first | refine Pw.seq ?_ | refine Pw.region ?_ | refine Pw.nil ?_ | refine Pw.then_ ?_ | refine Pw.skip ?_ | refine Pw.block ?_ | refine Pw.exit ?_ | refine Pw.inX ?_ | refine Pw.inN ?_ | refine Pw.inR ?_ | refine Pw.thenX ?_ | refine Pw.thenR ?_ | refine Pw.ret ?_) | refine Pw.list (Pw.pure rfl rfl rfl ?_) | refine Pw.inY rfl ?_ | refine Pw.list (Pw.off rfl rfl ?_) | refine Pw.condT rfl ?_ | refine Pw.condF rfl ?_ | refine Pw.list (Pw.box rfl rfl rfl rfl (fun _ => ?_)) | refine Pw.list (Pw.alloc rfl rfl rfl rfl rfl (fun _ => ?_)) | refine Pw.list (Pw.build rfl rfl rfl rfl ?_) | refine Pw.list (Pw.ld rfl inferInstance rfl rfl rfl ?_) | refine Pw.list (Pw.sto rfl rfl inferInstance rfl rfl rfl rfl rfl inferInstance rfl ?_))
  refine Pw.re (d := 33) (v' := .int .i64 1) rfl (by kernel_rfl) ?_
  refine Pw.round ?_
  repeat (first | (with_reducible first | refine Pw.seq ?_ | refine Pw.region ?_ | refine Pw.nil ?_ | refine Pw.then_ ?_ | refine Pw.skip ?_ | refine Pw.block ?_ | refine Pw.exit ?_ | refine Pw.inX ?_ | refine Pw.inN ?_ | refine Pw.inR ?_ | refine Pw.thenX ?_ | refine Pw.thenR ?_ | refine Pw.ret ?_) | refine Pw.list (Pw.pure rfl rfl rfl ?_) | refine Pw.inY rfl ?_ | refine Pw.list (Pw.off rfl rfl ?_) | refine Pw.condT rfl ?_ | refine Pw.condF rfl ?_ | refine Pw.list (Pw.box rfl rfl rfl rfl (fun _ => ?_)) | refine Pw.list (Pw.alloc rfl rfl rfl rfl rfl (fun _ => ?_)) | refine Pw.list (Pw.build rfl rfl rfl rfl ?_) | refine Pw.list (Pw.ld rfl inferInstance rfl rfl rfl ?_) | refine Pw.list (Pw.sto rfl rfl inferInstance rfl rfl rfl rfl rfl inferInstance rfl ?_))
  refine Pw.re (d := 22) (v' := .int .i64 1) rfl (by kernel_rfl) ?_
  refine Pw.round ?_
  repeat (first | (with_reducible first | refine Pw.seq ?_ | refine Pw.region ?_ | refine Pw.nil ?_ | refine Pw.then_ ?_ | refine Pw.skip ?_ | refine Pw.block ?_ | refine Pw.exit ?_ | refine Pw.inX ?_ | refine Pw.inN ?_ | refine Pw.inR ?_ | refine Pw.thenX ?_ | refine Pw.thenR ?_ | refine Pw.ret ?_) | refine Pw.list (Pw.pure rfl rfl rfl ?_) | refine Pw.inY rfl ?_ | refine Pw.list (Pw.off rfl rfl ?_) | refine Pw.condT rfl ?_ | refine Pw.condF rfl ?_ | refine Pw.list (Pw.box rfl rfl rfl rfl (fun _ => ?_)) | refine Pw.list (Pw.alloc rfl rfl rfl rfl rfl (fun _ => ?_)) | refine Pw.list (Pw.build rfl rfl rfl rfl ?_) | refine Pw.list (Pw.ld rfl inferInstance rfl rfl rfl ?_) | refine Pw.list (Pw.sto rfl rfl inferInstance rfl rfl rfl rfl rfl inferInstance rfl ?_))
  refine Pw.back hR (.tmp rfl .nil) rfl ?_
  refine Pw.held sf ?_
  refine Pw.takeP 6 (nb 9 127) rfl rfl rfl rfl (by kernel_rfl) np sf ?_
  refine Pw.takeP 7 (nb 9 255) rfl rfl rfl rfl (by kernel_rfl) np sf ?_
  refine Pw.takeP 8 (nb 9 511) rfl rfl rfl rfl (by kernel_rfl) np sf ?_
  refine Pw.done (by kernel_rfl) ?_
  repeat (first | (with_reducible first | refine Pw.seq ?_ | refine Pw.region ?_ | refine Pw.nil ?_ | refine Pw.then_ ?_ | refine Pw.skip ?_ | refine Pw.block ?_ | refine Pw.exit ?_ | refine Pw.inX ?_ | refine Pw.inN ?_ | refine Pw.inR ?_ | refine Pw.thenX ?_ | refine Pw.thenR ?_ | refine Pw.ret ?_) | refine Pw.list (Pw.pure rfl rfl rfl ?_) | refine Pw.inY rfl ?_ | refine Pw.list (Pw.off rfl rfl ?_) | refine Pw.condT rfl ?_ | refine Pw.condF rfl ?_ | refine Pw.list (Pw.box rfl rfl rfl rfl (fun _ => ?_)) | refine Pw.list (Pw.alloc rfl rfl rfl rfl rfl (fun _ => ?_)) | refine Pw.list (Pw.build rfl rfl rfl rfl ?_) | refine Pw.list (Pw.ld rfl inferInstance rfl rfl rfl ?_) | refine Pw.list (Pw.sto rfl rfl inferInstance rfl rfl rfl rfl rfl inferInstance rfl ?_))
  exact Pw.ret_ (x := (gs, caps, .slice (some ⟨gh, 0, none⟩) 1 caph)) (.tmp rfl (.tmp rfl (.tmp rfl .nil))) rfl trivial (fun w h => hv (φ := fun W => W.cell? ⟨gs, 0, none⟩ = some (.int .i64 2)) w h)
end Go.Proofs.Wk
/- Elections: newRunner walked. -/
namespace Go.Proofs.Wk
open Go.RowKit
set_option maxRecDepth 100000
set_option maxHeartbeats 8000000
attribute [local irreducible] Pw OpG
set_option linter.unusedVariables false
set_option linter.unusedSimpArgs false
structure Rn where
  gr : Nat
  ga : Nat
  gl : Nat
  capl : Nat
  ge : Nat
  cape : Nat
  ex : List Value
  exe : List Value
  m : List (Int × Value)
  za : Int → Option Addr × Nat
  x : Rp
abbrev nils (i : Nat) : List Value := List.replicate i (.slice none 0 0)
abbrev mapsV (gs : List Nat) : List Value := gs.map (fun g => Value.map (some g))
abbrev mapsL (gs : List Nat) : List Blk := gs.map (fun g => ⟨g, mapO []⟩)
theorem permS2 {a b : Blk} {X Y : List Blk} : (a :: b :: (X ++ Y)).Perm (X ++ (a :: b :: Y)) := List.perm_append_comm_assoc [a, b] X Y
theorem permM {a b c : Blk} {X Y Z : List Blk} : (a :: b :: c :: (X ++ (Y ++ Z))).Perm (Y ++ (a :: b :: c :: (X ++ Z))) := List.perm_append_comm_assoc (a :: b :: c :: X) Y Z
theorem permN {a r g : Blk} {X Y Z : List Blk} {gs : List Nat} {k : Nat} (e : a = ⟨k, mapO []⟩ := by rfl) : (a :: r :: g :: (X ++ (Y ++ (mapsL gs ++ Z)))).Perm (r :: g :: (X ++ (Y ++ (mapsL (gs ++ [k]) ++ Z)))) := by
  subst e
  have := (List.perm_middle (a := (⟨k, mapO []⟩ : Blk)) (l₁ := r :: g :: (X ++ (Y ++ mapsL gs))) (l₂ := Z)).symm
  simpa [List.append_assoc] using this
theorem permE {r g : Blk} {X Y M : List Blk} {A : List Ae} {c : Int} {s : Gr} {i : Nat} : (gL s (cellsI [i]) 3 ++ (r :: g :: (X ++ (Y ++ (M ++ gA A))))).Perm (r :: g :: (X ++ (Y ++ (M ++ gA (A ++ [(c, s, [i])]))))) := by
  have h := (List.perm_append_comm (l₁ := r :: g :: (X ++ (Y ++ (M ++ gA A)))) (l₂ := gL s (cellsI [i]) 3)).symm
  simpa [gA, List.append_assoc, List.flatMap_append] using h
theorem mA_set (A : List Ae) (q : Nat) (f : Ae) : mA (A.set q f) = (mA A).set q (f.1, gv f.2.1 f.2.2.length) := by
  show List.map _ (A.set q f) = _
  rw [List.map_set]
theorem permQ {r g : Blk} {X Y M : List Blk} {A : List Ae} {q : Nat} {e : Ae} (h : A[q]? = some e) : (r :: g :: (X ++ (Y ++ (M ++ gA A)))).Perm (gL e.2.1 (cellsI e.2.2) 3 ++ (r :: g :: (X ++ (Y ++ (M ++ (gA (A.take q) ++ gA (A.drop (q + 1)))))))) := by
  have h1 : (r :: g :: (X ++ (Y ++ (M ++ gA A)))).Perm (r :: g :: (X ++ (Y ++ (M ++ (gL e.2.1 (cellsI e.2.2) 3 ++ (gA (A.take q) ++ gA (A.drop (q + 1)))))))) := .cons _ (.cons _ (.append_left _ (.append_left _ (.append_left _ (permA h)))))
  have h2 := List.perm_append_comm_assoc (r :: g :: (X ++ (Y ++ M))) (gL e.2.1 (cellsI e.2.2) 3) (gA (A.take q) ++ gA (A.drop (q + 1)))
  refine h1.trans ?_
  simpa [List.append_assoc] using h2
theorem permQs {r g : Blk} {X Y M : List Blk} {A : List Ae} {q : Nat} {e : Ae} {c : Int} {s : Gr} {l : List Nat} (h : A[q]? = some e) : (gL s (cellsI l) 3 ++ (r :: g :: (X ++ (Y ++ (M ++ (gA (A.take q) ++ gA (A.drop (q + 1)))))))).Perm (r :: g :: (X ++ (Y ++ (M ++ gA (A.set q (c, s, l)))))) := by
  have h1 : (r :: g :: (X ++ (Y ++ (M ++ (gL s (cellsI l) 3 ++ (gA (A.take q) ++ gA (A.drop (q + 1)))))))).Perm (r :: g :: (X ++ (Y ++ (M ++ gA (A.set q (c, s, l)))))) := .cons _ (.cons _ (.append_left _ (.append_left _ (.append_left _ (permA_set (f := (c, s, l)) h)))))
  have h2 := (List.perm_append_comm_assoc (r :: g :: (X ++ (Y ++ M))) (gL s (cellsI l) 3) (gA (A.take q) ++ gA (A.drop (q + 1)))).symm
  refine List.Perm.trans ?_ h1
  simpa [List.append_assoc] using h2
/-- An entry's slice. -/
def zaA (A : List Ae) (c : Int) : Option Addr × Nat := match A.find? (fun e => decide (e.1 = c)) with
  | some (_, some (g, cap, _), _) => (some ⟨g, 0, none⟩, cap)
  | _ => (none, 0)
theorem cellsN_rep (n : Nat) : cellsN (List.replicate n ([], (none, 0))) = nils n := by rw [cellsN_map, List.map_replicate]; rfl
theorem esL_nil (gs : List Nat) : esL (gs.map (fun g => (g, []))) = mapsL gs := by
  show List.map _ (List.map _ gs) = _
  rw [List.map_map]; rfl
theorem mval_zaA {A : List Ae} (hA : AOk A) {c : Int} {l : List Nat} (h : apA A c = l) : mval c (mA A) (.slice none 0 0) = sl (nI l) (zaA A c) := by
  rcases find_cases A c with ⟨h1, h2⟩ | ⟨q, ⟨ec, es, el⟩, h1, h2, h3, h4⟩
  · rw [apA_none h2] at h
    subst h
    unfold mval zaA
    rw [h2, lkp_none (fun p hp => by obtain ⟨x, hx, rfl⟩ := List.mem_map.1 hp; exact h1 x hx)]
    rfl
  · rw [apA_of h3] at h
    have h' : el = l := h
    subst h'
    unfold mval zaA
    rw [h3, lkp_mA h1 h2 h4]
    obtain _ | ⟨g, cap, ex⟩ := es
    · have h5 := (hA.ok _ (List.mem_of_getElem? h1)).1
      have h6 : el = [] := List.eq_nil_of_length_eq_zero h5
      subst h6
      rfl
    · show Value.slice _ el.length _ = Value.slice _ (nI el).length _
      rw [show (nI el).length = el.length from List.length_map _]
theorem ints_zaA {A : List Ae} (hA : AOk A) {c : Int} {l : List Nat} (h : apA A c = l) {w : World} (hw : ∀ b ∈ gA A, w.heap[b.g]? = some b.o) (hl : l.length ≤ 1000) : I1 (nI l) (zaA A c) w := by
  rcases find_cases A c with ⟨h1, h2⟩ | ⟨q, ⟨ec, es, el⟩, h1, h2, h3, h4⟩
  · rw [apA_none h2] at h
    subst h
    exact Rows.nil _ _ _ _ _
  · rw [apA_of h3] at h
    have h' : el = l := h
    subst h'
    have h5 := hA.ok _ (List.mem_of_getElem? h1)
    unfold zaA
    rw [h3]
    obtain _ | ⟨g, cap, ex⟩ := es
    · have h6 : el = [] := List.eq_nil_of_length_eq_zero h5.1
      subst h6
      exact Rows.nil _ _ _ _ _
    · have h7 := hw ⟨g, row (cellsI el ++ ex) 3⟩ (List.mem_flatMap.2 ⟨_, List.mem_of_getElem? h1, List.mem_singleton.2 rfl⟩)
      have h8 : (nI el).length = el.length := List.length_map _
      exact ints_of_row (ex := ex) h7 (by rw [h8]; exact h5.2.1) (by rw [h8]; simp only [maxLen]; omega)
theorem rep_nat : ∀ vs : List Vtr, (List.replicate vs.length (([], (none, 0)) : Nt)).map Prod.fst = (vs.map (fun _ => (0 : Int))).map natL
  | [] => rfl
  | v :: vs => by
    have ih := rep_nat vs
    show [] :: (List.replicate vs.length (([], (none, 0)) : Nt)).map Prod.fst = natL 0 :: (vs.map (fun _ => (0 : Int))).map natL
    rw [ih, natL_zero]
theorem maps_nil : ∀ {gs : List Nat} {vs : List Vtr}, gs.length = vs.length → (gs.map (fun g => (g, ([] : List Ee)))).map edE = vs.map (fun _ => [])
  | [], [], _ => rfl
  | [], _ :: _, h => by cases h
  | _ :: _, [], h => by cases h
  | g :: gs, v :: vs, h => by
    have ih := maps_nil (gs := gs) (vs := vs) (Nat.succ.inj h)
    show [] :: (gs.map (fun g => (g, ([] : List Ee)))).map edE = [] :: vs.map (fun _ => [])
    rw [ih]
theorem fst_nil (gs : List Nat) : (gs.map (fun g => (g, ([] : List Ee)))).map Prod.fst = gs := by
  induction gs with
  | nil => rfl
  | cons g gs ih => show g :: (gs.map (fun g => (g, ([] : List Ee)))).map Prod.fst = g :: gs; rw [ih]
theorem permF {r g l e : Blk} {M Z : List Blk} : (r :: g :: ([l] ++ ([e] ++ (M ++ Z)))).Perm ((e :: Z) ++ (r :: l :: g :: M)) := by
  have h1 : (r :: g :: l :: e :: (M ++ Z)).Perm (r :: l :: g :: e :: (M ++ Z)) := .cons _ (.swap _ _ _)
  have h2 : (r :: l :: g :: e :: (M ++ Z)).Perm (e :: r :: l :: g :: (M ++ Z)) := (List.perm_middle (l₁ := [r, l, g]))
  have h3 : (r :: l :: g :: (M ++ Z)).Perm (Z ++ (r :: l :: g :: M)) := List.perm_append_comm (l₁ := r :: l :: g :: M) (l₂ := Z)
  exact h1.trans (h2.trans (.cons _ h3))
theorem newRunner_ct (vs : List Vtr) (zv : Option Addr × Nat) (cs : List Int) (zc : Option Addr × Nat) (hV : VOk vs) (hn : vs ≠ []) (hvn : vs.length ≤ 32) (hcn : cs.length ≤ 32) (hpk : ∀ i, (pks vs i).Nodup ∧ (pks vs i).length ≤ 32) :
    CtB Try.prog 26 #[snV ⟨vs, zv, cs, zc⟩] [] (snF ⟨vs, zv, cs, zc⟩) (fun y : Rn => .pointer (some ⟨y.gr, 0, none⟩))
      (fun y => RpOk (begE vs) y.x ∧ ∀ c ∈ cs, mval c y.m (.slice none 0 0) = sl (nI (ap vs c)) (y.za c))
      (fun y => rL vs.length zv cs zc y.gr y.ga y.gl y.capl y.ge y.cape y.ex y.m 1 y.x)
      (fun y W => rF 1 y.x W ∧ gF vs zv cs zc y.za y.ge (y.x.es.map Prod.fst) y.exe W) := by
  obtain ⟨Av, cv⟩ := zv
  obtain ⟨Ac, cc⟩ := zc
  refine CtB.start Try.func26 rfl rfl (slots_of rfl slots1) (fun D0 w0 => Pw.facts sn2 ?_)
  repeat (first | (with_reducible first | refine Pw.seq ?_ | refine Pw.region ?_ | refine Pw.nil ?_ | refine Pw.then_ ?_ | refine Pw.skip ?_ | refine Pw.block ?_ | refine Pw.exit ?_ | refine Pw.inX ?_ | refine Pw.inN ?_ | refine Pw.inR ?_ | refine Pw.thenX ?_ | refine Pw.thenR ?_ | refine Pw.ret ?_) | refine Pw.list (Pw.pure rfl rfl rfl ?_) | refine Pw.inY rfl ?_ | refine Pw.list (Pw.off rfl rfl ?_) | refine Pw.condT rfl ?_ | refine Pw.condF rfl ?_)
  refine Pw.list (Pw.box rfl rfl rfl rfl (fun g1 => freeHead ?_))
  repeat (first | (with_reducible first | refine Pw.seq ?_ | refine Pw.region ?_ | refine Pw.nil ?_ | refine Pw.then_ ?_ | refine Pw.skip ?_ | refine Pw.block ?_ | refine Pw.exit ?_ | refine Pw.inX ?_ | refine Pw.inN ?_ | refine Pw.inR ?_ | refine Pw.thenX ?_ | refine Pw.thenR ?_ | refine Pw.ret ?_) | refine Pw.list (Pw.pure rfl rfl rfl ?_) | refine Pw.inY rfl ?_ | refine Pw.list (Pw.off rfl rfl ?_) | refine Pw.condT rfl ?_ | refine Pw.condF rfl ?_ | refine Pw.list (Pw.box rfl rfl rfl rfl (fun _ => ?_)) | refine Pw.list (Pw.alloc rfl rfl rfl rfl rfl (fun _ => ?_)) | refine Pw.list (Pw.build rfl rfl rfl rfl ?_) | refine Pw.list (Pw.ld rfl inferInstance rfl rfl rfl ?_) | refine Pw.list (Pw.sto rfl rfl inferInstance rfl rfl rfl rfl rfl inferInstance rfl ?_))
  refine Pw.joinQ (σ := Nat × Nat × (Option Addr × Nat)) (fun _ => True) (fun t => ⟨[(1, .pointer (some ⟨g1, 0, none⟩)), (3, .pointer (some ⟨t.1, 0, none⟩))], [⟨t.1, row [.slice Av vs.length cv, sl cs (Ac, cc), .map (some t.2.1), sl (natL 1) t.2.2, .slice none 0 0, .slice none 0 0, .slice none 0 0] 75⟩, ⟨t.2.1, mapO []⟩], [S1 (natL 1) t.2.2, fun W => W.heap[g1]? = some (row [.slice Av vs.length cv, sl cs (Ac, cc)] 25), VS vs (Av, cv), I1 cs (Ac, cc)]⟩) ?_ ?_
  · skip
    refine Pw.drawnG mixed rfl rfl ?_
    refine Pw.takeF 0 (nb 6 1) rfl rfl inferInstance rfl rfl rfl (by kernel_rfl) np sf ?_
    refine Pw.two 1 2 (nb 6 3) (nb 6 5) rfl rfl (by kernel_rfl) ?_ ?_
    · skip
      refine Pw.makeMap rfl rfl (fun ga => ?_)
      refine Pw.held sf ?_
      refine Pw.one 2 (nb 6 7) rfl (by kernel_rfl) ?_
      refine Pw.call (Of_ct 1) rfl rfl rfl (by kernel_rfl) rfl rfl (fun w h => trivial) ?_
      intro zd _
      rw [ofN_natL (by omega) (by omega)]
      refine Pw.held sf ?_
      refine Pw.takeBuild 3 (nb 6 15) rfl rfl rfl rfl rfl (by kernel_rfl) np sf ?_
      refine Pw.one 4 (nb 6 31) rfl (by kernel_rfl) ?_
      refine Pw.box rfl rfl rfl rfl (fun gr => ?_)
      refine Pw.held sf ?_
      refine Pw.takeP 5 (nb 6 63) rfl rfl rfl rfl (by kernel_rfl) np sf ?_
      refine Pw.done (by kernel_rfl) ?_
      exact Pw.then_ (Pw.arrive (gr, ga, zd) trivial ⟨rfl, rfl, trivial⟩ rfl (fun w h => allCons (hv w h) (allCons (Blks.h (L := []) (g := g1) w (fun b hb => by cases hb) h) (allCons (hv w h) (allCons (hv w h) allNil)))))
    · skip
      refine Pw.call (Of_ct 1) rfl rfl rfl (by kernel_rfl) rfl rfl (fun w h => trivial) ?_
      intro zd _
      rw [ofN_natL (by omega) (by omega)]
      refine Pw.held sf ?_
      refine Pw.one 1 (nb 6 7) rfl (by kernel_rfl) ?_
      refine Pw.makeMap rfl rfl (fun ga => ?_)
      refine Pw.held sf ?_
      refine Pw.takeBuild 3 (nb 6 15) rfl rfl rfl rfl rfl (by kernel_rfl) np sf ?_
      refine Pw.one 4 (nb 6 31) rfl (by kernel_rfl) ?_
      refine Pw.box rfl rfl rfl rfl (fun gr => ?_)
      refine Pw.held sf ?_
      refine Pw.takeP 5 (nb 6 63) rfl rfl rfl rfl (by kernel_rfl) np sf ?_
      refine Pw.done (by kernel_rfl) ?_
      exact Pw.then_ (Pw.arrive (gr, ga, zd) trivial ⟨rfl, rfl, trivial⟩ rfl (fun w h => allCons (hv w h) (allCons (Blks.h (L := []) (g := g1) w (fun b hb => by cases hb) h) (allCons (hv w h) (allCons (hv w h) allNil)))))
  rintro ⟨gr, ga, zd⟩ _
  dsimp only
  repeat (first | (with_reducible first | refine Pw.seq ?_ | refine Pw.region ?_ | refine Pw.nil ?_ | refine Pw.then_ ?_ | refine Pw.skip ?_ | refine Pw.block ?_ | refine Pw.exit ?_ | refine Pw.inX ?_ | refine Pw.inN ?_ | refine Pw.inR ?_ | refine Pw.thenX ?_ | refine Pw.thenR ?_ | refine Pw.ret ?_) | refine Pw.list (Pw.pure rfl rfl rfl ?_) | refine Pw.inY rfl ?_ | refine Pw.list (Pw.off rfl rfl ?_) | refine Pw.condT rfl ?_ | refine Pw.condF rfl ?_ | refine Pw.list (Pw.box rfl rfl rfl rfl (fun _ => ?_)) | refine Pw.list (Pw.alloc rfl rfl rfl rfl rfl (fun _ => ?_)) | refine Pw.list (Pw.build rfl rfl rfl rfl ?_) | refine Pw.list (Pw.ld rfl inferInstance rfl rfl rfl ?_) | refine Pw.list (Pw.sto rfl rfl inferInstance rfl rfl rfl rfl rfl inferInstance rfl ?_))
  refine Pw.loopJ (σ := Nat × Gr × Gr × List Nat × List Ae) (fun t => t.1 ≤ vs.length ∧ gOk t.2.1 (nils t.1) t.1 1 ∧ gOk t.2.2.1 (mapsV t.2.2.2.1) t.1 1 ∧ t.2.2.2.1.length = t.1 ∧ AOk t.2.2.2.2 ∧ ∀ c, apA t.2.2.2.2 c = apI vs cs t.1 c)
    (fun t => ⟨[(1, .pointer (some ⟨g1, 0, none⟩)), (3, .pointer (some ⟨gr, 0, none⟩)), (14, .slice Av vs.length cv), (15, .int .i64 vs.length), (16, .int .i64 t.1)],
      ⟨gr, row [.slice Av vs.length cv, sl cs (Ac, cc), .map (some ga), sl (natL 1) zd, gv t.2.1 t.1, gv t.2.2.1 t.1, .slice none 0 0] 75⟩ :: ⟨ga, mapO (mA t.2.2.2.2)⟩ :: (gL t.2.1 (nils t.1) 34 ++ (gL t.2.2.1 (mapsV t.2.2.2.1) 103 ++ (mapsL t.2.2.2.1 ++ gA t.2.2.2.2))),
      [S1 (natL 1) zd, fun W => W.heap[g1]? = some (row [.slice Av vs.length cv, sl cs (Ac, cc)] 25), VS vs (Av, cv), I1 cs (Ac, cc)]⟩) (fun t => vs.length - t.1) (0, none, none, [], []) ⟨Nat.zero_le _, ⟨rfl, rfl⟩, ⟨rfl, rfl⟩, rfl, aok_nil, fun c => (apI_zero vs cs c).symm⟩ (by
    intro X h
    dsimp only at h
    refine Pw.enter ?_ ?_ X h
    · exact ⟨rfl, rfl, rfl, rfl, rfl, trivial⟩
    · exact fun w h => h) ?_
  rintro ⟨i, sL, sE, gs, A⟩ ⟨hi, hsL, hsE, hgs, hA, hap⟩
  dsimp only at hi hsL hsE hgs hA hap ⊢
  repeat (first | (with_reducible first | refine Pw.seq ?_ | refine Pw.region ?_ | refine Pw.nil ?_ | refine Pw.then_ ?_ | refine Pw.skip ?_ | refine Pw.block ?_ | refine Pw.exit ?_ | refine Pw.inX ?_ | refine Pw.inN ?_ | refine Pw.inR ?_ | refine Pw.thenX ?_ | refine Pw.thenR ?_ | refine Pw.ret ?_) | refine Pw.list (Pw.pure rfl rfl rfl ?_) | refine Pw.inY rfl ?_ | refine Pw.list (Pw.off rfl rfl ?_) | refine Pw.condT rfl ?_ | refine Pw.condF rfl ?_)
  refine Pw.condD rfl (fun ci => ?_) (fun ci => ?_)
  · have hi0 : (0 : Int) ≤ (i : Int) := Int.natCast_nonneg i
    have hiv : i < vs.length := by omega
    obtain ⟨v, hvi, hvm⟩ := get_at hiv
    repeat (first | (with_reducible first | refine Pw.seq ?_ | refine Pw.region ?_ | refine Pw.nil ?_ | refine Pw.then_ ?_ | refine Pw.skip ?_ | refine Pw.block ?_ | refine Pw.exit ?_ | refine Pw.inX ?_ | refine Pw.inN ?_ | refine Pw.inR ?_ | refine Pw.thenX ?_ | refine Pw.thenR ?_ | refine Pw.ret ?_) | refine Pw.list (Pw.pure rfl rfl rfl ?_) | refine Pw.inY rfl ?_ | refine Pw.list (Pw.off rfl rfl ?_) | refine Pw.condT rfl ?_ | refine Pw.condF rfl ?_)
    refine Pw.list (Pw.index rfl rfl rfl rfl hi0 ci (fun w h => (hv w h : VS vs (Av, cv) w).has hi0 ci) rfl rfl ?_)
    rintro av rfl
    refine Pw.list (Pw.loadR v rfl inferInstance rfl (by rw [Int.toNat_natCast]; exact hvi) (by kernel_rfl) rfl rfl ?_)
    refine Pw.re (d := 20) (v' := vtV v) rfl rfl ?_
    refine Pw.list (Pw.alloc rfl rfl rfl rfl rfl (fun g5 => ?_))
    repeat (first | (with_reducible first | refine Pw.seq ?_ | refine Pw.region ?_ | refine Pw.nil ?_ | refine Pw.then_ ?_ | refine Pw.skip ?_ | refine Pw.block ?_ | refine Pw.exit ?_ | refine Pw.inX ?_ | refine Pw.inN ?_ | refine Pw.inR ?_ | refine Pw.thenX ?_ | refine Pw.thenR ?_ | refine Pw.ret ?_) | refine Pw.list (Pw.pure rfl rfl rfl ?_) | refine Pw.inY rfl ?_ | refine Pw.list (Pw.off rfl rfl ?_) | refine Pw.condT rfl ?_ | refine Pw.condF rfl ?_ | refine Pw.list (Pw.box rfl rfl rfl rfl (fun _ => ?_)) | refine Pw.list (Pw.alloc rfl rfl rfl rfl rfl (fun _ => ?_)) | refine Pw.list (Pw.build rfl rfl rfl rfl ?_) | refine Pw.list (Pw.ld rfl inferInstance rfl rfl rfl ?_) | refine Pw.list (Pw.sto rfl rfl inferInstance rfl rfl rfl rfl rfl inferInstance rfl ?_))
    refine freeHead ?_
    repeat (first | (with_reducible first | refine Pw.seq ?_ | refine Pw.region ?_ | refine Pw.nil ?_ | refine Pw.then_ ?_ | refine Pw.skip ?_ | refine Pw.block ?_ | refine Pw.exit ?_ | refine Pw.inX ?_ | refine Pw.inN ?_ | refine Pw.inR ?_ | refine Pw.thenX ?_ | refine Pw.thenR ?_ | refine Pw.ret ?_) | refine Pw.list (Pw.pure rfl rfl rfl ?_) | refine Pw.inY rfl ?_ | refine Pw.list (Pw.off rfl rfl ?_) | refine Pw.condT rfl ?_ | refine Pw.condF rfl ?_ | refine Pw.list (Pw.box rfl rfl rfl rfl (fun _ => ?_)) | refine Pw.list (Pw.alloc rfl rfl rfl rfl rfl (fun _ => ?_)) | refine Pw.list (Pw.build rfl rfl rfl rfl ?_) | refine Pw.list (Pw.ld rfl inferInstance rfl rfl rfl ?_) | refine Pw.list (Pw.sto rfl rfl inferInstance rfl rfl rfl rfl rfl inferInstance rfl ?_))
    refine Pw.list (Pw.lit1 rfl rfl rfl rfl rfl rfl rfl rfl rfl (fun gl0 => freeHead ?_))
    refine Pw.perm permS2 ?_
    refine Pw.list (Pw.push (s := sL) (m := i) (cells := nils i) (news := [.slice none 0 0]) rfl rfl rfl rfl rfl rfl rfl hsL rfl (fun u hu => by rw [List.mem_singleton.1 hu]; rfl) (fun w hs j u hu => by
      have h1 : w.heap[gl0]? = some (row [.slice none 0 0] 34) := fact0 hs.all
      rw [add_none, cell_of_blk h1]
      simpa using hu) (by omega) (by simp only [maxLen]; omega) (by show (i + 1) * 24 ≤ _; omega) rfl rfl (fun qL hqL => ?_))
    rw [show nils i ++ [Value.slice none 0 0] = nils (i + 1) from List.replicate_succ'.symm] at hqL ⊢
    obtain _ | ⟨gl, capl, exl⟩ := qL
    · have := hqL.1; omega
    refine Pw.perm permS2.symm ?_
    refine Pw.re (d := 27) (v' := .slice (some ⟨gl, 0, none⟩) (i + 1) capl) rfl rfl ?_
    repeat (first | (with_reducible first | refine Pw.seq ?_ | refine Pw.region ?_ | refine Pw.nil ?_ | refine Pw.then_ ?_ | refine Pw.skip ?_ | refine Pw.block ?_ | refine Pw.exit ?_ | refine Pw.inX ?_ | refine Pw.inN ?_ | refine Pw.inR ?_ | refine Pw.thenX ?_ | refine Pw.thenR ?_ | refine Pw.ret ?_) | refine Pw.list (Pw.pure rfl rfl rfl ?_) | refine Pw.inY rfl ?_ | refine Pw.list (Pw.off rfl rfl ?_) | refine Pw.condT rfl ?_ | refine Pw.condF rfl ?_ | refine Pw.list (Pw.box rfl rfl rfl rfl (fun _ => ?_)) | refine Pw.list (Pw.alloc rfl rfl rfl rfl rfl (fun _ => ?_)) | refine Pw.list (Pw.build rfl rfl rfl rfl ?_) | refine Pw.list (Pw.ld rfl inferInstance rfl rfl rfl ?_) | refine Pw.list (Pw.sto rfl rfl inferInstance rfl rfl rfl rfl rfl inferInstance rfl ?_))
    refine Pw.list (Pw.makeMap rfl rfl (fun gm => ?_))
    refine Pw.list (Pw.lit1 rfl rfl rfl rfl rfl rfl rfl rfl rfl (fun ge0 => freeHead ?_))
    refine Pw.perm permM ?_
    refine Pw.list (Pw.push (s := sE) (m := i) (cells := mapsV gs) (news := [.map (some gm)]) rfl rfl rfl rfl rfl rfl rfl hsE rfl (fun u hu => by rw [List.mem_singleton.1 hu]; rfl) (fun w hs j u hu => by
      have h1 : w.heap[ge0]? = some (row [.map (some gm)] 103) := fact0 hs.all
      rw [add_none, cell_of_blk h1]
      simpa using hu) (by omega) (by simp only [maxLen]; omega) (by show (i + 1) * 8 ≤ _; omega) rfl rfl (fun qE hqE => ?_))
    rw [show mapsV gs ++ [Value.map (some gm)] = mapsV (gs ++ [gm]) by simp] at hqE ⊢
    obtain _ | ⟨ge, cape, exe⟩ := qE
    · have := hqE.1; omega
    refine Pw.perm (permM.symm.trans permN) ?_
    refine Pw.re (d := 37) (v' := .slice (some ⟨ge, 0, none⟩) (i + 1) cape) rfl rfl ?_
    repeat (first | (with_reducible first | refine Pw.seq ?_ | refine Pw.region ?_ | refine Pw.nil ?_ | refine Pw.then_ ?_ | refine Pw.skip ?_ | refine Pw.block ?_ | refine Pw.exit ?_ | refine Pw.inX ?_ | refine Pw.inN ?_ | refine Pw.inR ?_ | refine Pw.thenX ?_ | refine Pw.thenR ?_ | refine Pw.ret ?_) | refine Pw.list (Pw.pure rfl rfl rfl ?_) | refine Pw.inY rfl ?_ | refine Pw.list (Pw.off rfl rfl ?_) | refine Pw.condT rfl ?_ | refine Pw.condF rfl ?_ | refine Pw.list (Pw.box rfl rfl rfl rfl (fun _ => ?_)) | refine Pw.list (Pw.alloc rfl rfl rfl rfl rfl (fun _ => ?_)) | refine Pw.list (Pw.build rfl rfl rfl rfl ?_) | refine Pw.list (Pw.ld rfl inferInstance rfl rfl rfl ?_) | refine Pw.list (Pw.sto rfl rfl inferInstance rfl rfl rfl rfl rfl inferInstance rfl ?_))
    have hpv : pks vs i = v.pk := by unfold pks; rw [hvi]; rfl
    have hst : st vs i = v.st := by unfold st; rw [hvi]; rfl
    obtain ⟨hnd, hpl⟩ := hpk i
    rw [hpv] at hnd hpl
    refine Pw.loopJ (σ := Nat × List Ae) (fun t => t.1 ≤ v.pk.length ∧ AOk t.2 ∧ ∀ c, apA t.2 c = apK vs cs i t.1 c)
      (fun t => ⟨[(1, .pointer (some ⟨g1, 0, none⟩)), (3, .pointer (some ⟨gr, 0, none⟩)), (4, .int .i64 i), (5, .pointer (some ⟨g5, 0, none⟩)), (14, .slice (some av) vs.length cv), (15, .int .i64 vs.length), (16, .int .i64 i), (41, .slice v.z.1 v.pk.length v.z.2), (42, .int .i64 v.pk.length), (43, .int .i64 t.1)],
        ⟨gr, row [.slice (some av) vs.length cv, sl cs (Ac, cc), .map (some ga), sl (natL 1) zd, .slice (some ⟨gl, 0, none⟩) (i + 1) capl, .slice (some ⟨ge, 0, none⟩) (i + 1) cape, .slice none 0 0] 75⟩ :: ⟨ga, mapO (mA t.2)⟩ :: (gL (some (gl, capl, exl)) (nils (i + 1)) 34 ++ (gL (some (ge, cape, exe)) (mapsV (gs ++ [gm])) 103 ++ (mapsL (gs ++ [gm]) ++ gA t.2))), [S1 (natL 1) zd, fun W => W.heap[g1]? = some (row [.slice (some av) vs.length cv, sl cs (Ac, cc)] 25), fun W => W.heap[g5]? = some (row [.int .i64 v.id, .int .u64 v.st, sl v.pk v.z] 44), I1 v.pk v.z, VS vs (some av, cv), I1 cs (Ac, cc)]⟩) (fun t => v.pk.length - t.1) (0, A) ⟨Nat.zero_le _, hA, fun c => (hap c).trans (apK_zero vs cs i c).symm⟩ (by
      intro X h
      dsimp only at h
      refine Pw.enter ?_ ?_ X h
      · exact ⟨rfl, rfl, rfl, rfl, rfl, rfl, rfl, rfl, rfl, rfl, trivial⟩
      · exact fun w h => allCons (hv w h) (allCons (Blks.h (L := []) (g := g1) w (fun b hb => by cases hb) h) (allCons (Blks.h (L := []) (g := g5) w (fun b hb => by cases hb) h) (allCons (hv w h : heldV v w) (allCons (hv w h) (allCons (hv w h) allNil)))))) ?_
    rintro ⟨k, A2⟩ ⟨hk, hA2, hap2⟩
    dsimp only at hk hA2 hap2 ⊢
    repeat (first | (with_reducible first | refine Pw.seq ?_ | refine Pw.region ?_ | refine Pw.nil ?_ | refine Pw.then_ ?_ | refine Pw.skip ?_ | refine Pw.block ?_ | refine Pw.exit ?_ | refine Pw.inX ?_ | refine Pw.inN ?_ | refine Pw.inR ?_ | refine Pw.thenX ?_ | refine Pw.thenR ?_ | refine Pw.ret ?_) | refine Pw.list (Pw.pure rfl rfl rfl ?_) | refine Pw.inY rfl ?_ | refine Pw.list (Pw.off rfl rfl ?_) | refine Pw.condT rfl ?_ | refine Pw.condF rfl ?_)
    refine Pw.condD rfl (fun ck => ?_) (fun ck => ?_)
    · obtain ⟨c, hc, hcm⟩ := get_at (show k < v.pk.length by omega)
      have hc' : (pks vs i)[k]? = some c := by rw [hpv]; exact hc
      repeat (first | (with_reducible first | refine Pw.seq ?_ | refine Pw.region ?_ | refine Pw.nil ?_ | refine Pw.then_ ?_ | refine Pw.skip ?_ | refine Pw.block ?_ | refine Pw.exit ?_ | refine Pw.inX ?_ | refine Pw.inN ?_ | refine Pw.inR ?_ | refine Pw.thenX ?_ | refine Pw.thenR ?_ | refine Pw.ret ?_) | refine Pw.list (Pw.pure rfl rfl rfl ?_) | refine Pw.inY rfl ?_ | refine Pw.list (Pw.off rfl rfl ?_) | refine Pw.condT rfl ?_ | refine Pw.condF rfl ?_)
      refine Pw.list (Pw.index rfl rfl rfl rfl (Int.natCast_nonneg k) ck (fun w h => (hv w h : I1 v.pk v.z w).has (Int.natCast_nonneg k) ck) rfl rfl ?_)
      rintro ad hza
      refine Pw.list (Pw.load1 rfl rfl (fun w hs => (show Ints .i64 v.pk (some ad) v.z.2 w by rw [← hza]; exact (hv w hs.all : I1 v.pk v.z w)).cell (Int.natCast_nonneg k) ck) rfl rfl ?_)
      rw [get_rd hc]
      repeat (first | (with_reducible first | refine Pw.seq ?_ | refine Pw.region ?_ | refine Pw.nil ?_ | refine Pw.then_ ?_ | refine Pw.skip ?_ | refine Pw.block ?_ | refine Pw.exit ?_ | refine Pw.inX ?_ | refine Pw.inN ?_ | refine Pw.inR ?_ | refine Pw.thenX ?_ | refine Pw.thenR ?_ | refine Pw.ret ?_) | refine Pw.list (Pw.pure rfl rfl rfl ?_) | refine Pw.inY rfl ?_ | refine Pw.list (Pw.off rfl rfl ?_) | refine Pw.condT rfl ?_ | refine Pw.condF rfl ?_ | refine Pw.list (Pw.box rfl rfl rfl rfl (fun _ => ?_)) | refine Pw.list (Pw.alloc rfl rfl rfl rfl rfl (fun _ => ?_)) | refine Pw.list (Pw.build rfl rfl rfl rfl ?_) | refine Pw.list (Pw.ld rfl inferInstance rfl rfl rfl ?_) | refine Pw.list (Pw.sto rfl rfl inferInstance rfl rfl rfl rfl rfl inferInstance rfl ?_))
      by_cases hs : v.st > 0
      · refine Pw.re (d := 50) (v' := .bool true) rfl (congrArg Value.bool (decide_eq_true hs)) ?_
        repeat (first | (with_reducible first | refine Pw.seq ?_ | refine Pw.region ?_ | refine Pw.nil ?_ | refine Pw.then_ ?_ | refine Pw.skip ?_ | refine Pw.block ?_ | refine Pw.exit ?_ | refine Pw.inX ?_ | refine Pw.inN ?_ | refine Pw.inR ?_ | refine Pw.thenX ?_ | refine Pw.thenR ?_ | refine Pw.ret ?_) | refine Pw.list (Pw.pure rfl rfl rfl ?_) | refine Pw.inY rfl ?_ | refine Pw.list (Pw.off rfl rfl ?_) | refine Pw.condT rfl ?_ | refine Pw.condF rfl ?_ | refine Pw.list (Pw.box rfl rfl rfl rfl (fun _ => ?_)) | refine Pw.list (Pw.alloc rfl rfl rfl rfl rfl (fun _ => ?_)) | refine Pw.list (Pw.build rfl rfl rfl rfl ?_) | refine Pw.list (Pw.ld rfl inferInstance rfl rfl rfl ?_) | refine Pw.list (Pw.sto rfl rfl inferInstance rfl rfl rfl rfl rfl inferInstance rfl ?_))
        refine Pw.list (Pw.call (Contains_ct cs (Ac, cc) c) rfl rfl rfl (by kernel_rfl) rfl rfl (fun w h => (hv w h)) ?_)
        intro _ _
        by_cases hcc : c ∈ cs
        · refine Pw.re (d := 54) (v' := .bool true) rfl (congrArg Value.bool (decide_eq_true hcc)) ?_
          have hyes := apK_yes hc' (by rw [hpv]; exact hnd) (by rw [hst]; exact hs) hcc
          repeat (first | (with_reducible first | refine Pw.seq ?_ | refine Pw.region ?_ | refine Pw.nil ?_ | refine Pw.then_ ?_ | refine Pw.skip ?_ | refine Pw.block ?_ | refine Pw.exit ?_ | refine Pw.inX ?_ | refine Pw.inN ?_ | refine Pw.inR ?_ | refine Pw.thenX ?_ | refine Pw.thenR ?_ | refine Pw.ret ?_) | refine Pw.list (Pw.pure rfl rfl rfl ?_) | refine Pw.inY rfl ?_ | refine Pw.list (Pw.off rfl rfl ?_) | refine Pw.condT rfl ?_ | refine Pw.condF rfl ?_ | refine Pw.list (Pw.box rfl rfl rfl rfl (fun _ => ?_)) | refine Pw.list (Pw.alloc rfl rfl rfl rfl rfl (fun _ => ?_)) | refine Pw.list (Pw.build rfl rfl rfl rfl ?_) | refine Pw.list (Pw.ld rfl inferInstance rfl rfl rfl ?_) | refine Pw.list (Pw.sto rfl rfl inferInstance rfl rfl rfl rfl rfl inferInstance rfl ?_))
          rcases find_cases A2 c with ⟨hno, hf⟩ | ⟨q, e, hq, hqc, hf, hb⟩
          · have hz : apK vs cs i k c = [] := by rw [← hap2, apA_none hf]
            refine Pw.drawnH (g := gr) inferInstance mixed rfl rfl ?_
            refine Pw.takeP 0 (nb 15 1) rfl rfl rfl rfl (by kernel_rfl) np so ?_
            refine Pw.takeP 1 (nb 15 3) rfl rfl rfl rfl (by kernel_rfl) np so ?_
            refine Pw.takeP 2 (nb 15 7) rfl rfl rfl rfl (by kernel_rfl) np so ?_
            refine Pw.takeF 3 (nb 15 15) rfl rfl inferInstance rfl rfl rfl (by kernel_rfl) np so ?_
            refine Pw.takeP 4 (nb 15 31) rfl rfl rfl rfl (by kernel_rfl) np so ?_
            refine Pw.takeP 5 (nb 15 63) rfl rfl rfl rfl (by kernel_rfl) np so ?_
            refine Pw.takeP 6 (nb 15 127) rfl rfl rfl rfl (by kernel_rfl) np so ?_
            refine Pw.takeP 7 (nb 15 255) rfl rfl rfl rfl (by kernel_rfl) np so ?_
            refine Pw.takeF 8 (nb 15 511) rfl rfl inferInstance rfl rfl rfl (by kernel_rfl) np so ?_
            refine Pw.takeP 9 (nb 15 1023) rfl rfl rfl rfl (by kernel_rfl) np so ?_
            refine Pw.takeP 11 (nb 15 3071) rfl rfl rfl rfl (by kernel_rfl) np so ?_
            refine Pw.two 10 12 (nb 15 4095) (nb 15 7167) rfl rfl (by kernel_rfl) ?_ ?_
            · skip
              refine Pw.lookupF (m := mA A2) rfl rfl rfl rfl rfl rfl (fun w hs => hs.own ⟨ga, mapO (mA A2)⟩ (.tail _ (.head _))) rfl rfl ?_
              refine Pw.re (d := 66) (v' := .slice none 0 0) rfl (by unfold mval; rw [lkp_none (fun p hp => by obtain ⟨x, hx, rfl⟩ := List.mem_map.1 hp; exact hno x hx)]) ?_
              refine Pw.held so ?_
              refine Pw.one 12 (nb 15 8191) rfl (by kernel_rfl) ?_
              refine Pw.lit1 rfl rfl rfl rfl rfl rfl rfl rfl rfl (fun gp0 => freeHead ?_)
              refine Pw.held so ?_
              refine Pw.one 13 (nb 15 16383) rfl (by kernel_rfl) ?_
              refine Pw.push (s := none) (m := 0) (cells := []) (news := [.int .i64 i]) rfl rfl rfl rfl rfl rfl rfl ⟨rfl, rfl⟩ rfl (fun u hu => by rw [List.mem_singleton.1 hu]; rfl) (fun w hs j u hu => by
                have h1 : w.heap[gp0]? = some (row [.int .i64 i] 3) := fact0 hs.all
                rw [add_none, cell_of_blk h1]
                simpa using hu) (by omega) (by simp only [maxLen]; omega) (by show 1 * 8 ≤ _; omega) rfl rfl (fun qp hqp => ?_)
              obtain _ | ⟨gp, capp, exp⟩ := qp
              · have := hqp.1; omega
              refine Pw.perm (permE (c := c) (s := some (gp, capp, exp)) (i := i)) ?_
              refine Pw.re (d := 69) (v' := .slice (some ⟨gp, 0, none⟩) 1 capp) rfl rfl ?_
              refine Pw.held so ?_
              refine Pw.one 14 (nb 15 32767) rfl (by kernel_rfl) ?_
              refine Pw.mapNew (m := mA A2) (k := c) rfl rfl rfl rfl rfl (fun p hp => by obtain ⟨x, hx, rfl⟩ := List.mem_map.1 hp; exact hno x hx) (.tail .head) rfl ?_
              refine Pw.held so ?_
              refine Pw.done (by kernel_rfl) ?_
              repeat (first | (with_reducible first | refine Pw.seq ?_ | refine Pw.region ?_ | refine Pw.nil ?_ | refine Pw.then_ ?_ | refine Pw.skip ?_ | refine Pw.block ?_ | refine Pw.exit ?_ | refine Pw.inX ?_ | refine Pw.inN ?_ | refine Pw.inR ?_ | refine Pw.thenX ?_ | refine Pw.thenR ?_ | refine Pw.ret ?_) | refine Pw.list (Pw.pure rfl rfl rfl ?_) | refine Pw.inY rfl ?_ | refine Pw.list (Pw.off rfl rfl ?_) | refine Pw.condT rfl ?_ | refine Pw.condF rfl ?_ | refine Pw.list (Pw.box rfl rfl rfl rfl (fun _ => ?_)) | refine Pw.list (Pw.alloc rfl rfl rfl rfl rfl (fun _ => ?_)) | refine Pw.list (Pw.build rfl rfl rfl rfl ?_) | refine Pw.list (Pw.ld rfl inferInstance rfl rfl rfl ?_) | refine Pw.list (Pw.sto rfl rfl inferInstance rfl rfl rfl rfl rfl inferInstance rfl ?_))
              refine Pw.re (d := 43) (v' := .int .i64 ((k + 1 : Nat) : Int)) rfl (congrArg (Value.int .i64) (i64s (n := 100000) (by omega) (by omega))) ?_
              exact Pw.again (k + 1, A2 ++ [(c, some (gp, capp, exp), [i])]) ⟨by show k + 1 ≤ v.pk.length; omega, aok_new hA2 hno hqp, fun d => by rw [apA_new hno, hyes, hz, hap2]; rfl⟩ (by show v.pk.length - (k + 1) < v.pk.length - k; omega) ⟨rfl, rfl, rfl, rfl, rfl, rfl, rfl, rfl, rfl, rfl, trivial⟩ (by dsimp only; rw [show mA (A2 ++ [(c, some (gp, capp, exp), [i])]) = mA A2 ++ [(c, .slice (some ⟨gp, 0, none⟩) 1 capp)] by simp [gv]]) (fun w h => allCons (hv w h) (allCons (Blks.h (L := []) (g := g1) w (fun b hb => by cases hb) h) (allCons (Blks.h (L := []) (g := g5) w (fun b hb => by cases hb) h) (allCons (hv w h) (allCons (hv w h) (allCons (hv w h) allNil))))))
            · skip
              refine Pw.lit1 rfl rfl rfl rfl rfl rfl rfl rfl rfl (fun gp0 => freeHead ?_)
              refine Pw.held so ?_
              refine Pw.one 10 (nb 15 8191) rfl (by kernel_rfl) ?_
              refine Pw.lookupF (m := mA A2) rfl rfl rfl rfl rfl rfl (fun w hs => hs.own ⟨ga, mapO (mA A2)⟩ (.tail _ (.head _))) rfl rfl ?_
              refine Pw.re (d := 66) (v' := .slice none 0 0) rfl (by unfold mval; rw [lkp_none (fun p hp => by obtain ⟨x, hx, rfl⟩ := List.mem_map.1 hp; exact hno x hx)]) ?_
              refine Pw.held so ?_
              refine Pw.one 13 (nb 15 16383) rfl (by kernel_rfl) ?_
              refine Pw.push (s := none) (m := 0) (cells := []) (news := [.int .i64 i]) rfl rfl rfl rfl rfl rfl rfl ⟨rfl, rfl⟩ rfl (fun u hu => by rw [List.mem_singleton.1 hu]; rfl) (fun w hs j u hu => by
                have h1 : w.heap[gp0]? = some (row [.int .i64 i] 3) := fact0 hs.all
                rw [add_none, cell_of_blk h1]
                simpa using hu) (by omega) (by simp only [maxLen]; omega) (by show 1 * 8 ≤ _; omega) rfl rfl (fun qp hqp => ?_)
              obtain _ | ⟨gp, capp, exp⟩ := qp
              · have := hqp.1; omega
              refine Pw.perm (permE (c := c) (s := some (gp, capp, exp)) (i := i)) ?_
              refine Pw.re (d := 69) (v' := .slice (some ⟨gp, 0, none⟩) 1 capp) rfl rfl ?_
              refine Pw.held so ?_
              refine Pw.one 14 (nb 15 32767) rfl (by kernel_rfl) ?_
              refine Pw.mapNew (m := mA A2) (k := c) rfl rfl rfl rfl rfl (fun p hp => by obtain ⟨x, hx, rfl⟩ := List.mem_map.1 hp; exact hno x hx) (.tail .head) rfl ?_
              refine Pw.held so ?_
              refine Pw.done (by kernel_rfl) ?_
              repeat (first | (with_reducible first | refine Pw.seq ?_ | refine Pw.region ?_ | refine Pw.nil ?_ | refine Pw.then_ ?_ | refine Pw.skip ?_ | refine Pw.block ?_ | refine Pw.exit ?_ | refine Pw.inX ?_ | refine Pw.inN ?_ | refine Pw.inR ?_ | refine Pw.thenX ?_ | refine Pw.thenR ?_ | refine Pw.ret ?_) | refine Pw.list (Pw.pure rfl rfl rfl ?_) | refine Pw.inY rfl ?_ | refine Pw.list (Pw.off rfl rfl ?_) | refine Pw.condT rfl ?_ | refine Pw.condF rfl ?_ | refine Pw.list (Pw.box rfl rfl rfl rfl (fun _ => ?_)) | refine Pw.list (Pw.alloc rfl rfl rfl rfl rfl (fun _ => ?_)) | refine Pw.list (Pw.build rfl rfl rfl rfl ?_) | refine Pw.list (Pw.ld rfl inferInstance rfl rfl rfl ?_) | refine Pw.list (Pw.sto rfl rfl inferInstance rfl rfl rfl rfl rfl inferInstance rfl ?_))
              refine Pw.re (d := 43) (v' := .int .i64 ((k + 1 : Nat) : Int)) rfl (congrArg (Value.int .i64) (i64s (n := 100000) (by omega) (by omega))) ?_
              exact Pw.again (k + 1, A2 ++ [(c, some (gp, capp, exp), [i])]) ⟨by show k + 1 ≤ v.pk.length; omega, aok_new hA2 hno hqp, fun d => by rw [apA_new hno, hyes, hz, hap2]; rfl⟩ (by show v.pk.length - (k + 1) < v.pk.length - k; omega) ⟨rfl, rfl, rfl, rfl, rfl, rfl, rfl, rfl, rfl, rfl, trivial⟩ (by dsimp only; rw [show mA (A2 ++ [(c, some (gp, capp, exp), [i])]) = mA A2 ++ [(c, .slice (some ⟨gp, 0, none⟩) 1 capp)] by simp [gv]]) (fun w h => allCons (hv w h) (allCons (Blks.h (L := []) (g := g1) w (fun b hb => by cases hb) h) (allCons (Blks.h (L := []) (g := g5) w (fun b hb => by cases hb) h) (allCons (hv w h) (allCons (hv w h) (allCons (hv w h) allNil))))))
          · obtain ⟨ec, es, el⟩ := e
            have hqc' : ec = c := hqc
            subst hqc'
            have hel : el = apK vs cs i k ec := by rw [← hap2, apA_of hf]
            have hln : el.length ≤ i + 1 := by
              rw [hel]
              unfold apK apI
              rw [List.length_append]
              have h1 : (if ec ∈ cs then (List.range i).filter (fun i => decide (0 < st vs i) && decide (ec ∈ pks vs i)) else []).length ≤ i := by
                rw [if_pos hcc]
                have := List.length_filter_le (fun i => decide (0 < st vs i) && decide (ec ∈ pks vs i)) (List.range i); rwa [List.length_range] at this
              have h2 : (if 0 < st vs i ∧ ec ∈ cs ∧ ec ∈ (pks vs i).take k then [i] else []).length ≤ 1 := by split <;> simp
              omega
            have hlk := lkp_mA (i := 0) hq rfl hb
            rw [Nat.zero_add] at hlk
            refine Pw.drawnH (g := gr) inferInstance mixed rfl rfl ?_
            refine Pw.takeP 0 (nb 15 1) rfl rfl rfl rfl (by kernel_rfl) np so ?_
            refine Pw.takeP 1 (nb 15 3) rfl rfl rfl rfl (by kernel_rfl) np so ?_
            refine Pw.takeP 2 (nb 15 7) rfl rfl rfl rfl (by kernel_rfl) np so ?_
            refine Pw.takeF 3 (nb 15 15) rfl rfl inferInstance rfl rfl rfl (by kernel_rfl) np so ?_
            refine Pw.takeP 4 (nb 15 31) rfl rfl rfl rfl (by kernel_rfl) np so ?_
            refine Pw.takeP 5 (nb 15 63) rfl rfl rfl rfl (by kernel_rfl) np so ?_
            refine Pw.takeP 6 (nb 15 127) rfl rfl rfl rfl (by kernel_rfl) np so ?_
            refine Pw.takeP 7 (nb 15 255) rfl rfl rfl rfl (by kernel_rfl) np so ?_
            refine Pw.takeF 8 (nb 15 511) rfl rfl inferInstance rfl rfl rfl (by kernel_rfl) np so ?_
            refine Pw.takeP 9 (nb 15 1023) rfl rfl rfl rfl (by kernel_rfl) np so ?_
            refine Pw.takeP 11 (nb 15 3071) rfl rfl rfl rfl (by kernel_rfl) np so ?_
            refine Pw.two 10 12 (nb 15 4095) (nb 15 7167) rfl rfl (by kernel_rfl) ?_ ?_
            · skip
              refine Pw.lookupF (m := mA A2) rfl rfl rfl rfl rfl rfl (fun w hs => hs.own ⟨ga, mapO (mA A2)⟩ (.tail _ (.head _))) rfl rfl ?_
              refine Pw.re (d := 66) (v' := gv es el.length) rfl (by unfold mval; rw [hlk]) ?_
              refine Pw.held so ?_
              refine Pw.one 12 (nb 15 8191) rfl (by kernel_rfl) ?_
              refine Pw.lit1 rfl rfl rfl rfl rfl rfl rfl rfl rfl (fun gp0 => freeHead ?_)
              refine Pw.held so ?_
              refine Pw.one 13 (nb 15 16383) rfl (by kernel_rfl) ?_
              refine Pw.perm (permQ hq) ?_
              refine Pw.push (s := es) (m := el.length) (cells := cellsI el) (news := [.int .i64 i]) rfl rfl rfl rfl rfl rfl rfl (hA2.ok _ (List.mem_of_getElem? hq)) rfl (fun u hu => by rw [List.mem_singleton.1 hu]; rfl) (fun w hs j u hu => by
                have h1 : w.heap[gp0]? = some (row [.int .i64 i] 3) := fact0 hs.all
                rw [add_none, cell_of_blk h1]
                simpa using hu) (by omega) (by simp only [maxLen]; omega) (by show (el.length + 1) * 8 ≤ _; omega) rfl rfl (fun qp hqp => ?_)
              rw [← cellsI_snoc] at hqp ⊢
              obtain _ | ⟨gp, capp, exp⟩ := qp
              · have := hqp.1; omega
              refine Pw.perm (permQs (c := ec) hq) ?_
              refine Pw.re (d := 69) (v' := .slice (some ⟨gp, 0, none⟩) (el.length + 1) capp) rfl rfl ?_
              refine Pw.held so ?_
              refine Pw.one 14 (nb 15 32767) rfl (by kernel_rfl) ?_
              refine Pw.mapSet (m := mA A2) (k := ec) rfl rfl rfl rfl rfl hlk (.tail .head) rfl ?_
              refine Pw.held so ?_
              refine Pw.done (by kernel_rfl) ?_
              repeat (first | (with_reducible first | refine Pw.seq ?_ | refine Pw.region ?_ | refine Pw.nil ?_ | refine Pw.then_ ?_ | refine Pw.skip ?_ | refine Pw.block ?_ | refine Pw.exit ?_ | refine Pw.inX ?_ | refine Pw.inN ?_ | refine Pw.inR ?_ | refine Pw.thenX ?_ | refine Pw.thenR ?_ | refine Pw.ret ?_) | refine Pw.list (Pw.pure rfl rfl rfl ?_) | refine Pw.inY rfl ?_ | refine Pw.list (Pw.off rfl rfl ?_) | refine Pw.condT rfl ?_ | refine Pw.condF rfl ?_ | refine Pw.list (Pw.box rfl rfl rfl rfl (fun _ => ?_)) | refine Pw.list (Pw.alloc rfl rfl rfl rfl rfl (fun _ => ?_)) | refine Pw.list (Pw.build rfl rfl rfl rfl ?_) | refine Pw.list (Pw.ld rfl inferInstance rfl rfl rfl ?_) | refine Pw.list (Pw.sto rfl rfl inferInstance rfl rfl rfl rfl rfl inferInstance rfl ?_))
              refine Pw.re (d := 43) (v' := .int .i64 ((k + 1 : Nat) : Int)) rfl (congrArg (Value.int .i64) (i64s (n := 100000) (by omega) (by omega))) ?_
              exact Pw.again (k + 1, A2.set q (ec, some (gp, capp, exp), el ++ [i])) ⟨by show k + 1 ≤ v.pk.length; omega, aok_set hA2 hq (by rw [show (el ++ [i]).length = el.length + 1 by simp]; exact hqp), fun d => by rw [apA_set d hq rfl hb, hyes, ← hel, hap2]⟩ (by show v.pk.length - (k + 1) < v.pk.length - k; omega) ⟨rfl, rfl, rfl, rfl, rfl, rfl, rfl, rfl, rfl, rfl, trivial⟩ (by dsimp only; rw [show mA (A2.set q (ec, some (gp, capp, exp), el ++ [i])) = (mA A2).set q (ec, .slice (some ⟨gp, 0, none⟩) (el.length + 1) capp) by rw [mA_set]; simp [gv]]) (fun w h => allCons (hv w h) (allCons (Blks.h (L := []) (g := g1) w (fun b hb => by cases hb) h) (allCons (Blks.h (L := []) (g := g5) w (fun b hb => by cases hb) h) (allCons (hv w h) (allCons (hv w h) (allCons (hv w h) allNil))))))
            · skip
              refine Pw.lit1 rfl rfl rfl rfl rfl rfl rfl rfl rfl (fun gp0 => freeHead ?_)
              refine Pw.held so ?_
              refine Pw.one 10 (nb 15 8191) rfl (by kernel_rfl) ?_
              refine Pw.lookupF (m := mA A2) rfl rfl rfl rfl rfl rfl (fun w hs => hs.own ⟨ga, mapO (mA A2)⟩ (.tail _ (.head _))) rfl rfl ?_
              refine Pw.re (d := 66) (v' := gv es el.length) rfl (by unfold mval; rw [hlk]) ?_
              refine Pw.held so ?_
              refine Pw.one 13 (nb 15 16383) rfl (by kernel_rfl) ?_
              refine Pw.perm (permQ hq) ?_
              refine Pw.push (s := es) (m := el.length) (cells := cellsI el) (news := [.int .i64 i]) rfl rfl rfl rfl rfl rfl rfl (hA2.ok _ (List.mem_of_getElem? hq)) rfl (fun u hu => by rw [List.mem_singleton.1 hu]; rfl) (fun w hs j u hu => by
                have h1 : w.heap[gp0]? = some (row [.int .i64 i] 3) := fact0 hs.all
                rw [add_none, cell_of_blk h1]
                simpa using hu) (by omega) (by simp only [maxLen]; omega) (by show (el.length + 1) * 8 ≤ _; omega) rfl rfl (fun qp hqp => ?_)
              rw [← cellsI_snoc] at hqp ⊢
              obtain _ | ⟨gp, capp, exp⟩ := qp
              · have := hqp.1; omega
              refine Pw.perm (permQs (c := ec) hq) ?_
              refine Pw.re (d := 69) (v' := .slice (some ⟨gp, 0, none⟩) (el.length + 1) capp) rfl rfl ?_
              refine Pw.held so ?_
              refine Pw.one 14 (nb 15 32767) rfl (by kernel_rfl) ?_
              refine Pw.mapSet (m := mA A2) (k := ec) rfl rfl rfl rfl rfl hlk (.tail .head) rfl ?_
              refine Pw.held so ?_
              refine Pw.done (by kernel_rfl) ?_
              repeat (first | (with_reducible first | refine Pw.seq ?_ | refine Pw.region ?_ | refine Pw.nil ?_ | refine Pw.then_ ?_ | refine Pw.skip ?_ | refine Pw.block ?_ | refine Pw.exit ?_ | refine Pw.inX ?_ | refine Pw.inN ?_ | refine Pw.inR ?_ | refine Pw.thenX ?_ | refine Pw.thenR ?_ | refine Pw.ret ?_) | refine Pw.list (Pw.pure rfl rfl rfl ?_) | refine Pw.inY rfl ?_ | refine Pw.list (Pw.off rfl rfl ?_) | refine Pw.condT rfl ?_ | refine Pw.condF rfl ?_ | refine Pw.list (Pw.box rfl rfl rfl rfl (fun _ => ?_)) | refine Pw.list (Pw.alloc rfl rfl rfl rfl rfl (fun _ => ?_)) | refine Pw.list (Pw.build rfl rfl rfl rfl ?_) | refine Pw.list (Pw.ld rfl inferInstance rfl rfl rfl ?_) | refine Pw.list (Pw.sto rfl rfl inferInstance rfl rfl rfl rfl rfl inferInstance rfl ?_))
              refine Pw.re (d := 43) (v' := .int .i64 ((k + 1 : Nat) : Int)) rfl (congrArg (Value.int .i64) (i64s (n := 100000) (by omega) (by omega))) ?_
              exact Pw.again (k + 1, A2.set q (ec, some (gp, capp, exp), el ++ [i])) ⟨by show k + 1 ≤ v.pk.length; omega, aok_set hA2 hq (by rw [show (el ++ [i]).length = el.length + 1 by simp]; exact hqp), fun d => by rw [apA_set d hq rfl hb, hyes, ← hel, hap2]⟩ (by show v.pk.length - (k + 1) < v.pk.length - k; omega) ⟨rfl, rfl, rfl, rfl, rfl, rfl, rfl, rfl, rfl, rfl, trivial⟩ (by dsimp only; rw [show mA (A2.set q (ec, some (gp, capp, exp), el ++ [i])) = (mA A2).set q (ec, .slice (some ⟨gp, 0, none⟩) (el.length + 1) capp) by rw [mA_set]; simp [gv]]) (fun w h => allCons (hv w h) (allCons (Blks.h (L := []) (g := g1) w (fun b hb => by cases hb) h) (allCons (Blks.h (L := []) (g := g5) w (fun b hb => by cases hb) h) (allCons (hv w h) (allCons (hv w h) (allCons (hv w h) allNil))))))
        · refine Pw.re (d := 54) (v' := .bool false) rfl (congrArg Value.bool (decide_eq_false hcc)) ?_
          repeat (first | (with_reducible first | refine Pw.seq ?_ | refine Pw.region ?_ | refine Pw.nil ?_ | refine Pw.then_ ?_ | refine Pw.skip ?_ | refine Pw.block ?_ | refine Pw.exit ?_ | refine Pw.inX ?_ | refine Pw.inN ?_ | refine Pw.inR ?_ | refine Pw.thenX ?_ | refine Pw.thenR ?_ | refine Pw.ret ?_) | refine Pw.list (Pw.pure rfl rfl rfl ?_) | refine Pw.inY rfl ?_ | refine Pw.list (Pw.off rfl rfl ?_) | refine Pw.condT rfl ?_ | refine Pw.condF rfl ?_ | refine Pw.list (Pw.box rfl rfl rfl rfl (fun _ => ?_)) | refine Pw.list (Pw.alloc rfl rfl rfl rfl rfl (fun _ => ?_)) | refine Pw.list (Pw.build rfl rfl rfl rfl ?_) | refine Pw.list (Pw.ld rfl inferInstance rfl rfl rfl ?_) | refine Pw.list (Pw.sto rfl rfl inferInstance rfl rfl rfl rfl rfl inferInstance rfl ?_))
          refine Pw.re (d := 43) (v' := .int .i64 ((k + 1 : Nat) : Int)) rfl (congrArg (Value.int .i64) (i64s (n := 100000) (by omega) (by omega))) ?_
          exact Pw.again (k + 1, A2) ⟨by show k + 1 ≤ v.pk.length; omega, hA2, fun d => by rw [hap2, apK_no hc' (by rw [hst]; exact fun e => hcc e.2)]⟩ (by show v.pk.length - (k + 1) < v.pk.length - k; omega) ⟨rfl, rfl, rfl, rfl, rfl, rfl, rfl, rfl, rfl, rfl, trivial⟩ rfl (fun w h => allCons (hv w h) (allCons (Blks.h (L := []) (g := g1) w (fun b hb => by cases hb) h) (allCons (Blks.h (L := []) (g := g5) w (fun b hb => by cases hb) h) (allCons (hv w h) (allCons (hv w h) (allCons (hv w h) allNil))))))
      · refine Pw.re (d := 50) (v' := .bool false) rfl (congrArg Value.bool (decide_eq_false hs)) ?_
        repeat (first | (with_reducible first | refine Pw.seq ?_ | refine Pw.region ?_ | refine Pw.nil ?_ | refine Pw.then_ ?_ | refine Pw.skip ?_ | refine Pw.block ?_ | refine Pw.exit ?_ | refine Pw.inX ?_ | refine Pw.inN ?_ | refine Pw.inR ?_ | refine Pw.thenX ?_ | refine Pw.thenR ?_ | refine Pw.ret ?_) | refine Pw.list (Pw.pure rfl rfl rfl ?_) | refine Pw.inY rfl ?_ | refine Pw.list (Pw.off rfl rfl ?_) | refine Pw.condT rfl ?_ | refine Pw.condF rfl ?_ | refine Pw.list (Pw.box rfl rfl rfl rfl (fun _ => ?_)) | refine Pw.list (Pw.alloc rfl rfl rfl rfl rfl (fun _ => ?_)) | refine Pw.list (Pw.build rfl rfl rfl rfl ?_) | refine Pw.list (Pw.ld rfl inferInstance rfl rfl rfl ?_) | refine Pw.list (Pw.sto rfl rfl inferInstance rfl rfl rfl rfl rfl inferInstance rfl ?_))
        refine Pw.re (d := 43) (v' := .int .i64 ((k + 1 : Nat) : Int)) rfl (congrArg (Value.int .i64) (i64s (n := 100000) (by omega) (by omega))) ?_
        exact Pw.again (k + 1, A2) ⟨by show k + 1 ≤ v.pk.length; omega, hA2, fun d => by rw [hap2, apK_no hc' (by rw [hst]; exact fun e => hs e.1)]⟩ (by show v.pk.length - (k + 1) < v.pk.length - k; omega) ⟨rfl, rfl, rfl, rfl, rfl, rfl, rfl, rfl, rfl, rfl, trivial⟩ rfl (fun w h => allCons (hv w h) (allCons (Blks.h (L := []) (g := g1) w (fun b hb => by cases hb) h) (allCons (Blks.h (L := []) (g := g5) w (fun b hb => by cases hb) h) (allCons (hv w h) (allCons (hv w h) (allCons (hv w h) allNil))))))
    · obtain rfl : k = v.pk.length := by omega
      repeat (first | (with_reducible first | refine Pw.seq ?_ | refine Pw.region ?_ | refine Pw.nil ?_ | refine Pw.then_ ?_ | refine Pw.skip ?_ | refine Pw.block ?_ | refine Pw.exit ?_ | refine Pw.inX ?_ | refine Pw.inN ?_ | refine Pw.inR ?_ | refine Pw.thenX ?_ | refine Pw.thenR ?_ | refine Pw.ret ?_) | refine Pw.list (Pw.pure rfl rfl rfl ?_) | refine Pw.inY rfl ?_ | refine Pw.list (Pw.off rfl rfl ?_) | refine Pw.condT rfl ?_ | refine Pw.condF rfl ?_ | refine Pw.list (Pw.box rfl rfl rfl rfl (fun _ => ?_)) | refine Pw.list (Pw.alloc rfl rfl rfl rfl rfl (fun _ => ?_)) | refine Pw.list (Pw.build rfl rfl rfl rfl ?_) | refine Pw.list (Pw.ld rfl inferInstance rfl rfl rfl ?_) | refine Pw.list (Pw.sto rfl rfl inferInstance rfl rfl rfl rfl rfl inferInstance rfl ?_))
      refine Pw.re (d := 16) (v' := .int .i64 ((i + 1 : Nat) : Int)) rfl (congrArg (Value.int .i64) (i64s (n := 100000) (by omega) (by omega))) ?_
      exact Pw.again (i + 1, some (gl, capl, exl), some (ge, cape, exe), gs ++ [gm], A2) ⟨by show i + 1 ≤ vs.length; omega, hqL, hqE, by simp [hgs], hA2, fun c => by rw [hap2, ← apK_all, hpv]⟩ (by show vs.length - (i + 1) < vs.length - i; omega) ⟨rfl, rfl, rfl, rfl, rfl, trivial⟩ rfl (fun w h => allCons (hv w h) (allCons (Blks.h (L := []) (g := g1) w (fun b hb => by cases hb) h) (allCons (hv w h) (allCons (hv w h) allNil))))
  · obtain rfl : i = vs.length := by omega
    have hn0 : vs.length ≠ 0 := fun e => hn (List.eq_nil_of_length_eq_zero e)
    obtain _ | ⟨gl, capl, exl⟩ := sL
    · exact absurd hsL.1 hn0
    obtain _ | ⟨ge, cape, exe⟩ := sE
    · exact absurd hsE.1 hn0
    refine Pw.perm permF (Pw.freeL ?_)
    repeat (first | (with_reducible first | refine Pw.seq ?_ | refine Pw.region ?_ | refine Pw.nil ?_ | refine Pw.then_ ?_ | refine Pw.skip ?_ | refine Pw.block ?_ | refine Pw.exit ?_ | refine Pw.inX ?_ | refine Pw.inN ?_ | refine Pw.inR ?_ | refine Pw.thenX ?_ | refine Pw.thenR ?_ | refine Pw.ret ?_) | refine Pw.list (Pw.pure rfl rfl rfl ?_) | refine Pw.inY rfl ?_ | refine Pw.list (Pw.off rfl rfl ?_) | refine Pw.condT rfl ?_ | refine Pw.condF rfl ?_ | refine Pw.list (Pw.box rfl rfl rfl rfl (fun _ => ?_)) | refine Pw.list (Pw.alloc rfl rfl rfl rfl rfl (fun _ => ?_)) | refine Pw.list (Pw.build rfl rfl rfl rfl ?_) | refine Pw.list (Pw.ld rfl inferInstance rfl rfl rfl ?_) | refine Pw.list (Pw.sto rfl rfl inferInstance rfl rfl rfl rfl rfl inferInstance rfl ?_))
    exact Pw.retB (x := ⟨gr, ga, gl, capl, ge, cape, exl, exe, mA A, zaA A, ⟨zd, List.replicate vs.length ([], (none, 0)), [], none, gs.map (fun g => (g, []))⟩⟩) (by
      show List.Sublist (⟨gr, row (rB vs.length (Av, cv) cs (Ac, cc) ga 1 zd gl capl (.slice (some ⟨ge, 0, none⟩) vs.length cape) (.slice none 0 0)) 75⟩ :: ⟨gl, row (cellsN (List.replicate vs.length ([], (none, 0))) ++ exl) 34⟩ :: ⟨ga, mapO (mA A)⟩ :: ([] ++ esL (gs.map (fun g => (g, []))))) _
      rw [cellsN_rep, esL_nil]
      exact List.Sublist.refl _) (.tmp rfl .nil) rfl ⟨⟨rep_nat vs, rfl, ⟨rfl, rfl⟩, maps_nil hgs⟩, fun c hc => mval_zaA hA (by rw [hap c, apI_all hc])⟩ (fun w h => ⟨⟨fun p hp => by
        rw [List.eq_of_mem_replicate hp]; exact Rows.nil _ _ _ _ _, (hv w h), fun p hp => (by cases hp), fun e he t ht => by
        obtain ⟨g, _, rfl⟩ := List.mem_map.1 he
        cases ht⟩, (hv w h), (hv w h), fun c hc => ints_zaA hA (by rw [hap c, apI_all hc]) (fun b hb => fact0 h b (List.mem_cons_of_mem _ hb)) (by
          have := (ap_sub vs c).length_le; rw [List.length_range] at this; omega), by
        show w.heap[ge]? = some (row (((gs.map (fun g => (g, ([] : List Ee)))).map Prod.fst).map (fun g => Value.map (some g)) ++ exe) 103)
        rw [fst_nil]
        exact fact0 h ⟨ge, row (mapsV gs ++ exe) 103⟩ (List.mem_cons_self ..)⟩)
end Go.Proofs.Wk
/- Elections: what a formed snapshot gives. -/
namespace Go.Proofs.Wk
open Go.RowKit
set_option linter.unusedVariables false
set_option linter.unusedSimpArgs false
theorem ris_at {l : List Int} (h : risB l = true) {i : Nat} (hi : i < l.length) : 0 ≤ rd l i ∧ (i = 0 ∨ rd l ((i : Int) - 1) < rd l i) := by
  have h1 := okAt_iff.1 (allB_iff.1 h i hi)
  exact ⟨h1.1, h1.2.2⟩
theorem ris_nn {l : List Int} (h : risB l = true) : ∀ c ∈ l, 0 ≤ c := fun c hc => by
  obtain ⟨i, hi⟩ := List.getElem?_of_mem hc
  have h1 := (ris_at h (List.getElem?_eq_some_iff.1 hi).1).1
  rwa [get_rd hi] at h1
theorem ris_lt {l : List Int} (h : risB l = true) : ∀ (k i : Nat) {a b : Int}, l[i]? = some a → l[i + k + 1]? = some b → a < b := by
  intro k
  induction k with
  | zero =>
    intro i a b ha hb
    have h1 := (ris_at h (List.getElem?_eq_some_iff.1 hb).1).2.resolve_left (by omega)
    rw [show (((i + 0 + 1 : Nat) : Int) - 1) = (i : Int) by omega, get_rd ha, get_rd hb] at h1
    exact h1
  | succ k ih =>
    intro i a b ha hb
    have hlt : i + (k + 1) + 1 < l.length := (List.getElem?_eq_some_iff.1 hb).1
    have hm : l[i + k + 1]? = some l[i + k + 1] := List.getElem?_eq_getElem (by omega)
    have h1 := ih i ha hm
    have h2 := (ris_at h hlt).2.resolve_left (by omega)
    rw [show (((i + (k + 1) + 1 : Nat) : Int) - 1) = ((i + k + 1 : Nat) : Int) by omega, get_rd hm, get_rd hb] at h2
    omega
theorem ris_nodup {l : List Int} (h : risB l = true) : l.Nodup := by
  refine List.pairwise_iff_getElem.2 fun i j hi hj hij => ?_
  have := ris_lt h (j - i - 1) i (List.getElem?_eq_getElem hi) (b := l[j]) (by rw [show i + (j - i - 1) + 1 = j by omega]; exact List.getElem?_eq_getElem hj)
  omega
theorem formB_all {s : Sn} (h : formB s = true) : s.vs.length ≤ 32 ∧ s.cs.length ≤ 32 ∧ risB s.cs = true ∧ ∀ j, j < s.vs.length → vOk s.vs j = true := by
  unfold formB at h
  simp only [Bool.and_eq_true, decide_eq_true_eq] at h
  exact ⟨h.1, h.2.1, h.2.2.1, allB_iff.1 h.2.2.2⟩
theorem sumL_take (vs : List Vtr) : ∀ i, i ≤ vs.length → sumL (st vs) (List.range i) = sumSt (vs.take i)
  | 0, _ => rfl
  | i + 1, h => by
    have hv : vs[i]? = some vs[i] := List.getElem?_eq_getElem (by omega)
    rw [List.range_succ, sumL_snoc, sumL_take vs i (by omega), take_snoc hv, sumSt_snoc]
    unfold st; rw [hv]; rfl
theorem vok_of {s : Sn} (hW : snW s) (h : formB s = true) : VOk s.vs := by
  obtain ⟨_, _, _, h4⟩ := formB_all h
  refine ⟨fun i => ?_, ?_⟩
  · unfold st
    cases e : s.vs[i]? with
    | none => exact Int.le_refl _
    | some v => exact (hW v (List.mem_of_getElem? e)).1
  · rw [sumL_take _ _ (Nat.le_refl _), List.take_length]
    cases hn : s.vs.length with
    | zero => rw [List.eq_nil_of_length_eq_zero hn]; decide
    | succ n =>
      have hv : s.vs[n]? = some s.vs[n] := List.getElem?_eq_getElem (by omega)
      have h5 := ((vOk_iff hv).1 (h4 n (by omega))).1
      rw [← sumSt_snoc, ← take_snoc hv, ← hn, List.take_length] at h5
      exact h5
theorem pk_of {s : Sn} (h : formB s = true) (i : Nat) : (pks s.vs i).Nodup ∧ (pks s.vs i).length ≤ 32 := by
  obtain ⟨_, _, _, h4⟩ := formB_all h
  unfold pks
  cases e : s.vs[i]? with
  | none => exact ⟨List.nodup_nil, Nat.zero_le _⟩
  | some v =>
    have h5 := (vOk_iff e).1 (h4 i (List.getElem?_eq_some_iff.1 e).1)
    exact ⟨ris_nodup h5.2.2.2.2.2, Nat.le_trans h5.2.2.2.2.1 (by omega)⟩
end Go.Proofs.Wk
/- Elections: Elect walked. -/
namespace Go.Proofs.Wk
open Go.RowKit
set_option maxRecDepth 100000
set_option maxHeartbeats 8000000
attribute [local irreducible] Pw OpG
set_option linter.unusedVariables false
set_option linter.unusedSimpArgs false
structure Ea where
  os : List On
  zo : Option Addr × Nat
  sh : List Shr
  zs : Option Addr × Nat
theorem gv_form {ss : Gr} {os : List On} (h : gOk ss (cellsO os) os.length 3) (hl : os.length ≤ 1000) : ∃ z : Option Addr × Nat, gv ss os.length = .slice z.1 os.length z.2 ∧ ∀ w : World, (∀ b ∈ gL ss (cellsO os) 38, w.heap[b.g]? = some b.o) → AllO os w → OS os z w := by
  obtain _ | ⟨g, cap, ex⟩ := ss
  · have h0 : os = [] := List.eq_nil_of_length_eq_zero h.1
    subst h0
    exact ⟨(none, 0), rfl, fun w _ _ => Rows.nil _ _ _ _ _⟩
  · exact ⟨(some ⟨g, 0, none⟩, cap), rfl, fun w hw ha => rows_of_row (ex := ex) (hw ⟨g, row (cellsO os ++ ex) 38⟩ (List.mem_singleton.2 rfl)) (fun y _ => rfl) ha h.2.1 (by simp only [maxLen]; omega) (by omega)⟩
theorem ElectN_ct (s : Sn) (k : Int) (hW : snW s) (hF : formB s = true) (hn : s.vs ≠ []) (h0 : 0 ≤ k) (h8 : k ≤ 8) :
    Ct Try.prog 10 #[snV s, .int .i64 k] (snF s) (fun y : Ea => .tuple #[.slice y.zo.1 y.os.length y.zo.2, ssV y.sh y.zs, .int .i64 0])
      (fun y => y.os.map (fun o => (o.at_, o.a, o.b)) = (electE s.vs s.cs k.toNat).se.map seatQ ∧ y.sh.map shK = shTo s.vs s.cs (electE s.vs s.cs k.toNat) s.vs.length) (fun y W => OS y.os y.zo W ∧ SS y.sh y.zs W) := by
  obtain ⟨l1, l2, l3, l4⟩ := formB_all hF
  have hV := vok_of hW hF
  obtain ⟨vs, zv, cs, zc⟩ := s
  dsimp only at hn l1 l2 l3 hV
  refine Ct.start Try.func10 rfl rfl (slots_of rfl slots2) (fun D w0 => Pw.facts sn2 ?_)
  repeat (first | (with_reducible first | refine Pw.seq ?_ | refine Pw.region ?_ | refine Pw.nil ?_ | refine Pw.then_ ?_ | refine Pw.skip ?_ | refine Pw.block ?_ | refine Pw.exit ?_ | refine Pw.inX ?_ | refine Pw.inN ?_ | refine Pw.inR ?_ | refine Pw.thenX ?_ | refine Pw.thenR ?_ | refine Pw.ret ?_) | refine Pw.list (Pw.pure rfl rfl rfl ?_) | refine Pw.inY rfl ?_ | refine Pw.list (Pw.off rfl rfl ?_) | refine Pw.condT rfl ?_ | refine Pw.condF rfl ?_)
  refine Pw.list (Pw.box rfl rfl rfl rfl (fun g2 => freeHead ?_))
  repeat (first | (with_reducible first | refine Pw.seq ?_ | refine Pw.region ?_ | refine Pw.nil ?_ | refine Pw.then_ ?_ | refine Pw.skip ?_ | refine Pw.block ?_ | refine Pw.exit ?_ | refine Pw.inX ?_ | refine Pw.inN ?_ | refine Pw.inR ?_ | refine Pw.thenX ?_ | refine Pw.thenR ?_ | refine Pw.ret ?_) | refine Pw.list (Pw.pure rfl rfl rfl ?_) | refine Pw.inY rfl ?_ | refine Pw.list (Pw.off rfl rfl ?_) | refine Pw.condT rfl ?_ | refine Pw.condF rfl ?_ | refine Pw.list (Pw.box rfl rfl rfl rfl (fun _ => ?_)) | refine Pw.list (Pw.alloc rfl rfl rfl rfl rfl (fun _ => ?_)) | refine Pw.list (Pw.build rfl rfl rfl rfl ?_) | refine Pw.list (Pw.ld rfl inferInstance rfl rfl rfl ?_) | refine Pw.list (Pw.sto rfl rfl inferInstance rfl rfl rfl rfl rfl inferInstance rfl ?_))
  refine Pw.list (Pw.call (gFormed_ct ⟨vs, zv, cs, zc⟩ hW) rfl rfl rfl (by kernel_rfl) rfl rfl (fun w h => ⟨(hv w h), (hv w h)⟩) ?_)
  intro _ _
  rw [hF]
  repeat (first | (with_reducible first | refine Pw.seq ?_ | refine Pw.region ?_ | refine Pw.nil ?_ | refine Pw.then_ ?_ | refine Pw.skip ?_ | refine Pw.block ?_ | refine Pw.exit ?_ | refine Pw.inX ?_ | refine Pw.inN ?_ | refine Pw.inR ?_ | refine Pw.thenX ?_ | refine Pw.thenR ?_ | refine Pw.ret ?_) | refine Pw.list (Pw.pure rfl rfl rfl ?_) | refine Pw.inY rfl ?_ | refine Pw.list (Pw.off rfl rfl ?_) | refine Pw.condT rfl ?_ | refine Pw.condF rfl ?_ | refine Pw.list (Pw.box rfl rfl rfl rfl (fun _ => ?_)) | refine Pw.list (Pw.alloc rfl rfl rfl rfl rfl (fun _ => ?_)) | refine Pw.list (Pw.build rfl rfl rfl rfl ?_) | refine Pw.list (Pw.ld rfl inferInstance rfl rfl rfl ?_) | refine Pw.list (Pw.sto rfl rfl inferInstance rfl rfl rfl rfl rfl inferInstance rfl ?_))
  refine Pw.re (d := 15) (v' := .bool false) rfl (congrArg Value.bool (decide_eq_false (by omega))) ?_
  repeat (first | (with_reducible first | refine Pw.seq ?_ | refine Pw.region ?_ | refine Pw.nil ?_ | refine Pw.then_ ?_ | refine Pw.skip ?_ | refine Pw.block ?_ | refine Pw.exit ?_ | refine Pw.inX ?_ | refine Pw.inN ?_ | refine Pw.inR ?_ | refine Pw.thenX ?_ | refine Pw.thenR ?_ | refine Pw.ret ?_) | refine Pw.list (Pw.pure rfl rfl rfl ?_) | refine Pw.inY rfl ?_ | refine Pw.list (Pw.off rfl rfl ?_) | refine Pw.condT rfl ?_ | refine Pw.condF rfl ?_ | refine Pw.list (Pw.box rfl rfl rfl rfl (fun _ => ?_)) | refine Pw.list (Pw.alloc rfl rfl rfl rfl rfl (fun _ => ?_)) | refine Pw.list (Pw.build rfl rfl rfl rfl ?_) | refine Pw.list (Pw.ld rfl inferInstance rfl rfl rfl ?_) | refine Pw.list (Pw.sto rfl rfl inferInstance rfl rfl rfl rfl rfl inferInstance rfl ?_))
  refine Pw.re (d := 18) (v' := .bool false) rfl (congrArg Value.bool (decide_eq_false (by omega))) ?_
  repeat (first | (with_reducible first | refine Pw.seq ?_ | refine Pw.region ?_ | refine Pw.nil ?_ | refine Pw.then_ ?_ | refine Pw.skip ?_ | refine Pw.block ?_ | refine Pw.exit ?_ | refine Pw.inX ?_ | refine Pw.inN ?_ | refine Pw.inR ?_ | refine Pw.thenX ?_ | refine Pw.thenR ?_ | refine Pw.ret ?_) | refine Pw.list (Pw.pure rfl rfl rfl ?_) | refine Pw.inY rfl ?_ | refine Pw.list (Pw.off rfl rfl ?_) | refine Pw.condT rfl ?_ | refine Pw.condF rfl ?_ | refine Pw.list (Pw.box rfl rfl rfl rfl (fun _ => ?_)) | refine Pw.list (Pw.alloc rfl rfl rfl rfl rfl (fun _ => ?_)) | refine Pw.list (Pw.build rfl rfl rfl rfl ?_) | refine Pw.list (Pw.ld rfl inferInstance rfl rfl rfl ?_) | refine Pw.list (Pw.sto rfl rfl inferInstance rfl rfl rfl rfl rfl inferInstance rfl ?_))
  refine Pw.list (Pw.callB (L0 := []) (newRunner_ct vs zv cs zc hV hn l1 l2 (pk_of hF)) rfl rfl rfl rfl (by kernel_rfl) rfl rfl (fun w h => ⟨(hv w h), (hv w h)⟩) ?_)
  rintro ⟨gr, ga, gl, capl, ge, cape, ex, exe, m, za, x⟩ ⟨hx, hm⟩
  dsimp only at hx hm ⊢
  rw [List.append_nil]
  repeat (first | (with_reducible first | refine Pw.seq ?_ | refine Pw.region ?_ | refine Pw.nil ?_ | refine Pw.then_ ?_ | refine Pw.skip ?_ | refine Pw.block ?_ | refine Pw.exit ?_ | refine Pw.inX ?_ | refine Pw.inN ?_ | refine Pw.inR ?_ | refine Pw.thenX ?_ | refine Pw.thenR ?_ | refine Pw.ret ?_) | refine Pw.list (Pw.pure rfl rfl rfl ?_) | refine Pw.inY rfl ?_ | refine Pw.list (Pw.off rfl rfl ?_) | refine Pw.condT rfl ?_ | refine Pw.condF rfl ?_ | refine Pw.list (Pw.box rfl rfl rfl rfl (fun _ => ?_)) | refine Pw.list (Pw.alloc rfl rfl rfl rfl rfl (fun _ => ?_)) | refine Pw.list (Pw.build rfl rfl rfl rfl ?_) | refine Pw.list (Pw.ld rfl inferInstance rfl rfl rfl ?_) | refine Pw.list (Pw.sto rfl rfl inferInstance rfl rfl rfl rfl rfl inferInstance rfl ?_))
  refine Pw.loopJ (σ := Nat × Est × Rp) (fun t => t.1 ≤ k.toNat ∧ EOk vs (1 + 3 * t.1) t.2.1 ∧ RpOk t.2.1 t.2.2 ∧ t.2.1.se.length = t.1 ∧ runE vs cs (k.toNat - t.1) t.2.1 = electE vs cs k.toNat ∧ t.2.2.es.map Prod.fst = x.es.map Prod.fst)
    (fun t => ⟨[(1, .int .i64 k), (7, .pointer (some ⟨gr, 0, none⟩))], rL vs.length zv cs zc gr ga gl capl ge cape ex m t.2.1.D t.2.2, [rF t.2.1.D t.2.2, gF vs zv cs zc za ge (x.es.map Prod.fst) exe]⟩) (fun t => k.toNat - t.1) (0, begE vs, x) ⟨Nat.zero_le _, beg_ok vs, hx, rfl, rfl, rfl⟩ (by
    intro X h
    dsimp only at h
    refine Pw.enter ?_ ?_ X h
    · exact ⟨rfl, rfl, trivial⟩
    · exact fun w h => allCons (fact0 h).1 (allCons (fact0 h).2 allNil)) ?_
  rintro ⟨r, S, y⟩ ⟨hr, hS, hy, hse, hrun, heg⟩
  dsimp only at hr hS hy hse hrun heg ⊢
  have hol : y.os.length = r := by have := congrArg List.length hy.os; rw [List.length_map, List.length_map] at this; omega
  obtain ⟨⟨A, cA⟩, hgv, _⟩ := gv_form hy.ss (by omega)
  repeat (first | (with_reducible first | refine Pw.seq ?_ | refine Pw.region ?_ | refine Pw.nil ?_ | refine Pw.then_ ?_ | refine Pw.skip ?_ | refine Pw.block ?_ | refine Pw.exit ?_ | refine Pw.inX ?_ | refine Pw.inN ?_ | refine Pw.inR ?_ | refine Pw.thenX ?_ | refine Pw.thenR ?_ | refine Pw.ret ?_) | refine Pw.list (Pw.pure rfl rfl rfl ?_) | refine Pw.inY rfl ?_ | refine Pw.list (Pw.off rfl rfl ?_) | refine Pw.condT rfl ?_ | refine Pw.condF rfl ?_ | refine Pw.list (Pw.box rfl rfl rfl rfl (fun _ => ?_)) | refine Pw.list (Pw.alloc rfl rfl rfl rfl rfl (fun _ => ?_)) | refine Pw.list (Pw.build rfl rfl rfl rfl ?_) | refine Pw.list (Pw.ld rfl inferInstance rfl rfl rfl ?_) | refine Pw.list (Pw.sto rfl rfl inferInstance rfl rfl rfl rfl rfl inferInstance rfl ?_))
  refine Pw.re (d := 24) (v' := .slice A y.os.length cA) rfl hgv ?_
  repeat (first | (with_reducible first | refine Pw.seq ?_ | refine Pw.region ?_ | refine Pw.nil ?_ | refine Pw.then_ ?_ | refine Pw.skip ?_ | refine Pw.block ?_ | refine Pw.exit ?_ | refine Pw.inX ?_ | refine Pw.inN ?_ | refine Pw.inR ?_ | refine Pw.thenX ?_ | refine Pw.thenR ?_ | refine Pw.ret ?_) | refine Pw.list (Pw.pure rfl rfl rfl ?_) | refine Pw.inY rfl ?_ | refine Pw.list (Pw.off rfl rfl ?_) | refine Pw.condT rfl ?_ | refine Pw.condF rfl ?_ | refine Pw.list (Pw.box rfl rfl rfl rfl (fun _ => ?_)) | refine Pw.list (Pw.alloc rfl rfl rfl rfl rfl (fun _ => ?_)) | refine Pw.list (Pw.build rfl rfl rfl rfl ?_) | refine Pw.list (Pw.ld rfl inferInstance rfl rfl rfl ?_) | refine Pw.list (Pw.sto rfl rfl inferInstance rfl rfl rfl rfl rfl inferInstance rfl ?_))
  by_cases hk : (y.os.length : Int) < k
  · refine Pw.re (d := 28) (v' := .bool true) rfl (congrArg Value.bool (decide_eq_true hk)) ?_
    repeat (first | (with_reducible first | refine Pw.seq ?_ | refine Pw.region ?_ | refine Pw.nil ?_ | refine Pw.then_ ?_ | refine Pw.skip ?_ | refine Pw.block ?_ | refine Pw.exit ?_ | refine Pw.inX ?_ | refine Pw.inN ?_ | refine Pw.inR ?_ | refine Pw.thenX ?_ | refine Pw.thenR ?_ | refine Pw.ret ?_) | refine Pw.list (Pw.pure rfl rfl rfl ?_) | refine Pw.inY rfl ?_ | refine Pw.list (Pw.off rfl rfl ?_) | refine Pw.condT rfl ?_ | refine Pw.condF rfl ?_ | refine Pw.list (Pw.box rfl rfl rfl rfl (fun _ => ?_)) | refine Pw.list (Pw.alloc rfl rfl rfl rfl rfl (fun _ => ?_)) | refine Pw.list (Pw.build rfl rfl rfl rfl ?_) | refine Pw.list (Pw.ld rfl inferInstance rfl rfl rfl ?_) | refine Pw.list (Pw.sto rfl rfl inferInstance rfl rfl rfl rfl rfl inferInstance rfl ?_))
    refine Pw.list (Pw.callB (L0 := []) (round_ct vs zv cs zc gr ga gl capl ge cape ex exe m za (1 + 3 * r) S y hV hS (by omega) hy l1 l2 (ris_nn l3) hm (by omega)) (List.append_nil _).symm rfl rfl rfl (by kernel_rfl) rfl rfl (fun w h => ⟨fact0 h, by rw [heg]; exact fact1 h⟩) ?_)
    rintro y2 ⟨hy2, heg2⟩
    rw [List.append_nil]
    have hkr : k.toNat - r = (k.toNat - (r + 1)) + 1 := by omega
    cases hrn : rnd vs cs S with
    | none =>
      rw [hrn] at hy2
      refine Pw.re (d := 30) (v' := .bool false) rfl rfl ?_
      repeat (first | (with_reducible first | refine Pw.seq ?_ | refine Pw.region ?_ | refine Pw.nil ?_ | refine Pw.then_ ?_ | refine Pw.skip ?_ | refine Pw.block ?_ | refine Pw.exit ?_ | refine Pw.inX ?_ | refine Pw.inN ?_ | refine Pw.inR ?_ | refine Pw.thenX ?_ | refine Pw.thenR ?_ | refine Pw.ret ?_) | refine Pw.list (Pw.pure rfl rfl rfl ?_) | refine Pw.inY rfl ?_ | refine Pw.list (Pw.off rfl rfl ?_) | refine Pw.condT rfl ?_ | refine Pw.condF rfl ?_ | refine Pw.list (Pw.box rfl rfl rfl rfl (fun _ => ?_)) | refine Pw.list (Pw.alloc rfl rfl rfl rfl rfl (fun _ => ?_)) | refine Pw.list (Pw.build rfl rfl rfl rfl ?_) | refine Pw.list (Pw.ld rfl inferInstance rfl rfl rfl ?_) | refine Pw.list (Pw.sto rfl rfl inferInstance rfl rfl rfl rfl rfl inferInstance rfl ?_))
      have hE : S = electE vs cs k.toNat := by rw [← hrun, hkr]; unfold runE; rw [hrn]
      refine Pw.eqL (List.append_nil _).symm (Pw.freeL ?_)
      refine Pw.facts (G' := [fun W => W.heap[gr]? = some (row (rB vs.length zv cs zc ga S.D y2.zd gl capl (.slice (some ⟨ge, 0, none⟩) vs.length cape) (gv y2.ss y2.os.length)) 75), fun W => ∀ b ∈ rL vs.length zv cs zc gr ga gl capl ge cape ex m S.D y2, W.heap[b.g]? = some b.o, rF S.D y2, gF vs zv cs zc za ge (x.es.map Prod.fst) exe]) (fun w h => allCons (fact0 h _ (List.mem_cons_self ..)) (allCons (fact0 h) (allCons (fact1 h) (allCons (fact3 h) allNil)))) ?_
      refine Pw.drawnG mixed rfl rfl ?_
      refine Pw.takeP 0 (nb 9 1) rfl rfl rfl rfl (by kernel_rfl) np sf ?_
      refine Pw.takeP 1 (nb 9 3) rfl rfl rfl rfl (by kernel_rfl) np sf ?_
      refine Pw.takeP 2 (nb 9 7) rfl rfl rfl rfl (by kernel_rfl) np sf ?_
      refine Pw.takeF 3 (nb 9 15) rfl rfl inferInstance rfl rfl rfl (by kernel_rfl) np sf ?_
      refine Pw.takeP 4 (nb 9 31) rfl rfl rfl rfl (by kernel_rfl) np sf ?_
      refine Pw.one 5 (nb 9 63) rfl (by kernel_rfl) ?_
      -- call Op.call { callee := Callee.value (Operand.func 28), args := #[Operand.tmp 36], argTypes := #[69] }
      refine Pw.call (shares_ct vs zv cs zc gr ga gl capl ge cape ex exe (gv y2.ss y2.os.length) (1 + 3 * r) S y2.zd y2.ns y2.es hV hS (by omega) hy2.ns hy2.es l1 l2) rfl rfl rfl (by kernel_rfl) rfl rfl (fun w h => ⟨fact0 h, fact1 h _ (.tail _ (.head _)), fun e he => fact1 h _ (.tail _ (.tail _ (.tail _ (List.mem_append_right _ (List.mem_map_of_mem he))))), (fact2 h).1, (fact2 h).2.1, (fact2 h).2.2.2, (fact3 h).1, (fact3 h).2.1, by rw [heg2, heg]; exact (fact3 h).2.2.2⟩) ?_
      rintro ⟨sh, zs⟩ hsh
      refine Pw.held sf ?_
      refine Pw.takeP 6 (nb 9 127) rfl rfl rfl rfl (by kernel_rfl) np sf ?_
      refine Pw.takeP 7 (nb 9 255) rfl rfl rfl rfl (by kernel_rfl) np sf ?_
      refine Pw.takeP 8 (nb 9 511) rfl rfl rfl rfl (by kernel_rfl) np sf ?_
      refine Pw.done (by kernel_rfl) ?_
      repeat (first | (with_reducible first | refine Pw.seq ?_ | refine Pw.region ?_ | refine Pw.nil ?_ | refine Pw.then_ ?_ | refine Pw.skip ?_ | refine Pw.block ?_ | refine Pw.exit ?_ | refine Pw.inX ?_ | refine Pw.inN ?_ | refine Pw.inR ?_ | refine Pw.thenX ?_ | refine Pw.thenR ?_ | refine Pw.ret ?_) | refine Pw.list (Pw.pure rfl rfl rfl ?_) | refine Pw.inY rfl ?_ | refine Pw.list (Pw.off rfl rfl ?_) | refine Pw.condT rfl ?_ | refine Pw.condF rfl ?_ | refine Pw.list (Pw.box rfl rfl rfl rfl (fun _ => ?_)) | refine Pw.list (Pw.alloc rfl rfl rfl rfl rfl (fun _ => ?_)) | refine Pw.list (Pw.build rfl rfl rfl rfl ?_) | refine Pw.list (Pw.ld rfl inferInstance rfl rfl rfl ?_) | refine Pw.list (Pw.sto rfl rfl inferInstance rfl rfl rfl rfl rfl inferInstance rfl ?_))
      obtain ⟨z, hz1, hz2⟩ := gv_form hy2.ss (by have := congrArg List.length hy2.os; rw [List.length_map, List.length_map] at this; have h9 : (none.getD S : Est).se.length = r := hse; omega)
      exact Pw.ret_ (x := ⟨y2.os, z, sh, zs⟩) (.tmp rfl (.tmp rfl (.tmp rfl .nil))) (by rw [hz1]; rfl) ⟨by rw [← hE]; exact hy2.os, by rw [← hE]; exact hsh⟩ (fun w h => ⟨hz2 w (fun b hb => fact2 h b (.tail _ (.tail _ (.tail _ (List.mem_append_left _ hb))))) (fact3 h).2.2.1, fact0 h⟩)
    | some S2 =>
      rw [hrn] at hy2
      refine Pw.re (d := 30) (v' := .bool true) rfl rfl ?_
      repeat (first | (with_reducible first | refine Pw.seq ?_ | refine Pw.region ?_ | refine Pw.nil ?_ | refine Pw.then_ ?_ | refine Pw.skip ?_ | refine Pw.block ?_ | refine Pw.exit ?_ | refine Pw.inX ?_ | refine Pw.inN ?_ | refine Pw.inR ?_ | refine Pw.thenX ?_ | refine Pw.thenR ?_ | refine Pw.ret ?_) | refine Pw.list (Pw.pure rfl rfl rfl ?_) | refine Pw.inY rfl ?_ | refine Pw.list (Pw.off rfl rfl ?_) | refine Pw.condT rfl ?_ | refine Pw.condF rfl ?_ | refine Pw.list (Pw.box rfl rfl rfl rfl (fun _ => ?_)) | refine Pw.list (Pw.alloc rfl rfl rfl rfl rfl (fun _ => ?_)) | refine Pw.list (Pw.build rfl rfl rfl rfl ?_) | refine Pw.list (Pw.ld rfl inferInstance rfl rfl rfl ?_) | refine Pw.list (Pw.sto rfl rfl inferInstance rfl rfl rfl rfl rfl inferInstance rfl ?_))
      exact Pw.again (r + 1, S2, y2) ⟨by show r + 1 ≤ k.toNat; omega, (rnd_ok hV hS hrn : EOk vs (1 + 3 * r + 3) S2), hy2, by
        show S2.se.length = r + 1
        unfold rnd at hrn
        cases hb : best vs S cs with
        | none => rw [hb] at hrn; cases hrn
        | some b =>
          rw [hb] at hrn
          rw [← Option.some.inj hrn]
          show (S.se ++ [_]).length = r + 1
          simp [hse], by
        show runE vs cs (k.toNat - (r + 1)) S2 = _
        rw [← hrun, hkr]
        show _ = (match rnd vs cs S with | none => S | some S' => runE vs cs _ S')
        rw [hrn], heg2.trans heg⟩ (by show k.toNat - (r + 1) < k.toNat - r; omega) ⟨rfl, rfl, trivial⟩ rfl (fun w h => allCons (fact0 h) (allCons (fact2 h) allNil))
  · refine Pw.re (d := 28) (v' := .bool false) rfl (congrArg Value.bool (decide_eq_false hk)) ?_
    repeat (first | (with_reducible first | refine Pw.seq ?_ | refine Pw.region ?_ | refine Pw.nil ?_ | refine Pw.then_ ?_ | refine Pw.skip ?_ | refine Pw.block ?_ | refine Pw.exit ?_ | refine Pw.inX ?_ | refine Pw.inN ?_ | refine Pw.inR ?_ | refine Pw.thenX ?_ | refine Pw.thenR ?_ | refine Pw.ret ?_) | refine Pw.list (Pw.pure rfl rfl rfl ?_) | refine Pw.inY rfl ?_ | refine Pw.list (Pw.off rfl rfl ?_) | refine Pw.condT rfl ?_ | refine Pw.condF rfl ?_ | refine Pw.list (Pw.box rfl rfl rfl rfl (fun _ => ?_)) | refine Pw.list (Pw.alloc rfl rfl rfl rfl rfl (fun _ => ?_)) | refine Pw.list (Pw.build rfl rfl rfl rfl ?_) | refine Pw.list (Pw.ld rfl inferInstance rfl rfl rfl ?_) | refine Pw.list (Pw.sto rfl rfl inferInstance rfl rfl rfl rfl rfl inferInstance rfl ?_))
    have hE : S = electE vs cs k.toNat := by rw [← hrun, show k.toNat - r = 0 by omega]; rfl
    refine Pw.eqL (List.append_nil _).symm (Pw.freeL ?_)
    refine Pw.facts (G' := [fun W => W.heap[gr]? = some (row (rB vs.length zv cs zc ga S.D y.zd gl capl (.slice (some ⟨ge, 0, none⟩) vs.length cape) (gv y.ss y.os.length)) 75), fun W => ∀ b ∈ rL vs.length zv cs zc gr ga gl capl ge cape ex m S.D y, W.heap[b.g]? = some b.o, rF S.D y, gF vs zv cs zc za ge (x.es.map Prod.fst) exe]) (fun w h => allCons (fact0 h _ (List.mem_cons_self ..)) (allCons (fact0 h) (allCons (fact1 h) (allCons (fact2 h) allNil)))) ?_
    refine Pw.drawnG mixed rfl rfl ?_
    refine Pw.takeP 0 (nb 9 1) rfl rfl rfl rfl (by kernel_rfl) np sf ?_
    refine Pw.takeP 1 (nb 9 3) rfl rfl rfl rfl (by kernel_rfl) np sf ?_
    refine Pw.takeP 2 (nb 9 7) rfl rfl rfl rfl (by kernel_rfl) np sf ?_
    refine Pw.takeF 3 (nb 9 15) rfl rfl inferInstance rfl rfl rfl (by kernel_rfl) np sf ?_
    refine Pw.takeP 4 (nb 9 31) rfl rfl rfl rfl (by kernel_rfl) np sf ?_
    refine Pw.one 5 (nb 9 63) rfl (by kernel_rfl) ?_
    -- call Op.call { callee := Callee.value (Operand.func 28), args := #[Operand.tmp 36], argTypes := #[69] }
    refine Pw.call (shares_ct vs zv cs zc gr ga gl capl ge cape ex exe (gv y.ss y.os.length) (1 + 3 * r) S y.zd y.ns y.es hV hS (by omega) hy.ns hy.es l1 l2) rfl rfl rfl (by kernel_rfl) rfl rfl (fun w h => ⟨fact0 h, fact1 h _ (.tail _ (.head _)), fun e he => fact1 h _ (.tail _ (.tail _ (.tail _ (List.mem_append_right _ (List.mem_map_of_mem he))))), (fact2 h).1, (fact2 h).2.1, (fact2 h).2.2.2, (fact3 h).1, (fact3 h).2.1, by rw [heg]; exact (fact3 h).2.2.2⟩) ?_
    rintro ⟨sh, zs⟩ hsh
    refine Pw.held sf ?_
    refine Pw.takeP 6 (nb 9 127) rfl rfl rfl rfl (by kernel_rfl) np sf ?_
    refine Pw.takeP 7 (nb 9 255) rfl rfl rfl rfl (by kernel_rfl) np sf ?_
    refine Pw.takeP 8 (nb 9 511) rfl rfl rfl rfl (by kernel_rfl) np sf ?_
    refine Pw.done (by kernel_rfl) ?_
    repeat (first | (with_reducible first | refine Pw.seq ?_ | refine Pw.region ?_ | refine Pw.nil ?_ | refine Pw.then_ ?_ | refine Pw.skip ?_ | refine Pw.block ?_ | refine Pw.exit ?_ | refine Pw.inX ?_ | refine Pw.inN ?_ | refine Pw.inR ?_ | refine Pw.thenX ?_ | refine Pw.thenR ?_ | refine Pw.ret ?_) | refine Pw.list (Pw.pure rfl rfl rfl ?_) | refine Pw.inY rfl ?_ | refine Pw.list (Pw.off rfl rfl ?_) | refine Pw.condT rfl ?_ | refine Pw.condF rfl ?_ | refine Pw.list (Pw.box rfl rfl rfl rfl (fun _ => ?_)) | refine Pw.list (Pw.alloc rfl rfl rfl rfl rfl (fun _ => ?_)) | refine Pw.list (Pw.build rfl rfl rfl rfl ?_) | refine Pw.list (Pw.ld rfl inferInstance rfl rfl rfl ?_) | refine Pw.list (Pw.sto rfl rfl inferInstance rfl rfl rfl rfl rfl inferInstance rfl ?_))
    obtain ⟨z, hz1, hz2⟩ := gv_form hy.ss (by have := congrArg List.length hy.os; rw [List.length_map, List.length_map] at this; omega)
    exact Pw.ret_ (x := ⟨y.os, z, sh, zs⟩) (.tmp rfl (.tmp rfl (.tmp rfl .nil))) (by rw [hz1]; rfl) ⟨by rw [← hE]; exact hy.os, by rw [← hE]; exact hsh⟩ (fun w h => ⟨hz2 w (fun b hb => fact2 h b (.tail _ (.tail _ (.tail _ (List.mem_append_left _ hb))))) (fact3 h).2.2.1, fact0 h⟩)
end Go.Proofs.Wk
