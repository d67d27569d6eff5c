/- Walks and their mathematics, merged. No conditions beyond those written. -/
import Derived.Test.YtfffibpckjjnfaaWmWholeNear3
/- Weights made whole: whole.Round walked. -/
namespace Go.Proofs.Wk
open Go.RowKit
set_option maxRecDepth 100000
set_option maxHeartbeats 4000000
attribute [local irreducible] Pw OpG
set_option linter.unusedVariables false
set_option linter.unusedSimpArgs false
abbrev Nt := List Int × (Option Addr × Nat)
def encN (p : Nt) : List Value := [sl p.1 p.2]
def heldN (p : Nt) (W : World) : Prop := S1 p.1 p.2 W
abbrev NS (l : List Nt) (x : Option Addr × Nat) : World → Prop := Rows (RR encN heldN) 1 l x.1 x.2
def cellsN (l : List Nt) : List Value := l.flatMap encN
def cellsO (l : List On) : List Value := l.flatMap encO
abbrev AllN (l : List Nt) (W : World) : Prop := ∀ p ∈ l, heldN p W
theorem cellsN_snoc (l : List Nt) (p : Nt) : cellsN (l ++ [p]) = cellsN l ++ encN p := by unfold cellsN; simp
theorem cellsO_snoc (l : List On) (p : On) : cellsO (l ++ [p]) = cellsO l ++ encO p := by unfold cellsO; simp
theorem cellsN_map (l : List Nt) : cellsN l = l.map (fun p => sl p.1 p.2) := by
  induction l with
  | nil => rfl
  | cons a r ih => unfold cellsN at *; rw [List.flatMap_cons, ih]; rfl
theorem cellsN_len (l : List Nt) : (cellsN l).length = l.length := by rw [cellsN_map, List.length_map]
theorem encO_one (o : On) : ∀ u ∈ encO o, u.oneCell' = true := by
  intro u hu
  unfold encO at hu
  simp only [List.mem_cons, List.not_mem_nil, or_false] at hu
  rcases hu with rfl | rfl | rfl <;> rfl
/-- What weights come to: an error, or naturals. -/
def rndS (l : List Rt) (o : List Nat) : List (List Int) × Int := if l.any (fun s => !formedR s.a s.b) = true then ([], 1) else (wholeQ (l.map rq) o, 0)
abbrev gRd (b9 b7 : Blk) (q1 : Gr) (c1 : List Value) (q2 : Gr) (c2 : List Value) : List Blk := b9 :: b7 :: (gL q1 c1 37 ++ gL q2 c2 90)
theorem permRd1 {a b : Blk} {x y : List Blk} : (a :: b :: (x ++ y)).Perm (x ++ (y ++ [a, b])) := by
  refine (List.perm_append_comm (l₁ := [a, b]) (l₂ := x ++ y)).trans ?_
  rw [List.append_assoc]
theorem permRd2 {a b : Blk} {x y : List Blk} : (x ++ (y ++ [a, b])).Perm (y ++ (x ++ [a, b])) := by
  rw [← List.append_assoc, ← List.append_assoc]
  exact List.Perm.append_right _ List.perm_append_comm
theorem permRd3 {a b : Blk} {x y : List Blk} : (y ++ (x ++ [a, b])).Perm (a :: b :: (x ++ y)) := permRd2.trans permRd1.symm
structure RdJ (l : List Rt) (i : Nat) (ns : List Nt) (os : List On) (q1 q2 : Gr) : Prop where
  le : i ≤ l.length
  hn : ns.map Prod.fst = flL ((l.take i).map rq)
  ho : OsOk ((l.take i).map rq) os
  h1 : gOk q1 (cellsN ns) i 1
  h2 : gOk q2 (cellsO os) i 3
theorem OsOk_snoc {ws : List Rat} {os : List On} (h : OsOk ws os) (x : Rat) (z : Z2) : OsOk (ws ++ [x]) (os ++ [⟨(ws.length : Int), qn (fr x), qd (fr x), z⟩]) := by
  refine ⟨by rw [List.length_append, List.length_append, h.1]; rfl, fun i o ho => ?_⟩
  rcases Nat.lt_or_ge i os.length with hi | hi
  · rw [List.getElem?_append_left hi] at ho
    obtain ⟨h1, h2, h3⟩ := h.2 i o ho
    have e : qAt (ws ++ [x]) i = qAt ws i := by
      unfold qAt; rw [List.getD_eq_getElem?_getD, List.getD_eq_getElem?_getD, List.getElem?_append_left (by rw [← h.1]; exact hi)]
    rw [e]; exact ⟨h1, h2, h3⟩
  · rw [List.getElem?_append_right hi] at ho
    obtain ⟨t, ht⟩ : ∃ t, t = i - os.length := ⟨_, rfl⟩
    rw [← ht] at ho
    rcases t with _ | t
    · have e0 : i = ws.length := by rw [← h.1]; omega
      subst e0
      simp at ho; subst ho
      have e : qAt (ws ++ [x]) ws.length = x := by unfold qAt; rw [List.getD_eq_getElem?_getD, List.getElem?_append_right (Nat.le_refl _), Nat.sub_self]; rfl
      rw [e]; exact ⟨rfl, rfl, rfl⟩
    · simp at ho
theorem map_take_snoc {α β : Type} {l : List α} {f : α → β} {i : Nat} {x : α} (h : l[i]? = some x) : (l.take (i + 1)).map f = (l.take i).map f ++ [f x] := by rw [take_snoc h, List.map_append]; rfl
theorem sz_take {l : List Rt} {K : Nat} (hz : ∀ x ∈ l.map rq, Sz K x) (i : Nat) : ∀ x ∈ (l.take i).map rq, Sz K x := fun x hx => by
  obtain ⟨s, hs, rfl⟩ := List.mem_map.1 hx
  exact hz _ (List.mem_map_of_mem (List.mem_of_mem_take hs))
theorem sz_frs {ws : List Rat} {K : Nat} (h : ∀ x ∈ ws, Sz K x) : ∀ x ∈ frs ws, Sz K x := fun x hx => by
  unfold frs at hx; obtain ⟨y, hy, rfl⟩ := List.mem_map.1 hx; exact sz_fr (h y hy)
def LO (l : List Rt) (i : Nat) : Rat := sumQ (frs ((l.take i).map rq))
def SO (l : List Rt) (i : Nat) : Rat := sumQ ((l.take i).map rq)
theorem LO_snoc {l : List Rt} {i : Nat} {s : Rt} (h : l[i]? = some s) : LO l (i + 1) = LO l i + fr (rq s) := by
  unfold LO frs; rw [map_take_snoc h, List.map_append, List.map_singleton, sumQ_snoc]
theorem SO_snoc {l : List Rt} {i : Nat} {s : Rt} (h : l[i]? = some s) : SO l (i + 1) = SO l i + rq s := by
  unfold SO; rw [map_take_snoc h, sumQ_snoc]
theorem SO_sz {l : List Rt} {K : Nat} (hz : ∀ x ∈ l.map rq, Sz K x) (i : Nat) (hi : i ≤ l.length) : Sz (i * (K + 1) + 1) (SO l i) := by
  have := sumQ_sz _ (sz_take hz i)
  rw [List.length_map, List.length_take, Nat.min_eq_left hi] at this; exact this
theorem LO_sz {l : List Rt} {K : Nat} (hz : ∀ x ∈ l.map rq, Sz K x) (i : Nat) (hi : i ≤ l.length) : Sz (i * (K + 1) + 1) (LO l i) := by
  have := sumQ_sz _ (sz_frs (sz_take hz i))
  unfold frs at this
  rw [List.length_map, List.length_map, List.length_take, Nat.min_eq_left hi] at this; exact this
theorem at_bumps {ws : List Rat} {o : List Nat} (ho : Ord ws o) {k a : Nat} (h : o[k]? = some a) : (bumps (flL ws) (o.take k))[a]? = some (natL (qAt ws a).floor) := by
  have hlt := ho.lt (List.mem_of_getElem? h)
  have hn := ho.nodup
  have hk := (List.getElem?_eq_some_iff.1 h).1
  have hna : a ∉ o.take k := fun e => by
    have e1 : o.take (k + 1) = o.take k ++ [a] := take_snoc h
    have h2 : (o.take (k + 1)).Nodup := hn.sublist (List.take_sublist _ _)
    rw [e1] at h2
    exact (List.nodup_append.1 h2).2.2 a e a (List.mem_singleton_self _) rfl
  rw [bumps_get _ _ (hn.sublist (List.take_sublist _ _)), if_neg hna]
  unfold flL
  rw [List.getElem?_map, List.getElem?_eq_getElem hlt]
  rw [qAt_get (List.getElem?_eq_getElem hlt)]; rfl
theorem bumps_step {ws : List Rat} {o : List Nat} (ho : Ord ws o) {k a : Nat} (h : o[k]? = some a) (hp : 0 ≤ (qAt ws a).floor) : bumps (flL ws) (o.take (k + 1)) = (bumps (flL ws) (o.take k)).set a (natL ((qAt ws a).floor + 1)) := by
  rw [take_snoc h, bumps_snoc]
  unfold bump
  rw [List.getD_eq_getElem?_getD, at_bumps ho h]
  show _ = _
  rw [show (some (natL (qAt ws a).floor)).getD [] = natL (qAt ws a).floor from rfl, val_natL hp]
theorem pRound_ct (K : Nat) (l : List Rt) (x : Option Addr × Nat) (o : List Nat) (hw : ∀ s ∈ l, RtW s) (hb : ∀ s ∈ l, s.a.length ≤ K ∧ s.b.length ≤ K) (hl : l.length ≤ 20) (hl0 : 0 < l.length) (hK : 1 ≤ K ∧ K ≤ 17) (ho : Ord (l.map rq) o) :
    Ct Try.prog 14 #[rsV l x] (RS l x) (fun r : List Nt × (Option Addr × Nat) => .tuple #[.slice r.2.1 (rndS l o).1.length r.2.2, .int .i64 (rndS l o).2]) (fun r => r.1.map Prod.fst = (rndS l o).1) (fun r => NS r.1 r.2) := by
  obtain ⟨A, c⟩ := x
  refine Ct.start Try.func14 rfl rfl (slots_of rfl slots1) (fun D w0 => ?_)
  repeat (first | (with_reducible first | refine Pw.seq ?_ | refine Pw.region ?_ | refine Pw.nil ?_ | refine Pw.then_ ?_ | refine Pw.skip ?_ | refine Pw.block ?_ | refine Pw.exit ?_ | refine Pw.inX ?_ | refine Pw.inN ?_ | refine Pw.inR ?_ | refine Pw.thenX ?_ | refine Pw.thenR ?_ | refine Pw.ret ?_) | refine Pw.list (Pw.pure rfl rfl rfl ?_) | refine Pw.inY rfl ?_ | refine Pw.list (Pw.off rfl rfl ?_) | refine Pw.condT rfl ?_ | refine Pw.condF rfl ?_ | refine Pw.list (Pw.box rfl rfl rfl rfl (fun _ => ?_)) | refine Pw.list (Pw.alloc rfl rfl rfl rfl rfl (fun _ => ?_)) | refine Pw.list (Pw.build rfl rfl rfl rfl ?_) | refine Pw.list (Pw.ld rfl inferInstance rfl rfl rfl ?_) | refine Pw.list (Pw.sto rfl rfl inferInstance rfl rfl rfl rfl rfl inferInstance rfl ?_))
  refine Pw.list (Pw.call (Of_ct 1) rfl rfl rfl (by kernel_rfl) rfl rfl (fun w h => trivial) ?_)
  intro zu _
  rw [ofN_1]
  repeat (first | (with_reducible first | refine Pw.seq ?_ | refine Pw.region ?_ | refine Pw.nil ?_ | refine Pw.then_ ?_ | refine Pw.skip ?_ | refine Pw.block ?_ | refine Pw.exit ?_ | refine Pw.inX ?_ | refine Pw.inN ?_ | refine Pw.inR ?_ | refine Pw.thenX ?_ | refine Pw.thenR ?_ | refine Pw.ret ?_) | refine Pw.list (Pw.pure rfl rfl rfl ?_) | refine Pw.inY rfl ?_ | refine Pw.list (Pw.off rfl rfl ?_) | refine Pw.condT rfl ?_ | refine Pw.condF rfl ?_ | refine Pw.list (Pw.box rfl rfl rfl rfl (fun _ => ?_)) | refine Pw.list (Pw.alloc rfl rfl rfl rfl rfl (fun _ => ?_)) | refine Pw.list (Pw.build rfl rfl rfl rfl ?_) | refine Pw.list (Pw.ld rfl inferInstance rfl rfl rfl ?_) | refine Pw.list (Pw.sto rfl rfl inferInstance rfl rfl rfl rfl rfl inferInstance rfl ?_))
  refine Pw.list (Pw.call (qOf_ct (n := 0) (by omega) (by omega)) rfl rfl rfl (by kernel_rfl) rfl rfl (fun w h => trivial) ?_)
  intro z7 _
  repeat (first | (with_reducible first | refine Pw.seq ?_ | refine Pw.region ?_ | refine Pw.nil ?_ | refine Pw.then_ ?_ | refine Pw.skip ?_ | refine Pw.block ?_ | refine Pw.exit ?_ | refine Pw.inX ?_ | refine Pw.inN ?_ | refine Pw.inR ?_ | refine Pw.thenX ?_ | refine Pw.thenR ?_ | refine Pw.ret ?_) | refine Pw.list (Pw.pure rfl rfl rfl ?_) | refine Pw.inY rfl ?_ | refine Pw.list (Pw.off rfl rfl ?_) | refine Pw.condT rfl ?_ | refine Pw.condF rfl ?_ | refine Pw.list (Pw.box rfl rfl rfl rfl (fun _ => ?_)) | refine Pw.list (Pw.alloc rfl rfl rfl rfl rfl (fun _ => ?_)) | refine Pw.list (Pw.build rfl rfl rfl rfl ?_) | refine Pw.list (Pw.ld rfl inferInstance rfl rfl rfl ?_) | refine Pw.list (Pw.sto rfl rfl inferInstance rfl rfl rfl rfl rfl inferInstance rfl ?_))
  rename_i g7
  refine Pw.list (Pw.call (qOf_ct (n := 0) (by omega) (by omega)) rfl rfl rfl (by kernel_rfl) rfl rfl (fun w h => trivial) ?_)
  intro z9 _
  repeat (first | (with_reducible first | refine Pw.seq ?_ | refine Pw.region ?_ | refine Pw.nil ?_ | refine Pw.then_ ?_ | refine Pw.skip ?_ | refine Pw.block ?_ | refine Pw.exit ?_ | refine Pw.inX ?_ | refine Pw.inN ?_ | refine Pw.inR ?_ | refine Pw.thenX ?_ | refine Pw.thenR ?_ | refine Pw.ret ?_) | refine Pw.list (Pw.pure rfl rfl rfl ?_) | refine Pw.inY rfl ?_ | refine Pw.list (Pw.off rfl rfl ?_) | refine Pw.condT rfl ?_ | refine Pw.condF rfl ?_ | refine Pw.list (Pw.box rfl rfl rfl rfl (fun _ => ?_)) | refine Pw.list (Pw.alloc rfl rfl rfl rfl rfl (fun _ => ?_)) | refine Pw.list (Pw.build rfl rfl rfl rfl ?_) | refine Pw.list (Pw.ld rfl inferInstance rfl rfl rfl ?_) | refine Pw.list (Pw.sto rfl rfl inferInstance rfl rfl rfl rfl rfl inferInstance rfl ?_))
  rename_i g9
  refine Pw.list (Pw.call (ContainsR_ct l (A, c) 36 (fun s => !formedR s.a s.b) (fun s hs => rnd1_ct s (hw s hs) (by have := hb s hs; omega) (by have := hb s hs; omega)) (by kernel_rfl)) rfl rfl rfl (by kernel_rfl) rfl rfl (fun w h => (hv w h)) ?_)
  intro _ _
  cases hF : l.any (fun s => !formedR s.a s.b)
  case true =>
    have e : rndS l o = ([], 1) := if_pos hF
    rw [e]
    repeat (first | (with_reducible first | refine Pw.seq ?_ | refine Pw.region ?_ | refine Pw.nil ?_ | refine Pw.then_ ?_ | refine Pw.skip ?_ | refine Pw.block ?_ | refine Pw.exit ?_ | refine Pw.inX ?_ | refine Pw.inN ?_ | refine Pw.inR ?_ | refine Pw.thenX ?_ | refine Pw.thenR ?_ | refine Pw.ret ?_) | refine Pw.list (Pw.pure rfl rfl rfl ?_) | refine Pw.inY rfl ?_ | refine Pw.list (Pw.off rfl rfl ?_) | refine Pw.condT rfl ?_ | refine Pw.condF rfl ?_ | refine Pw.list (Pw.box rfl rfl rfl rfl (fun _ => ?_)) | refine Pw.list (Pw.alloc rfl rfl rfl rfl rfl (fun _ => ?_)) | refine Pw.list (Pw.build rfl rfl rfl rfl ?_) | refine Pw.list (Pw.ld rfl inferInstance rfl rfl rfl ?_) | refine Pw.list (Pw.sto rfl rfl inferInstance rfl rfl rfl rfl rfl inferInstance rfl ?_))
    exact Pw.ret_ (x := ([], (none, 0))) (.tmp rfl (.tmp rfl .nil)) rfl rfl (fun w h => Rows.nil _ _ _ _ _)
  have eS : rndS l o = (wholeQ (l.map rq) o, 0) := if_neg (by rw [hF]; simp)
  rw [eS]
  have hfm : ∀ s ∈ l, ∃ (y : Rat) (z : Z2), s = ⟨qn y, qd y, z⟩ ∧ Sz K y ∧ rq s = y := fun s hs => by
    have := List.any_eq_false.1 hF s hs
    exact formed_ex (hw s hs) (by simpa using this) (hb s hs).1 (hb s hs).2
  have hz : ∀ q ∈ l.map rq, Sz K q := fun q hq => by
    obtain ⟨s, hs, rfl⟩ := List.mem_map.1 hq
    obtain ⟨y, z, _, h2, h3⟩ := hfm s hs
    rw [h3]; exact h2
  repeat (first | (with_reducible first | refine Pw.seq ?_ | refine Pw.region ?_ | refine Pw.nil ?_ | refine Pw.then_ ?_ | refine Pw.skip ?_ | refine Pw.block ?_ | refine Pw.exit ?_ | refine Pw.inX ?_ | refine Pw.inN ?_ | refine Pw.inR ?_ | refine Pw.thenX ?_ | refine Pw.thenR ?_ | refine Pw.ret ?_) | refine Pw.list (Pw.pure rfl rfl rfl ?_) | refine Pw.inY rfl ?_ | refine Pw.list (Pw.off rfl rfl ?_) | refine Pw.condT rfl ?_ | refine Pw.condF rfl ?_ | refine Pw.list (Pw.box rfl rfl rfl rfl (fun _ => ?_)) | refine Pw.list (Pw.alloc rfl rfl rfl rfl rfl (fun _ => ?_)) | refine Pw.list (Pw.build rfl rfl rfl rfl ?_) | refine Pw.list (Pw.ld rfl inferInstance rfl rfl rfl ?_) | refine Pw.list (Pw.sto rfl rfl inferInstance rfl rfl rfl rfl rfl inferInstance rfl ?_))
  refine Pw.facts (G' := [S1 [1] zu, QW (SO l 0) z7, QW (LO l 0) z9, RS l (A, c), AllN [], AllO []]) (fun w h => allCons (hv w h) (allCons (hv w h : QW ((0 : Int) : Rat) z7 w) (allCons (hv w h : QW ((0 : Int) : Rat) z9 w) (allCons (hv w h) (allCons (fun r hr => by cases hr) (allCons (fun r hr => by cases hr) allNil)))))) ?_
  refine Pw.eqL (L' := gRd ⟨g9, row [sl (qn (LO l 0)) z9.1, sl (qd (LO l 0)) z9.2] 39⟩ ⟨g7, row [sl (qn (SO l 0)) z7.1, sl (qd (SO l 0)) z7.2] 39⟩ none [] none []) rfl ?_
  refine Pw.loopJ (σ := Nat × List Nt × List On × Gr × Gr × Z2 × Z2) (fun t => RdJ l t.1 t.2.1 t.2.2.1 t.2.2.2.1 t.2.2.2.2.1) (fun t => ⟨[(4, gv t.2.2.2.1 t.1), (5, gv t.2.2.2.2.1 t.1), (6, sl [1] zu), (7, .pointer (some ⟨g7, 0, none⟩)), (9, .pointer (some ⟨g9, 0, none⟩)), (36, .slice A l.length c), (37, .int .i64 l.length), (38, .int .i64 t.1)], gRd ⟨g9, row [sl (qn (LO l t.1)) t.2.2.2.2.2.2.1, sl (qd (LO l t.1)) t.2.2.2.2.2.2.2] 39⟩ ⟨g7, row [sl (qn (SO l t.1)) t.2.2.2.2.2.1.1, sl (qd (SO l t.1)) t.2.2.2.2.2.1.2] 39⟩ t.2.2.2.1 (cellsN t.2.1) t.2.2.2.2.1 (cellsO t.2.2.1), [S1 [1] zu, QW (SO l t.1) t.2.2.2.2.2.1, QW (LO l t.1) t.2.2.2.2.2.2, RS l (A, c), AllN t.2.1, AllO t.2.2.1]⟩) (fun t => l.length - t.1) (0, [], [], none, none, z7, z9) ⟨Nat.zero_le _, rfl, ⟨rfl, fun i o h => by simp at h⟩, ⟨rfl, rfl⟩, ⟨rfl, rfl⟩⟩ (Pw.enter ⟨rfl, rfl, rfl, rfl, rfl, rfl, rfl, rfl, trivial⟩ (fun w h => h)) ?_
  rintro ⟨i, ns, os, q1, q2, z7, z9⟩ ⟨hi, hns, hos, hq1, hq2⟩
  dsimp only at hi hns hos hq1 hq2 ⊢
  repeat (first | (with_reducible first | refine Pw.seq ?_ | refine Pw.region ?_ | refine Pw.nil ?_ | refine Pw.then_ ?_ | refine Pw.skip ?_ | refine Pw.block ?_ | refine Pw.exit ?_ | refine Pw.inX ?_ | refine Pw.inN ?_ | refine Pw.inR ?_ | refine Pw.thenX ?_ | refine Pw.thenR ?_ | refine Pw.ret ?_) | refine Pw.list (Pw.pure rfl rfl rfl ?_) | refine Pw.inY rfl ?_ | refine Pw.list (Pw.off rfl rfl ?_) | refine Pw.condT rfl ?_ | refine Pw.condF rfl ?_ | refine Pw.list (Pw.box rfl rfl rfl rfl (fun _ => ?_)) | refine Pw.list (Pw.alloc rfl rfl rfl rfl rfl (fun _ => ?_)) | refine Pw.list (Pw.build rfl rfl rfl rfl ?_) | refine Pw.list (Pw.ld rfl inferInstance rfl rfl rfl ?_) | refine Pw.list (Pw.sto rfl rfl inferInstance rfl rfl rfl rfl rfl inferInstance rfl ?_))
  refine Pw.condD rfl (fun c3 => ?_) (fun c3 => ?_)
  · obtain ⟨s, hsi, hsm⟩ := get_at (show i < l.length by omega)
    have hS := SO_sz hz i hi
    have hL := LO_sz hz i hi
    have eS1 := SO_snoc hsi
    have eL1 := LO_snoc hsi
    have em := map_take_snoc (f := rq) hsi
    obtain ⟨y, zs, rfl, hy, hq⟩ := hfm s hsm
    rw [hq] at eS1 eL1 em
    have hib : i * (K + 1) ≤ 19 * 18 := Nat.mul_le_mul (by omega) (by omega)
    repeat (first | (with_reducible first | refine Pw.seq ?_ | refine Pw.region ?_ | refine Pw.nil ?_ | refine Pw.then_ ?_ | refine Pw.skip ?_ | refine Pw.block ?_ | refine Pw.exit ?_ | refine Pw.inX ?_ | refine Pw.inN ?_ | refine Pw.inR ?_ | refine Pw.thenX ?_ | refine Pw.thenR ?_ | refine Pw.ret ?_) | refine Pw.list (Pw.pure rfl rfl rfl ?_) | refine Pw.inY rfl ?_ | refine Pw.list (Pw.off rfl rfl ?_) | refine Pw.condT rfl ?_ | refine Pw.condF rfl ?_ | refine Pw.list (Pw.box rfl rfl rfl rfl (fun _ => ?_)) | refine Pw.list (Pw.alloc rfl rfl rfl rfl rfl (fun _ => ?_)) | refine Pw.list (Pw.build rfl rfl rfl rfl ?_) | refine Pw.list (Pw.ld rfl inferInstance rfl rfl rfl ?_) | refine Pw.list (Pw.sto rfl rfl inferInstance rfl rfl rfl rfl rfl inferInstance rfl ?_))
    refine Pw.list (Pw.index rfl rfl rfl rfl (Int.natCast_nonneg i) c3 (fun w h => (hv w h : RS l (A, c) w).has (Int.natCast_nonneg i) c3) rfl rfl ?_)
    rintro ad rfl
    refine Pw.list (Pw.loadR ⟨qn y, qd y, zs⟩ rfl inferInstance rfl (by rw [Int.toNat_natCast]; exact hsi) (by kernel_rfl) rfl rfl ?_)
    refine Pw.re (d := 42) (v' := qt y zs) rfl rfl ?_
    repeat (first | (with_reducible first | refine Pw.seq ?_ | refine Pw.region ?_ | refine Pw.nil ?_ | refine Pw.then_ ?_ | refine Pw.skip ?_ | refine Pw.block ?_ | refine Pw.exit ?_ | refine Pw.inX ?_ | refine Pw.inN ?_ | refine Pw.inR ?_ | refine Pw.thenX ?_ | refine Pw.thenR ?_ | refine Pw.ret ?_) | refine Pw.list (Pw.pure rfl rfl rfl ?_) | refine Pw.inY rfl ?_ | refine Pw.list (Pw.off rfl rfl ?_) | refine Pw.condT rfl ?_ | refine Pw.condF rfl ?_ | refine Pw.list (Pw.box rfl rfl rfl rfl (fun _ => ?_)) | refine Pw.list (Pw.alloc rfl rfl rfl rfl rfl (fun _ => ?_)) | refine Pw.list (Pw.build rfl rfl rfl rfl ?_) | refine Pw.list (Pw.ld rfl inferInstance rfl rfl rfl ?_) | refine Pw.list (Pw.sto rfl rfl inferInstance rfl rfl rfl rfl rfl inferInstance rfl ?_))
    refine freeHead ?_
    repeat (first | (with_reducible first | refine Pw.seq ?_ | refine Pw.region ?_ | refine Pw.nil ?_ | refine Pw.then_ ?_ | refine Pw.skip ?_ | refine Pw.block ?_ | refine Pw.exit ?_ | refine Pw.inX ?_ | refine Pw.inN ?_ | refine Pw.inR ?_ | refine Pw.thenX ?_ | refine Pw.thenR ?_ | refine Pw.ret ?_) | refine Pw.list (Pw.pure rfl rfl rfl ?_) | refine Pw.inY rfl ?_ | refine Pw.list (Pw.off rfl rfl ?_) | refine Pw.condT rfl ?_ | refine Pw.condF rfl ?_ | refine Pw.list (Pw.box rfl rfl rfl rfl (fun _ => ?_)) | refine Pw.list (Pw.alloc rfl rfl rfl rfl rfl (fun _ => ?_)) | refine Pw.list (Pw.build rfl rfl rfl rfl ?_) | refine Pw.list (Pw.ld rfl inferInstance rfl rfl rfl ?_) | refine Pw.list (Pw.sto rfl rfl inferInstance rfl rfl rfl rfl rfl inferInstance rfl ?_))
    refine Pw.list (Pw.call (qAdd_ct hS hy z7 zs (by omega)) rfl rfl rfl (by kernel_rfl) rfl rfl (fun w h => ⟨(hv w h), (hv w h : heldR ⟨qn y, qd y, zs⟩ w)⟩) ?_)
    intro z7' _
    rw [← eS1]
    repeat (first | (with_reducible first | refine Pw.seq ?_ | refine Pw.region ?_ | refine Pw.nil ?_ | refine Pw.then_ ?_ | refine Pw.skip ?_ | refine Pw.block ?_ | refine Pw.exit ?_ | refine Pw.inX ?_ | refine Pw.inN ?_ | refine Pw.inR ?_ | refine Pw.thenX ?_ | refine Pw.thenR ?_ | refine Pw.ret ?_) | refine Pw.list (Pw.pure rfl rfl rfl ?_) | refine Pw.inY rfl ?_ | refine Pw.list (Pw.off rfl rfl ?_) | refine Pw.condT rfl ?_ | refine Pw.condF rfl ?_ | refine Pw.list (Pw.box rfl rfl rfl rfl (fun _ => ?_)) | refine Pw.list (Pw.alloc rfl rfl rfl rfl rfl (fun _ => ?_)) | refine Pw.list (Pw.build rfl rfl rfl rfl ?_) | refine Pw.list (Pw.ld rfl inferInstance rfl rfl rfl ?_) | refine Pw.list (Pw.sto rfl rfl inferInstance rfl rfl rfl rfl rfl inferInstance rfl ?_))
    refine Pw.list (Pw.call (qFloor_ct hy zs (by omega)) rfl rfl rfl (by kernel_rfl) rfl rfl (fun w h => (hv w h : heldR ⟨qn y, qd y, zs⟩ w)) ?_)
    intro zf _
    repeat (first | (with_reducible first | refine Pw.seq ?_ | refine Pw.region ?_ | refine Pw.nil ?_ | refine Pw.then_ ?_ | refine Pw.skip ?_ | refine Pw.block ?_ | refine Pw.exit ?_ | refine Pw.inX ?_ | refine Pw.inN ?_ | refine Pw.inR ?_ | refine Pw.thenX ?_ | refine Pw.thenR ?_ | refine Pw.ret ?_) | refine Pw.list (Pw.pure rfl rfl rfl ?_) | refine Pw.inY rfl ?_ | refine Pw.list (Pw.off rfl rfl ?_) | refine Pw.condT rfl ?_ | refine Pw.condF rfl ?_ | refine Pw.list (Pw.box rfl rfl rfl rfl (fun _ => ?_)) | refine Pw.list (Pw.alloc rfl rfl rfl rfl rfl (fun _ => ?_)) | refine Pw.list (Pw.build rfl rfl rfl rfl ?_) | refine Pw.list (Pw.ld rfl inferInstance rfl rfl rfl ?_) | refine Pw.list (Pw.sto rfl rfl inferInstance rfl rfl rfl rfl rfl inferInstance rfl ?_))
    have hfl : Sz K ((y.floor : Int) : Rat) := sz_int (floor_nn hy.p) (sz_floor hy) (by omega)
    have hsub := qSub_ct hy hfl zs (zf, zu) (by omega) (Rat.floor_le y)
    rw [show qt ((y.floor : Int) : Rat) (zf, zu) = rt (natL y.floor) [1] (zf, zu) by unfold qt; rw [qn_int, qd_int], show QW ((y.floor : Int) : Rat) (zf, zu) = R2 (natL y.floor) [1] (zf, zu) by unfold QW; rw [qn_int, qd_int]] at hsub
    refine Pw.list (Pw.call hsub rfl rfl rfl (by kernel_rfl) rfl rfl (fun w h => ⟨(hv w h : heldR ⟨qn y, qd y, zs⟩ w), (hv w h), (hv w h)⟩) ?_)
    intro zr _
    rw [show y - (y.floor : Rat) = fr y from rfl]
    repeat (first | (with_reducible first | refine Pw.seq ?_ | refine Pw.region ?_ | refine Pw.nil ?_ | refine Pw.then_ ?_ | refine Pw.skip ?_ | refine Pw.block ?_ | refine Pw.exit ?_ | refine Pw.inX ?_ | refine Pw.inN ?_ | refine Pw.inR ?_ | refine Pw.thenX ?_ | refine Pw.thenR ?_ | refine Pw.ret ?_) | refine Pw.list (Pw.pure rfl rfl rfl ?_) | refine Pw.inY rfl ?_ | refine Pw.list (Pw.off rfl rfl ?_) | refine Pw.condT rfl ?_ | refine Pw.condF rfl ?_ | refine Pw.list (Pw.box rfl rfl rfl rfl (fun _ => ?_)) | refine Pw.list (Pw.alloc rfl rfl rfl rfl rfl (fun _ => ?_)) | refine Pw.list (Pw.build rfl rfl rfl rfl ?_) | refine Pw.list (Pw.ld rfl inferInstance rfl rfl rfl ?_) | refine Pw.list (Pw.sto rfl rfl inferInstance rfl rfl rfl rfl rfl inferInstance rfl ?_))
    refine freeHead ?_
    repeat (first | (with_reducible first | refine Pw.seq ?_ | refine Pw.region ?_ | refine Pw.nil ?_ | refine Pw.then_ ?_ | refine Pw.skip ?_ | refine Pw.block ?_ | refine Pw.exit ?_ | refine Pw.inX ?_ | refine Pw.inN ?_ | refine Pw.inR ?_ | refine Pw.thenX ?_ | refine Pw.thenR ?_ | refine Pw.ret ?_) | refine Pw.list (Pw.pure rfl rfl rfl ?_) | refine Pw.inY rfl ?_ | refine Pw.list (Pw.off rfl rfl ?_) | refine Pw.condT rfl ?_ | refine Pw.condF rfl ?_ | refine Pw.list (Pw.box rfl rfl rfl rfl (fun _ => ?_)) | refine Pw.list (Pw.alloc rfl rfl rfl rfl rfl (fun _ => ?_)) | refine Pw.list (Pw.build rfl rfl rfl rfl ?_) | refine Pw.list (Pw.ld rfl inferInstance rfl rfl rfl ?_) | refine Pw.list (Pw.sto rfl rfl inferInstance rfl rfl rfl rfl rfl inferInstance rfl ?_))
    refine Pw.list (Pw.call (qAdd_ct hL (sz_fr hy) z9 zr (by omega)) rfl rfl rfl (by kernel_rfl) rfl rfl (fun w h => ⟨(hv w h), (hv w h)⟩) ?_)
    intro z9' _
    rw [← eL1]
    repeat (first | (with_reducible first | refine Pw.seq ?_ | refine Pw.region ?_ | refine Pw.nil ?_ | refine Pw.then_ ?_ | refine Pw.skip ?_ | refine Pw.block ?_ | refine Pw.exit ?_ | refine Pw.inX ?_ | refine Pw.inN ?_ | refine Pw.inR ?_ | refine Pw.thenX ?_ | refine Pw.thenR ?_ | refine Pw.ret ?_) | refine Pw.list (Pw.pure rfl rfl rfl ?_) | refine Pw.inY rfl ?_ | refine Pw.list (Pw.off rfl rfl ?_) | refine Pw.condT rfl ?_ | refine Pw.condF rfl ?_ | refine Pw.list (Pw.box rfl rfl rfl rfl (fun _ => ?_)) | refine Pw.list (Pw.alloc rfl rfl rfl rfl rfl (fun _ => ?_)) | refine Pw.list (Pw.build rfl rfl rfl rfl ?_) | refine Pw.list (Pw.ld rfl inferInstance rfl rfl rfl ?_) | refine Pw.list (Pw.sto rfl rfl inferInstance rfl rfl rfl rfl rfl inferInstance rfl ?_))
    refine Pw.drawnG mixed rfl rfl ?_
    refine Pw.takeP 0 (nb 12 1) rfl rfl rfl rfl (by kernel_rfl) np sf ?_
    refine Pw.takeP 1 (nb 12 3) rfl rfl rfl rfl (by kernel_rfl) np sf ?_
    refine Pw.takeP 4 (nb 12 19) rfl rfl rfl rfl (by kernel_rfl) np sf ?_
    refine Pw.takeP 5 (nb 12 51) rfl rfl rfl rfl (by kernel_rfl) np sf ?_
    refine Pw.takeF 6 (nb 12 115) rfl rfl inferInstance rfl rfl rfl (by kernel_rfl) np sf ?_
    refine Pw.takeBuild 7 (nb 12 243) rfl rfl rfl rfl rfl (by kernel_rfl) np sf ?_
    refine Pw.two 2 8 (nb 12 247) (nb 12 499) rfl rfl (by kernel_rfl) ?_ ?_
    · skip
      refine Pw.lit1 rfl rfl rfl rfl rfl rfl rfl rfl rfl (fun g1 => freeHead ?_)
      refine Pw.held sf ?_
      refine Pw.two 3 8 (nb 12 255) (nb 12 503) rfl rfl (by kernel_rfl) ?_ ?_
      · skip
        refine Pw.perm permRd1 ?_
        refine Pw.push (s := q1) (m := i) (cells := cellsN ns) (news := encN (natL y.floor, zf)) rfl rfl rfl rfl rfl rfl rfl hq1 rfl (fun u hu => by rw [List.mem_singleton.1 hu]; rfl) (fun w hs j u hu => by
          have h1 : w.heap[g1]? = some (row (encN (natL y.floor, zf)) 37) := by first | exact fact0 hs.all | exact fact1 hs.all | exact fact2 hs.all
          rw [add_none, cell_of_blk h1]
          simpa using hu) (by omega) (by simp only [maxLen]; omega) (by show (i + 1) * 24 ≤ _; omega) rfl rfl (fun q1' hq1' => ?_)
        rw [← cellsN_snoc] at hq1' ⊢
        refine Pw.perm permRd1.symm ?_
        refine Pw.held sf ?_
        refine Pw.one 8 (nb 12 511) rfl (by kernel_rfl) ?_
        refine Pw.lit13 rfl rfl rfl rfl rfl rfl rfl rfl rfl (fun g2 => freeHead ?_)
        refine Pw.held sf ?_
        refine Pw.one 9 (nb 12 1023) rfl (by kernel_rfl) ?_
        refine Pw.perm (permRd1.trans permRd2) ?_
        refine Pw.push (s := q2) (m := i) (cells := cellsO os) (news := encO ⟨(i : Int), qn (fr y), qd (fr y), zr⟩) rfl rfl rfl rfl rfl rfl rfl hq2 rfl (encO_one _) (fun w hs j u hu => by
          have h1 : w.heap[g2]? = some (row (encO ⟨(i : Int), qn (fr y), qd (fr y), zr⟩) 90) := by first | exact fact0 hs.all | exact fact1 hs.all | exact fact2 hs.all
          rw [add_none, cell_of_blk h1]
          simpa using hu) (by omega) (by simp only [maxLen]; omega) (by show (i + 1) * 56 ≤ _; omega) rfl rfl (fun q2' hq2' => ?_)
        rw [← cellsO_snoc] at hq2' ⊢
        refine Pw.perm permRd3 ?_
        refine Pw.held sf ?_
        refine Pw.takeP 10 (nb 12 2047) rfl rfl rfl rfl (by kernel_rfl) np sf ?_
        refine Pw.takeP 11 (nb 12 4095) rfl rfl rfl rfl (by kernel_rfl) np sf ?_
        refine Pw.done (by kernel_rfl) ?_
        repeat (first | (with_reducible first | refine Pw.seq ?_ | refine Pw.region ?_ | refine Pw.nil ?_ | refine Pw.then_ ?_ | refine Pw.skip ?_ | refine Pw.block ?_ | refine Pw.exit ?_ | refine Pw.inX ?_ | refine Pw.inN ?_ | refine Pw.inR ?_ | refine Pw.thenX ?_ | refine Pw.thenR ?_ | refine Pw.ret ?_) | refine Pw.list (Pw.pure rfl rfl rfl ?_) | refine Pw.inY rfl ?_ | refine Pw.list (Pw.off rfl rfl ?_) | refine Pw.condT rfl ?_ | refine Pw.condF rfl ?_ | refine Pw.list (Pw.box rfl rfl rfl rfl (fun _ => ?_)) | refine Pw.list (Pw.alloc rfl rfl rfl rfl rfl (fun _ => ?_)) | refine Pw.list (Pw.build rfl rfl rfl rfl ?_) | refine Pw.list (Pw.ld rfl inferInstance rfl rfl rfl ?_) | refine Pw.list (Pw.sto rfl rfl inferInstance rfl rfl rfl rfl rfl inferInstance rfl ?_))
        refine Pw.re (d := 38) (v' := .int .i64 ((i + 1 : Nat) : Int)) rfl (congrArg (Value.int .i64) (i64s (n := 100000) (by omega) (by omega))) ?_
        exact Pw.again (i + 1, ns ++ [(natL y.floor, zf)], os ++ [⟨(i : Int), qn (fr y), qd (fr y), zr⟩], q1', q2', z7', z9') ⟨by omega, by rw [em, List.map_append, hns]; unfold flL; rw [List.map_append]; rfl, by
          rw [em]; have := OsOk_snoc hos y zr; rwa [List.length_map, List.length_take, Nat.min_eq_left hi] at this, hq1', hq2'⟩ (by show l.length - (i + 1) < l.length - i; omega) ⟨rfl, rfl, rfl, rfl, rfl, rfl, rfl, rfl, trivial⟩ rfl (fun w h => allCons (hv w h) (allCons (hv w h) (allCons (hv w h) (allCons (hv w h) (allCons (fun p hp => by
          rcases List.mem_append.1 hp with hp | hp
          · exact (hv w h : AllN ns w) p hp
          · rw [List.mem_singleton.1 hp]; exact (hv w h : S1 (natL y.floor) zf w)) (allCons (fun p hp => by
          rcases List.mem_append.1 hp with hp | hp
          · exact (hv w h : AllO os w) p hp
          · rw [List.mem_singleton.1 hp]; exact (hv w h : QW (fr y) zr w)) allNil))))))
      · skip
        refine Pw.lit13 rfl rfl rfl rfl rfl rfl rfl rfl rfl (fun g2 => freeHead ?_)
        refine Pw.held sf ?_
        refine Pw.one 3 (nb 12 511) rfl (by kernel_rfl) ?_
        refine Pw.perm permRd1 ?_
        refine Pw.push (s := q1) (m := i) (cells := cellsN ns) (news := encN (natL y.floor, zf)) rfl rfl rfl rfl rfl rfl rfl hq1 rfl (fun u hu => by rw [List.mem_singleton.1 hu]; rfl) (fun w hs j u hu => by
          have h1 : w.heap[g1]? = some (row (encN (natL y.floor, zf)) 37) := by first | exact fact0 hs.all | exact fact1 hs.all | exact fact2 hs.all
          rw [add_none, cell_of_blk h1]
          simpa using hu) (by omega) (by simp only [maxLen]; omega) (by show (i + 1) * 24 ≤ _; omega) rfl rfl (fun q1' hq1' => ?_)
        rw [← cellsN_snoc] at hq1' ⊢
        refine Pw.perm permRd1.symm ?_
        refine Pw.held sf ?_
        refine Pw.one 9 (nb 12 1023) rfl (by kernel_rfl) ?_
        refine Pw.perm (permRd1.trans permRd2) ?_
        refine Pw.push (s := q2) (m := i) (cells := cellsO os) (news := encO ⟨(i : Int), qn (fr y), qd (fr y), zr⟩) rfl rfl rfl rfl rfl rfl rfl hq2 rfl (encO_one _) (fun w hs j u hu => by
          have h1 : w.heap[g2]? = some (row (encO ⟨(i : Int), qn (fr y), qd (fr y), zr⟩) 90) := by first | exact fact0 hs.all | exact fact1 hs.all | exact fact2 hs.all
          rw [add_none, cell_of_blk h1]
          simpa using hu) (by omega) (by simp only [maxLen]; omega) (by show (i + 1) * 56 ≤ _; omega) rfl rfl (fun q2' hq2' => ?_)
        rw [← cellsO_snoc] at hq2' ⊢
        refine Pw.perm permRd3 ?_
        refine Pw.held sf ?_
        refine Pw.takeP 10 (nb 12 2047) rfl rfl rfl rfl (by kernel_rfl) np sf ?_
        refine Pw.takeP 11 (nb 12 4095) rfl rfl rfl rfl (by kernel_rfl) np sf ?_
        refine Pw.done (by kernel_rfl) ?_
        repeat (first | (with_reducible first | refine Pw.seq ?_ | refine Pw.region ?_ | refine Pw.nil ?_ | refine Pw.then_ ?_ | refine Pw.skip ?_ | refine Pw.block ?_ | refine Pw.exit ?_ | refine Pw.inX ?_ | refine Pw.inN ?_ | refine Pw.inR ?_ | refine Pw.thenX ?_ | refine Pw.thenR ?_ | refine Pw.ret ?_) | refine Pw.list (Pw.pure rfl rfl rfl ?_) | refine Pw.inY rfl ?_ | refine Pw.list (Pw.off rfl rfl ?_) | refine Pw.condT rfl ?_ | refine Pw.condF rfl ?_ | refine Pw.list (Pw.box rfl rfl rfl rfl (fun _ => ?_)) | refine Pw.list (Pw.alloc rfl rfl rfl rfl rfl (fun _ => ?_)) | refine Pw.list (Pw.build rfl rfl rfl rfl ?_) | refine Pw.list (Pw.ld rfl inferInstance rfl rfl rfl ?_) | refine Pw.list (Pw.sto rfl rfl inferInstance rfl rfl rfl rfl rfl inferInstance rfl ?_))
        refine Pw.re (d := 38) (v' := .int .i64 ((i + 1 : Nat) : Int)) rfl (congrArg (Value.int .i64) (i64s (n := 100000) (by omega) (by omega))) ?_
        exact Pw.again (i + 1, ns ++ [(natL y.floor, zf)], os ++ [⟨(i : Int), qn (fr y), qd (fr y), zr⟩], q1', q2', z7', z9') ⟨by omega, by rw [em, List.map_append, hns]; unfold flL; rw [List.map_append]; rfl, by
          rw [em]; have := OsOk_snoc hos y zr; rwa [List.length_map, List.length_take, Nat.min_eq_left hi] at this, hq1', hq2'⟩ (by show l.length - (i + 1) < l.length - i; omega) ⟨rfl, rfl, rfl, rfl, rfl, rfl, rfl, rfl, trivial⟩ rfl (fun w h => allCons (hv w h) (allCons (hv w h) (allCons (hv w h) (allCons (hv w h) (allCons (fun p hp => by
          rcases List.mem_append.1 hp with hp | hp
          · exact (hv w h : AllN ns w) p hp
          · rw [List.mem_singleton.1 hp]; exact (hv w h : S1 (natL y.floor) zf w)) (allCons (fun p hp => by
          rcases List.mem_append.1 hp with hp | hp
          · exact (hv w h : AllO os w) p hp
          · rw [List.mem_singleton.1 hp]; exact (hv w h : QW (fr y) zr w)) allNil))))))
    · skip
      refine Pw.lit13 rfl rfl rfl rfl rfl rfl rfl rfl rfl (fun g2 => freeHead ?_)
      refine Pw.held sf ?_
      refine Pw.one 2 (nb 12 503) rfl (by kernel_rfl) ?_
      refine Pw.lit1 rfl rfl rfl rfl rfl rfl rfl rfl rfl (fun g1 => freeHead ?_)
      refine Pw.held sf ?_
      refine Pw.one 3 (nb 12 511) rfl (by kernel_rfl) ?_
      refine Pw.perm permRd1 ?_
      refine Pw.push (s := q1) (m := i) (cells := cellsN ns) (news := encN (natL y.floor, zf)) rfl rfl rfl rfl rfl rfl rfl hq1 rfl (fun u hu => by rw [List.mem_singleton.1 hu]; rfl) (fun w hs j u hu => by
        have h1 : w.heap[g1]? = some (row (encN (natL y.floor, zf)) 37) := by first | exact fact0 hs.all | exact fact1 hs.all | exact fact2 hs.all
        rw [add_none, cell_of_blk h1]
        simpa using hu) (by omega) (by simp only [maxLen]; omega) (by show (i + 1) * 24 ≤ _; omega) rfl rfl (fun q1' hq1' => ?_)
      rw [← cellsN_snoc] at hq1' ⊢
      refine Pw.perm permRd1.symm ?_
      refine Pw.held sf ?_
      refine Pw.one 9 (nb 12 1023) rfl (by kernel_rfl) ?_
      refine Pw.perm (permRd1.trans permRd2) ?_
      refine Pw.push (s := q2) (m := i) (cells := cellsO os) (news := encO ⟨(i : Int), qn (fr y), qd (fr y), zr⟩) rfl rfl rfl rfl rfl rfl rfl hq2 rfl (encO_one _) (fun w hs j u hu => by
        have h1 : w.heap[g2]? = some (row (encO ⟨(i : Int), qn (fr y), qd (fr y), zr⟩) 90) := by first | exact fact0 hs.all | exact fact1 hs.all | exact fact2 hs.all
        rw [add_none, cell_of_blk h1]
        simpa using hu) (by omega) (by simp only [maxLen]; omega) (by show (i + 1) * 56 ≤ _; omega) rfl rfl (fun q2' hq2' => ?_)
      rw [← cellsO_snoc] at hq2' ⊢
      refine Pw.perm permRd3 ?_
      refine Pw.held sf ?_
      refine Pw.takeP 10 (nb 12 2047) rfl rfl rfl rfl (by kernel_rfl) np sf ?_
      refine Pw.takeP 11 (nb 12 4095) rfl rfl rfl rfl (by kernel_rfl) np sf ?_
      refine Pw.done (by kernel_rfl) ?_
      repeat (first | (with_reducible first | refine Pw.seq ?_ | refine Pw.region ?_ | refine Pw.nil ?_ | refine Pw.then_ ?_ | refine Pw.skip ?_ | refine Pw.block ?_ | refine Pw.exit ?_ | refine Pw.inX ?_ | refine Pw.inN ?_ | refine Pw.inR ?_ | refine Pw.thenX ?_ | refine Pw.thenR ?_ | refine Pw.ret ?_) | refine Pw.list (Pw.pure rfl rfl rfl ?_) | refine Pw.inY rfl ?_ | refine Pw.list (Pw.off rfl rfl ?_) | refine Pw.condT rfl ?_ | refine Pw.condF rfl ?_ | refine Pw.list (Pw.box rfl rfl rfl rfl (fun _ => ?_)) | refine Pw.list (Pw.alloc rfl rfl rfl rfl rfl (fun _ => ?_)) | refine Pw.list (Pw.build rfl rfl rfl rfl ?_) | refine Pw.list (Pw.ld rfl inferInstance rfl rfl rfl ?_) | refine Pw.list (Pw.sto rfl rfl inferInstance rfl rfl rfl rfl rfl inferInstance rfl ?_))
      refine Pw.re (d := 38) (v' := .int .i64 ((i + 1 : Nat) : Int)) rfl (congrArg (Value.int .i64) (i64s (n := 100000) (by omega) (by omega))) ?_
      exact Pw.again (i + 1, ns ++ [(natL y.floor, zf)], os ++ [⟨(i : Int), qn (fr y), qd (fr y), zr⟩], q1', q2', z7', z9') ⟨by omega, by rw [em, List.map_append, hns]; unfold flL; rw [List.map_append]; rfl, by
        rw [em]; have := OsOk_snoc hos y zr; rwa [List.length_map, List.length_take, Nat.min_eq_left hi] at this, hq1', hq2'⟩ (by show l.length - (i + 1) < l.length - i; omega) ⟨rfl, rfl, rfl, rfl, rfl, rfl, rfl, rfl, trivial⟩ rfl (fun w h => allCons (hv w h) (allCons (hv w h) (allCons (hv w h) (allCons (hv w h) (allCons (fun p hp => by
        rcases List.mem_append.1 hp with hp | hp
        · exact (hv w h : AllN ns w) p hp
        · rw [List.mem_singleton.1 hp]; exact (hv w h : S1 (natL y.floor) zf w)) (allCons (fun p hp => by
        rcases List.mem_append.1 hp with hp | hp
        · exact (hv w h : AllO os w) p hp
        · rw [List.mem_singleton.1 hp]; exact (hv w h : QW (fr y) zr w)) allNil))))))
  · obtain rfl : i = l.length := by omega
    rw [List.take_length] at hns hos
    have hol : os.length = l.length := by rw [hos.1, List.length_map]
    obtain _ | ⟨g2, cap2, ex2⟩ := q2
    · have := hq2.1; omega
    obtain _ | ⟨g1, cap1, ex1⟩ := q1
    · have := hq1.1; omega
    repeat (first | (with_reducible first | refine Pw.seq ?_ | refine Pw.region ?_ | refine Pw.nil ?_ | refine Pw.then_ ?_ | refine Pw.skip ?_ | refine Pw.block ?_ | refine Pw.exit ?_ | refine Pw.inX ?_ | refine Pw.inN ?_ | refine Pw.inR ?_ | refine Pw.thenX ?_ | refine Pw.thenR ?_ | refine Pw.ret ?_) | refine Pw.list (Pw.pure rfl rfl rfl ?_) | refine Pw.inY rfl ?_ | refine Pw.list (Pw.off rfl rfl ?_) | refine Pw.condT rfl ?_ | refine Pw.condF rfl ?_ | refine Pw.list (Pw.box rfl rfl rfl rfl (fun _ => ?_)) | refine Pw.list (Pw.alloc rfl rfl rfl rfl rfl (fun _ => ?_)) | refine Pw.list (Pw.build rfl rfl rfl rfl ?_) | refine Pw.list (Pw.ld rfl inferInstance rfl rfl rfl ?_) | refine Pw.list (Pw.sto rfl rfl inferInstance rfl rfl rfl rfl rfl inferInstance rfl ?_))
    refine Pw.re (d := 85) (v' := .slice (some ⟨g2, 0, none⟩) os.length cap2) rfl (by rw [hol]; rfl) ?_
    refine Pw.perm (permRd1.trans permRd2) ?_
    have honq := hos.onq hz
    refine Pw.list (Pw.call1 (SortStable_ct os ex2 g2 cap2 (fun p hp => by
      obtain ⟨k1, k2, k3⟩ := honq p hp
      have h1 := k3.ln; have h2 := k3.ld
      exact ⟨⟨by rw [k1]; exact qn_lm _, by rw [k2]; exact qd_lm _⟩, by rw [k1]; omega, by rw [k2]; omega⟩) (by omega)) rfl rfl rfl (by kernel_rfl) rfl rfl (fun w h => (hv w h)) (.head _) (fun _ => .head) ?_)
    intro _ _
    have hso := ord_uniq (sorted_ord (by omega) hos hz) ho
    obtain ⟨so, hsod⟩ : ∃ so, so = insO os.length os := ⟨_, rfl⟩
    have hsp : so.Perm os := by rw [hsod]; exact insO_perm _ _
    rw [← hsod] at hso ⊢
    have hsl : so.length = l.length := by rw [hsp.length_eq, hol]
    refine freeHead (g := g2) (o := row (so.flatMap encO ++ ex2) 90) ?_
    refine Pw.facts (G' := [S1 [1] zu, QW (LO l l.length) z9, AllN ns, Rows (RR encO heldO) 3 so (some ⟨g2, 0, none⟩) cap2]) (fun w h => allCons (hv w h) (allCons (hv w h) (allCons (hv w h) (allCons (rows_of_row (fact0 h) (fun _ _ => rfl) (fun p hp => (hv w h : AllO os w) p (hsp.mem_iff.1 hp)) (by have := hq2.2.1; omega) (by rw [hsl]; simp only [maxLen]; omega) (by omega)) allNil)))) ?_
    refine Pw.perm (L' := [⟨g9, row [sl (qn (LO l l.length)) z9.1, sl (qd (LO l l.length)) z9.2] 39⟩, ⟨g7, row [sl (qn (SO l l.length)) z7.1, sl (qd (SO l l.length)) z7.2] 39⟩, ⟨g1, row (cellsN ns ++ ex1) 37⟩]) (List.perm_append_comm (l₁ := gL (some (g1, cap1, ex1)) (cellsN ns) 37)) ?_
    repeat (first | (with_reducible first | refine Pw.seq ?_ | refine Pw.region ?_ | refine Pw.nil ?_ | refine Pw.then_ ?_ | refine Pw.skip ?_ | refine Pw.block ?_ | refine Pw.exit ?_ | refine Pw.inX ?_ | refine Pw.inN ?_ | refine Pw.inR ?_ | refine Pw.thenX ?_ | refine Pw.thenR ?_ | refine Pw.ret ?_) | refine Pw.list (Pw.pure rfl rfl rfl ?_) | refine Pw.inY rfl ?_ | refine Pw.list (Pw.off rfl rfl ?_) | refine Pw.condT rfl ?_ | refine Pw.condF rfl ?_ | refine Pw.list (Pw.box rfl rfl rfl rfl (fun _ => ?_)) | refine Pw.list (Pw.alloc rfl rfl rfl rfl rfl (fun _ => ?_)) | refine Pw.list (Pw.build rfl rfl rfl rfl ?_) | refine Pw.list (Pw.ld rfl inferInstance rfl rfl rfl ?_) | refine Pw.list (Pw.sto rfl rfl inferInstance rfl rfl rfl rfl rfl inferInstance rfl ?_))
    have hLs := LO_sz hz l.length (Nat.le_refl _)
    have hib : l.length * (K + 1) ≤ 20 * 18 := Nat.mul_le_mul (by omega) (by omega)
    refine Pw.list (Pw.call (qFloor_ct hLs z9 (by omega)) rfl rfl rfl (by kernel_rfl) rfl rfl (fun w h => (hv w h)) ?_)
    intro zm _
    have hLe : (LO l l.length).floor = ((manyQ (l.map rq) : Nat) : Int) := by rw [manyQ_eq]; unfold LO; rw [List.take_length]
    have hMl := manyQ_le (l.map rq)
    rw [List.length_map] at hMl
    obtain ⟨M, hM⟩ : ∃ M, M = manyQ (l.map rq) := ⟨_, rfl⟩
    rw [hLe]
    have eW : wholeQ (l.map rq) o = bumps (flL (l.map rq)) (o.take M) := by rw [hM]; rfl
    rw [← hM] at hMl ⊢
    have hMn := natL_len_le (n := 1) (show 0 ≤ ((M : Nat) : Int) by omega) (by show _ < (4294967296 : Int); omega)
    repeat (first | (with_reducible first | refine Pw.seq ?_ | refine Pw.region ?_ | refine Pw.nil ?_ | refine Pw.then_ ?_ | refine Pw.skip ?_ | refine Pw.block ?_ | refine Pw.exit ?_ | refine Pw.inX ?_ | refine Pw.inN ?_ | refine Pw.inR ?_ | refine Pw.thenX ?_ | refine Pw.thenR ?_ | refine Pw.ret ?_) | refine Pw.list (Pw.pure rfl rfl rfl ?_) | refine Pw.inY rfl ?_ | refine Pw.list (Pw.off rfl rfl ?_) | refine Pw.condT rfl ?_ | refine Pw.condF rfl ?_ | refine Pw.list (Pw.box rfl rfl rfl rfl (fun _ => ?_)) | refine Pw.list (Pw.alloc rfl rfl rfl rfl rfl (fun _ => ?_)) | refine Pw.list (Pw.build rfl rfl rfl rfl ?_) | refine Pw.list (Pw.ld rfl inferInstance rfl rfl rfl ?_) | refine Pw.list (Pw.sto rfl rfl inferInstance rfl rfl rfl rfl rfl inferInstance rfl ?_))
    refine Pw.list (Pw.call (Low_ct (natL ((M : Nat) : Int)) zm (natL_fm _).1 (by omega)) rfl rfl rfl (by kernel_rfl) rfl rfl (fun w h => (hv w h)) ?_)
    intro _ _
    rw [show lowN (natL ((M : Nat) : Int)) = (((M : Nat) : Int), true) by unfold lowN; rw [if_pos ⟨fmB_natL (by omega), by omega⟩, val_natL (by omega)]]
    repeat (first | (with_reducible first | refine Pw.seq ?_ | refine Pw.region ?_ | refine Pw.nil ?_ | refine Pw.then_ ?_ | refine Pw.skip ?_ | refine Pw.block ?_ | refine Pw.exit ?_ | refine Pw.inX ?_ | refine Pw.inN ?_ | refine Pw.inR ?_ | refine Pw.thenX ?_ | refine Pw.thenR ?_ | refine Pw.ret ?_) | refine Pw.list (Pw.pure rfl rfl rfl ?_) | refine Pw.inY rfl ?_ | refine Pw.list (Pw.off rfl rfl ?_) | refine Pw.condT rfl ?_ | refine Pw.condF rfl ?_ | refine Pw.list (Pw.box rfl rfl rfl rfl (fun _ => ?_)) | refine Pw.list (Pw.alloc rfl rfl rfl rfl rfl (fun _ => ?_)) | refine Pw.list (Pw.build rfl rfl rfl rfl ?_) | refine Pw.list (Pw.ld rfl inferInstance rfl rfl rfl ?_) | refine Pw.list (Pw.sto rfl rfl inferInstance rfl rfl rfl rfl rfl inferInstance rfl ?_))
    refine Pw.list (Pw.cutTo rfl rfl rfl rfl (show (0 : Int) ≤ ((M : Nat) : Int) by omega) (by have := hq2.2.1; omega) rfl rfl ?_)
    refine Pw.re (d := 99) (v' := .slice (some ⟨g2, 0, none⟩) M cap2) rfl (by rw [Int.toNat_natCast]) ?_
    refine Pw.drop (Pw.drop ?_)
    repeat (first | (with_reducible first | refine Pw.seq ?_ | refine Pw.region ?_ | refine Pw.nil ?_ | refine Pw.then_ ?_ | refine Pw.skip ?_ | refine Pw.block ?_ | refine Pw.exit ?_ | refine Pw.inX ?_ | refine Pw.inN ?_ | refine Pw.inR ?_ | refine Pw.thenX ?_ | refine Pw.thenR ?_ | refine Pw.ret ?_) | refine Pw.list (Pw.pure rfl rfl rfl ?_) | refine Pw.inY rfl ?_ | refine Pw.list (Pw.off rfl rfl ?_) | refine Pw.condT rfl ?_ | refine Pw.condF rfl ?_ | refine Pw.list (Pw.box rfl rfl rfl rfl (fun _ => ?_)) | refine Pw.list (Pw.alloc rfl rfl rfl rfl rfl (fun _ => ?_)) | refine Pw.list (Pw.build rfl rfl rfl rfl ?_) | refine Pw.list (Pw.ld rfl inferInstance rfl rfl rfl ?_) | refine Pw.list (Pw.sto rfl rfl inferInstance rfl rfl rfl rfl rfl inferInstance rfl ?_))
    have hns0 : ns.map Prod.fst = bumps (flL (l.map rq)) (o.take 0) := by rw [hns]; rfl
    refine Pw.facts (G' := [S1 [1] zu, AllN ns, Rows (RR encO heldO) 3 so (some ⟨g2, 0, none⟩) cap2]) (fun w h => allCons (hv w h) (allCons (hv w h) (allCons (hv w h) allNil))) ?_
    have h1l : ns.length = l.length := by have := congrArg List.length hns; rw [List.length_map] at this; rw [this]; simp [flL]
    refine Pw.loopJ (σ := Nat × List Nt) (fun t => t.1 ≤ M ∧ t.2.map Prod.fst = bumps (flL (l.map rq)) (o.take t.1) ∧ t.2.length = l.length) (fun t => ⟨[(4, gv (some (g1, cap1, ex1)) l.length), (6, sl [1] zu), (99, .slice (some ⟨g2, 0, none⟩) M cap2), (100, .int .i64 M), (101, .int .i64 t.1)], [⟨g1, row (cellsN t.2 ++ ex1) 37⟩], [S1 [1] zu, AllN t.2, Rows (RR encO heldO) 3 so (some ⟨g2, 0, none⟩) cap2]⟩) (fun t => M - t.1) (0, ns) ⟨Nat.zero_le _, hns0, h1l⟩ (Pw.enter ⟨rfl, rfl, rfl, rfl, rfl, trivial⟩ (fun w h => h)) ?_
    have hq1c := hq1.2.1
    have hq1e := hq1.2.2
    rw [List.length_append, cellsN_len, h1l] at hq1e
    clear hq1 hq2 hns hns0 h1l
    clear ns
    rintro ⟨k, ns⟩ ⟨hk, hns, hnl⟩
    dsimp only at hk hns hnl ⊢
    repeat (first | (with_reducible first | refine Pw.seq ?_ | refine Pw.region ?_ | refine Pw.nil ?_ | refine Pw.then_ ?_ | refine Pw.skip ?_ | refine Pw.block ?_ | refine Pw.exit ?_ | refine Pw.inX ?_ | refine Pw.inN ?_ | refine Pw.inR ?_ | refine Pw.thenX ?_ | refine Pw.thenR ?_ | refine Pw.ret ?_) | refine Pw.list (Pw.pure rfl rfl rfl ?_) | refine Pw.inY rfl ?_ | refine Pw.list (Pw.off rfl rfl ?_) | refine Pw.condT rfl ?_ | refine Pw.condF rfl ?_ | refine Pw.list (Pw.box rfl rfl rfl rfl (fun _ => ?_)) | refine Pw.list (Pw.alloc rfl rfl rfl rfl rfl (fun _ => ?_)) | refine Pw.list (Pw.build rfl rfl rfl rfl ?_) | refine Pw.list (Pw.ld rfl inferInstance rfl rfl rfl ?_) | refine Pw.list (Pw.sto rfl rfl inferInstance rfl rfl rfl rfl rfl inferInstance rfl ?_))
    refine Pw.condD rfl (fun c4 => ?_) (fun c4 => ?_)
    · obtain ⟨p, hp, hpm⟩ := get_at (show k < so.length by omega)
      have hpo := hos.key (hsp.mem_iff.1 hpm)
      rw [List.length_map] at hpo
      have hok : o[k]? = some p.at_.toNat := by rw [← hso, List.getElem?_map, hp]; rfl
      obtain ⟨hpa0, hpa1, _⟩ := hpo
      have hpa2 : p.at_ < (l.length : Int) := by omega
      obtain ⟨yy, hyy, hyym⟩ := get_at (show p.at_.toNat < (l.map rq).length by rw [List.length_map]; exact hpa1)
      have hyz := hz yy hyym
      have hab := at_bumps ho hok
      have hst := bumps_step ho hok (by rw [qAt_get hyy]; exact floor_nn hyz.p)
      rw [qAt_get hyy, ← hns] at hab hst
      obtain ⟨⟨f, zf⟩, hnf, hnfm⟩ := get_at (show p.at_.toNat < ns.length by omega)
      have hf : f = natL yy.floor := by rw [List.getElem?_map, hnf] at hab; injection hab
      subst hf
      repeat (first | (with_reducible first | refine Pw.seq ?_ | refine Pw.region ?_ | refine Pw.nil ?_ | refine Pw.then_ ?_ | refine Pw.skip ?_ | refine Pw.block ?_ | refine Pw.exit ?_ | refine Pw.inX ?_ | refine Pw.inN ?_ | refine Pw.inR ?_ | refine Pw.thenX ?_ | refine Pw.thenR ?_ | refine Pw.ret ?_) | refine Pw.list (Pw.pure rfl rfl rfl ?_) | refine Pw.inY rfl ?_ | refine Pw.list (Pw.off rfl rfl ?_) | refine Pw.condT rfl ?_ | refine Pw.condF rfl ?_ | refine Pw.list (Pw.box rfl rfl rfl rfl (fun _ => ?_)) | refine Pw.list (Pw.alloc rfl rfl rfl rfl rfl (fun _ => ?_)) | refine Pw.list (Pw.build rfl rfl rfl rfl ?_) | refine Pw.list (Pw.ld rfl inferInstance rfl rfl rfl ?_) | refine Pw.list (Pw.sto rfl rfl inferInstance rfl rfl rfl rfl rfl inferInstance rfl ?_))
      refine Pw.list (Pw.indexS rfl rfl rfl rfl (Int.natCast_nonneg k) c4 rfl rfl ?_)
      refine Pw.list (Pw.loadR p rfl inferInstance rfl (by rw [Int.toNat_natCast]; exact hp) (by kernel_rfl) rfl rfl ?_)
      refine Pw.re (d := 104) (v' := onV p) rfl rfl ?_
      repeat (first | (with_reducible first | refine Pw.seq ?_ | refine Pw.region ?_ | refine Pw.nil ?_ | refine Pw.then_ ?_ | refine Pw.skip ?_ | refine Pw.block ?_ | refine Pw.exit ?_ | refine Pw.inX ?_ | refine Pw.inN ?_ | refine Pw.inR ?_ | refine Pw.thenX ?_ | refine Pw.thenR ?_ | refine Pw.ret ?_) | refine Pw.list (Pw.pure rfl rfl rfl ?_) | refine Pw.inY rfl ?_ | refine Pw.list (Pw.off rfl rfl ?_) | refine Pw.condT rfl ?_ | refine Pw.condF rfl ?_ | refine Pw.list (Pw.box rfl rfl rfl rfl (fun _ => ?_)) | refine Pw.list (Pw.alloc rfl rfl rfl rfl rfl (fun _ => ?_)) | refine Pw.list (Pw.build rfl rfl rfl rfl ?_) | refine Pw.list (Pw.ld rfl inferInstance rfl rfl rfl ?_) | refine Pw.list (Pw.sto rfl rfl inferInstance rfl rfl rfl rfl rfl inferInstance rfl ?_))
      refine freeHead ?_
      have hadd := qAddN_ct (a := yy.floor) (b := 1) zf zu (floor_nn hyz.p) (by omega) (m := K) (sz_floor hyz) (by have := pw_le hK.1; have e : pw 1 = 4294967296 := rfl; omega) (by omega)
      rw [natL_one] at hadd
      refine Pw.drawnG mixed rfl rfl ?_
      refine Pw.takeP 0 (nb 15 1) rfl rfl rfl rfl (by kernel_rfl) np sf ?_
      refine Pw.takeP 1 (nb 15 3) rfl rfl rfl rfl (by kernel_rfl) np sf ?_
      refine Pw.takeF 2 (nb 15 7) rfl rfl inferInstance rfl rfl rfl (by kernel_rfl) np sf ?_
      refine Pw.takeP 3 (nb 15 15) rfl rfl rfl rfl (by kernel_rfl) np sf ?_
      refine Pw.takeP 4 (nb 15 31) rfl rfl rfl rfl (by kernel_rfl) np sf ?_
      refine Pw.takeF 5 (nb 15 63) rfl rfl inferInstance rfl rfl rfl (by kernel_rfl) np sf ?_
      refine Pw.takeIx 6 (nb 15 127) rfl rfl rfl rfl rfl (by first | assumption | omega) (by first | assumption | omega) rfl rfl (by kernel_rfl) np sf ?_
      refine Pw.takeP 8 (nb 15 383) rfl rfl rfl rfl (by kernel_rfl) np sf ?_
      refine Pw.one 7 (nb 15 511) rfl (by kernel_rfl) ?_
      refine Pw.load1 (v := sl (natL yy.floor) zf) rfl rfl (fun w hs => by
        have hb : w.heap[g1]? = some (row (cellsN ns ++ ex1) 37) := hs.own _ (.head _)
        show w.cell? (Addr.add ⟨g1, 0, none⟩ (p.at_.toNat * 1)) = _
        rw [Nat.mul_one, add_none, Nat.zero_add, cell_of_blk hb, List.getElem?_append_left (by rw [cellsN_len]; omega), cellsN_map, List.getElem?_map, hnf]; rfl) rfl rfl ?_
      refine Pw.held sf ?_
      refine Pw.one 9 (nb 15 1023) rfl (by kernel_rfl) ?_
      refine Pw.call hadd rfl rfl rfl (by kernel_rfl) rfl rfl (fun w h => ⟨(hv w h : AllN ns w) _ hnfm, (hv w h)⟩) ?_
      intro z' _
      refine Pw.held sf ?_
      refine Pw.takeP 10 (nb 15 2047) rfl rfl rfl rfl (by kernel_rfl) np sf ?_
      refine Pw.takeP 11 (nb 15 4095) rfl rfl rfl rfl (by kernel_rfl) np sf ?_
      refine Pw.takeP 12 (nb 15 8191) rfl rfl rfl rfl (by kernel_rfl) np sf ?_
      refine Pw.takeIx 13 (nb 15 16383) rfl rfl rfl rfl rfl (by first | assumption | omega) (by first | assumption | omega) rfl rfl (by kernel_rfl) np sf ?_
      refine Pw.one 14 (nb 15 32767) rfl (by kernel_rfl) ?_
      refine Pw.re (d := 118) (v' := .pointer (some ⟨g1, p.at_.toNat, none⟩)) rfl (by show Value.pointer (some (Addr.add ⟨g1, 0, none⟩ (p.at_.toNat * 1))) = _; rw [Nat.mul_one, add_none, Nat.zero_add]) ?_
      refine Pw.re (d := 116) (v' := sl (natL (yy.floor + 1)) z') rfl rfl ?_
      refine Pw.storeO (cs := cellsN ns ++ ex1) (cs' := cellsN (ns.set p.at_.toNat (natL (yy.floor + 1), z')) ++ ex1) rfl rfl rfl rfl rfl (by rw [List.length_append, cellsN_len]; omega) (by rw [List.set_append_left _ _ (by rw [cellsN_len]; omega)]; simp only [cellsN_map, List.map_set]) .head rfl ?_
      refine Pw.held sf ?_
      refine Pw.done (by kernel_rfl) ?_
      repeat (first | (with_reducible first | refine Pw.seq ?_ | refine Pw.region ?_ | refine Pw.nil ?_ | refine Pw.then_ ?_ | refine Pw.skip ?_ | refine Pw.block ?_ | refine Pw.exit ?_ | refine Pw.inX ?_ | refine Pw.inN ?_ | refine Pw.inR ?_ | refine Pw.thenX ?_ | refine Pw.thenR ?_ | refine Pw.ret ?_) | refine Pw.list (Pw.pure rfl rfl rfl ?_) | refine Pw.inY rfl ?_ | refine Pw.list (Pw.off rfl rfl ?_) | refine Pw.condT rfl ?_ | refine Pw.condF rfl ?_ | refine Pw.list (Pw.box rfl rfl rfl rfl (fun _ => ?_)) | refine Pw.list (Pw.alloc rfl rfl rfl rfl rfl (fun _ => ?_)) | refine Pw.list (Pw.build rfl rfl rfl rfl ?_) | refine Pw.list (Pw.ld rfl inferInstance rfl rfl rfl ?_) | refine Pw.list (Pw.sto rfl rfl inferInstance rfl rfl rfl rfl rfl inferInstance rfl ?_))
      refine Pw.re (d := 101) (v' := .int .i64 ((k + 1 : Nat) : Int)) rfl (congrArg (Value.int .i64) (i64s (n := 100000) (by omega) (by omega))) ?_
      exact Pw.again (k + 1, ns.set p.at_.toNat (natL (yy.floor + 1), z')) ⟨by omega, by rw [List.map_set]; exact hst.symm, by rw [List.length_set]; exact hnl⟩ (by show M - (k + 1) < M - k; omega) ⟨rfl, rfl, rfl, rfl, rfl, trivial⟩ rfl (fun w h => allCons (hv w h) (allCons (fun r hr => by
        rcases List.mem_or_eq_of_mem_set hr with hr | rfl
        · exact (hv w h : AllN ns w) r hr
        · exact (hv w h : S1 (natL (yy.floor + 1)) z' w)) (allCons (hv w h) allNil)))
    · obtain rfl : k = M := by omega
      have hwl := wholeQ_len (l.map rq) o
      rw [List.length_map] at hwl
      repeat (first | (with_reducible first | refine Pw.seq ?_ | refine Pw.region ?_ | refine Pw.nil ?_ | refine Pw.then_ ?_ | refine Pw.skip ?_ | refine Pw.block ?_ | refine Pw.exit ?_ | refine Pw.inX ?_ | refine Pw.inN ?_ | refine Pw.inR ?_ | refine Pw.thenX ?_ | refine Pw.thenR ?_ | refine Pw.ret ?_) | refine Pw.list (Pw.pure rfl rfl rfl ?_) | refine Pw.inY rfl ?_ | refine Pw.list (Pw.off rfl rfl ?_) | refine Pw.condT rfl ?_ | refine Pw.condF rfl ?_ | refine Pw.list (Pw.box rfl rfl rfl rfl (fun _ => ?_)) | refine Pw.list (Pw.alloc rfl rfl rfl rfl rfl (fun _ => ?_)) | refine Pw.list (Pw.build rfl rfl rfl rfl ?_) | refine Pw.list (Pw.ld rfl inferInstance rfl rfl rfl ?_) | refine Pw.list (Pw.sto rfl rfl inferInstance rfl rfl rfl rfl rfl inferInstance rfl ?_))
      refine freeHead ?_
      exact Pw.ret_ (x := (ns, (some ⟨g1, 0, none⟩, cap1))) (.tmp rfl (.tmp rfl .nil)) (by rw [hwl]; rfl) (by rw [eW]; exact hns) (fun w h => rows_of_row (ex := ex1) (fact0 h) (fun _ _ => rfl) (fun y hy => (hv w h : AllN ns w) y hy) (by rw [hnl]; exact hq1c) (by rw [hnl]; simp only [maxLen]; omega) (by omega))
end Go.Proofs.Wk
/- The reference's sums and differences of naturals. -/
namespace Go.Proofs.Wk
open Go.RowKit
set_option maxRecDepth 100000
set_option maxHeartbeats 1000000
attribute [local irreducible] Pw OpG
set_option linter.unusedVariables false
set_option linter.unusedSimpArgs false
end Go.Proofs.Wk
/- Weights made whole: no weights; the document's Round walked. -/
namespace Go.Proofs.Wk
open Go.RowKit
set_option maxRecDepth 100000
set_option maxHeartbeats 4000000
attribute [local irreducible] Pw OpG
set_option linter.unusedVariables false
set_option linter.unusedSimpArgs false
theorem flo0 : (((0 : Int) : Rat)).floor = 0 := Rat.floor_intCast 0
theorem pRoundNil_ct (x : Option Addr × Nat) :
    Ct Try.prog 14 #[rsV [] x] (RS [] x) (fun r : List Nt × (Option Addr × Nat) => .tuple #[.slice r.2.1 0 r.2.2, .int .i64 0]) (fun r => r.1.map Prod.fst = []) (fun r => NS r.1 r.2) := by
  obtain ⟨A, c⟩ := x
  refine Ct.start Try.func14 rfl rfl (slots_of rfl slots1) (fun D w0 => ?_)
  repeat (first | (with_reducible first | refine Pw.seq ?_ | refine Pw.region ?_ | refine Pw.nil ?_ | refine Pw.then_ ?_ | refine Pw.skip ?_ | refine Pw.block ?_ | refine Pw.exit ?_ | refine Pw.inX ?_ | refine Pw.inN ?_ | refine Pw.inR ?_ | refine Pw.thenX ?_ | refine Pw.thenR ?_ | refine Pw.ret ?_) | refine Pw.list (Pw.pure rfl rfl rfl ?_) | refine Pw.inY rfl ?_ | refine Pw.list (Pw.off rfl rfl ?_) | refine Pw.condT rfl ?_ | refine Pw.condF rfl ?_ | refine Pw.list (Pw.box rfl rfl rfl rfl (fun _ => ?_)) | refine Pw.list (Pw.alloc rfl rfl rfl rfl rfl (fun _ => ?_)) | refine Pw.list (Pw.build rfl rfl rfl rfl ?_) | refine Pw.list (Pw.ld rfl inferInstance rfl rfl rfl ?_) | refine Pw.list (Pw.sto rfl rfl inferInstance rfl rfl rfl rfl rfl inferInstance rfl ?_))
  refine Pw.list (Pw.call (Of_ct 1) rfl rfl rfl (by kernel_rfl) rfl rfl (fun w h => trivial) ?_)
  intro zu _
  rw [ofN_1]
  repeat (first | (with_reducible first | refine Pw.seq ?_ | refine Pw.region ?_ | refine Pw.nil ?_ | refine Pw.then_ ?_ | refine Pw.skip ?_ | refine Pw.block ?_ | refine Pw.exit ?_ | refine Pw.inX ?_ | refine Pw.inN ?_ | refine Pw.inR ?_ | refine Pw.thenX ?_ | refine Pw.thenR ?_ | refine Pw.ret ?_) | refine Pw.list (Pw.pure rfl rfl rfl ?_) | refine Pw.inY rfl ?_ | refine Pw.list (Pw.off rfl rfl ?_) | refine Pw.condT rfl ?_ | refine Pw.condF rfl ?_ | refine Pw.list (Pw.box rfl rfl rfl rfl (fun _ => ?_)) | refine Pw.list (Pw.alloc rfl rfl rfl rfl rfl (fun _ => ?_)) | refine Pw.list (Pw.build rfl rfl rfl rfl ?_) | refine Pw.list (Pw.ld rfl inferInstance rfl rfl rfl ?_) | refine Pw.list (Pw.sto rfl rfl inferInstance rfl rfl rfl rfl rfl inferInstance rfl ?_))
  refine Pw.list (Pw.call (qOf_ct (n := 0) (by omega) (by omega)) rfl rfl rfl (by kernel_rfl) rfl rfl (fun w h => trivial) ?_)
  intro z7 _
  repeat (first | (with_reducible first | refine Pw.seq ?_ | refine Pw.region ?_ | refine Pw.nil ?_ | refine Pw.then_ ?_ | refine Pw.skip ?_ | refine Pw.block ?_ | refine Pw.exit ?_ | refine Pw.inX ?_ | refine Pw.inN ?_ | refine Pw.inR ?_ | refine Pw.thenX ?_ | refine Pw.thenR ?_ | refine Pw.ret ?_) | refine Pw.list (Pw.pure rfl rfl rfl ?_) | refine Pw.inY rfl ?_ | refine Pw.list (Pw.off rfl rfl ?_) | refine Pw.condT rfl ?_ | refine Pw.condF rfl ?_ | refine Pw.list (Pw.box rfl rfl rfl rfl (fun _ => ?_)) | refine Pw.list (Pw.alloc rfl rfl rfl rfl rfl (fun _ => ?_)) | refine Pw.list (Pw.build rfl rfl rfl rfl ?_) | refine Pw.list (Pw.ld rfl inferInstance rfl rfl rfl ?_) | refine Pw.list (Pw.sto rfl rfl inferInstance rfl rfl rfl rfl rfl inferInstance rfl ?_))
  refine Pw.list (Pw.call (qOf_ct (n := 0) (by omega) (by omega)) rfl rfl rfl (by kernel_rfl) rfl rfl (fun w h => trivial) ?_)
  intro z9 _
  repeat (first | (with_reducible first | refine Pw.seq ?_ | refine Pw.region ?_ | refine Pw.nil ?_ | refine Pw.then_ ?_ | refine Pw.skip ?_ | refine Pw.block ?_ | refine Pw.exit ?_ | refine Pw.inX ?_ | refine Pw.inN ?_ | refine Pw.inR ?_ | refine Pw.thenX ?_ | refine Pw.thenR ?_ | refine Pw.ret ?_) | refine Pw.list (Pw.pure rfl rfl rfl ?_) | refine Pw.inY rfl ?_ | refine Pw.list (Pw.off rfl rfl ?_) | refine Pw.condT rfl ?_ | refine Pw.condF rfl ?_ | refine Pw.list (Pw.box rfl rfl rfl rfl (fun _ => ?_)) | refine Pw.list (Pw.alloc rfl rfl rfl rfl rfl (fun _ => ?_)) | refine Pw.list (Pw.build rfl rfl rfl rfl ?_) | refine Pw.list (Pw.ld rfl inferInstance rfl rfl rfl ?_) | refine Pw.list (Pw.sto rfl rfl inferInstance rfl rfl rfl rfl rfl inferInstance rfl ?_))
  refine Pw.list (Pw.call (ContainsR_ct [] (A, c) 36 (fun s => !formedR s.a s.b) (fun s hs => by cases hs) (by kernel_rfl)) rfl rfl rfl (by kernel_rfl) rfl rfl (fun w h => (hv w h)) ?_)
  intro _ _
  repeat (first | (with_reducible first | refine Pw.seq ?_ | refine Pw.region ?_ | refine Pw.nil ?_ | refine Pw.then_ ?_ | refine Pw.skip ?_ | refine Pw.block ?_ | refine Pw.exit ?_ | refine Pw.inX ?_ | refine Pw.inN ?_ | refine Pw.inR ?_ | refine Pw.thenX ?_ | refine Pw.thenR ?_ | refine Pw.ret ?_) | refine Pw.list (Pw.pure rfl rfl rfl ?_) | refine Pw.inY rfl ?_ | refine Pw.list (Pw.off rfl rfl ?_) | refine Pw.condT rfl ?_ | refine Pw.condF rfl ?_ | refine Pw.list (Pw.box rfl rfl rfl rfl (fun _ => ?_)) | refine Pw.list (Pw.alloc rfl rfl rfl rfl rfl (fun _ => ?_)) | refine Pw.list (Pw.build rfl rfl rfl rfl ?_) | refine Pw.list (Pw.ld rfl inferInstance rfl rfl rfl ?_) | refine Pw.list (Pw.sto rfl rfl inferInstance rfl rfl rfl rfl rfl inferInstance rfl ?_))
  refine Pw.rounds 2 (Pw.round ?_)
  repeat (first | (with_reducible first | refine Pw.seq ?_ | refine Pw.region ?_ | refine Pw.nil ?_ | refine Pw.then_ ?_ | refine Pw.skip ?_ | refine Pw.block ?_ | refine Pw.exit ?_ | refine Pw.inX ?_ | refine Pw.inN ?_ | refine Pw.inR ?_ | refine Pw.thenX ?_ | refine Pw.thenR ?_ | refine Pw.ret ?_) | refine Pw.list (Pw.pure rfl rfl rfl ?_) | refine Pw.inY rfl ?_ | refine Pw.list (Pw.off rfl rfl ?_) | refine Pw.condT rfl ?_ | refine Pw.condF rfl ?_ | refine Pw.list (Pw.box rfl rfl rfl rfl (fun _ => ?_)) | refine Pw.list (Pw.alloc rfl rfl rfl rfl rfl (fun _ => ?_)) | refine Pw.list (Pw.build rfl rfl rfl rfl ?_) | refine Pw.list (Pw.ld rfl inferInstance rfl rfl rfl ?_) | refine Pw.list (Pw.sto rfl rfl inferInstance rfl rfl rfl rfl rfl inferInstance rfl ?_))
  refine Pw.list (Pw.call SortNil_ct rfl rfl rfl (by kernel_rfl) rfl rfl (fun w h => trivial) ?_)
  intro _ _
  repeat (first | (with_reducible first | refine Pw.seq ?_ | refine Pw.region ?_ | refine Pw.nil ?_ | refine Pw.then_ ?_ | refine Pw.skip ?_ | refine Pw.block ?_ | refine Pw.exit ?_ | refine Pw.inX ?_ | refine Pw.inN ?_ | refine Pw.inR ?_ | refine Pw.thenX ?_ | refine Pw.thenR ?_ | refine Pw.ret ?_) | refine Pw.list (Pw.pure rfl rfl rfl ?_) | refine Pw.inY rfl ?_ | refine Pw.list (Pw.off rfl rfl ?_) | refine Pw.condT rfl ?_ | refine Pw.condF rfl ?_ | refine Pw.list (Pw.box rfl rfl rfl rfl (fun _ => ?_)) | refine Pw.list (Pw.alloc rfl rfl rfl rfl rfl (fun _ => ?_)) | refine Pw.list (Pw.build rfl rfl rfl rfl ?_) | refine Pw.list (Pw.ld rfl inferInstance rfl rfl rfl ?_) | refine Pw.list (Pw.sto rfl rfl inferInstance rfl rfl rfl rfl rfl inferInstance rfl ?_))
  refine Pw.list (Pw.call (qFloor_ct (sz_0 1 (by omega)) z9 (by omega)) rfl rfl rfl (by kernel_rfl) rfl rfl (fun w h => (hv w h)) ?_)
  intro zm _
  rw [show (0 : Rat).floor = 0 from flo0, natL_zero]
  repeat (first | (with_reducible first | refine Pw.seq ?_ | refine Pw.region ?_ | refine Pw.nil ?_ | refine Pw.then_ ?_ | refine Pw.skip ?_ | refine Pw.block ?_ | refine Pw.exit ?_ | refine Pw.inX ?_ | refine Pw.inN ?_ | refine Pw.inR ?_ | refine Pw.thenX ?_ | refine Pw.thenR ?_ | refine Pw.ret ?_) | refine Pw.list (Pw.pure rfl rfl rfl ?_) | refine Pw.inY rfl ?_ | refine Pw.list (Pw.off rfl rfl ?_) | refine Pw.condT rfl ?_ | refine Pw.condF rfl ?_ | refine Pw.list (Pw.box rfl rfl rfl rfl (fun _ => ?_)) | refine Pw.list (Pw.alloc rfl rfl rfl rfl rfl (fun _ => ?_)) | refine Pw.list (Pw.build rfl rfl rfl rfl ?_) | refine Pw.list (Pw.ld rfl inferInstance rfl rfl rfl ?_) | refine Pw.list (Pw.sto rfl rfl inferInstance rfl rfl rfl rfl rfl inferInstance rfl ?_))
  refine Pw.list (Pw.call (Low_ct [] zm (fun x hx => by cases hx) (by simp)) rfl rfl rfl (by kernel_rfl) rfl rfl (fun w h => (hv w h)) ?_)
  intro _ _
  repeat (first | (with_reducible first | refine Pw.seq ?_ | refine Pw.region ?_ | refine Pw.nil ?_ | refine Pw.then_ ?_ | refine Pw.skip ?_ | refine Pw.block ?_ | refine Pw.exit ?_ | refine Pw.inX ?_ | refine Pw.inN ?_ | refine Pw.inR ?_ | refine Pw.thenX ?_ | refine Pw.thenR ?_ | refine Pw.ret ?_) | refine Pw.list (Pw.pure rfl rfl rfl ?_) | refine Pw.inY rfl ?_ | refine Pw.list (Pw.off rfl rfl ?_) | refine Pw.condT rfl ?_ | refine Pw.condF rfl ?_ | refine Pw.list (Pw.box rfl rfl rfl rfl (fun _ => ?_)) | refine Pw.list (Pw.alloc rfl rfl rfl rfl rfl (fun _ => ?_)) | refine Pw.list (Pw.build rfl rfl rfl rfl ?_) | refine Pw.list (Pw.ld rfl inferInstance rfl rfl rfl ?_) | refine Pw.list (Pw.sto rfl rfl inferInstance rfl rfl rfl rfl rfl inferInstance rfl ?_))
  refine Pw.list (Pw.cutTo rfl rfl rfl rfl (show (0 : Int) ≤ 0 by omega) (show (0 : Int) ≤ ((0 : Nat) : Int) by omega) rfl rfl ?_)
  repeat (first | (with_reducible first | refine Pw.seq ?_ | refine Pw.region ?_ | refine Pw.nil ?_ | refine Pw.then_ ?_ | refine Pw.skip ?_ | refine Pw.block ?_ | refine Pw.exit ?_ | refine Pw.inX ?_ | refine Pw.inN ?_ | refine Pw.inR ?_ | refine Pw.thenX ?_ | refine Pw.thenR ?_ | refine Pw.ret ?_) | refine Pw.list (Pw.pure rfl rfl rfl ?_) | refine Pw.inY rfl ?_ | refine Pw.list (Pw.off rfl rfl ?_) | refine Pw.condT rfl ?_ | refine Pw.condF rfl ?_ | refine Pw.list (Pw.box rfl rfl rfl rfl (fun _ => ?_)) | refine Pw.list (Pw.alloc rfl rfl rfl rfl rfl (fun _ => ?_)) | refine Pw.list (Pw.build rfl rfl rfl rfl ?_) | refine Pw.list (Pw.ld rfl inferInstance rfl rfl rfl ?_) | refine Pw.list (Pw.sto rfl rfl inferInstance rfl rfl rfl rfl rfl inferInstance rfl ?_))
  refine Pw.rounds 2 (Pw.round ?_)
  repeat (first | (with_reducible first | refine Pw.seq ?_ | refine Pw.region ?_ | refine Pw.nil ?_ | refine Pw.then_ ?_ | refine Pw.skip ?_ | refine Pw.block ?_ | refine Pw.exit ?_ | refine Pw.inX ?_ | refine Pw.inN ?_ | refine Pw.inR ?_ | refine Pw.thenX ?_ | refine Pw.thenR ?_ | refine Pw.ret ?_) | refine Pw.list (Pw.pure rfl rfl rfl ?_) | refine Pw.inY rfl ?_ | refine Pw.list (Pw.off rfl rfl ?_) | refine Pw.condT rfl ?_ | refine Pw.condF rfl ?_ | refine Pw.list (Pw.box rfl rfl rfl rfl (fun _ => ?_)) | refine Pw.list (Pw.alloc rfl rfl rfl rfl rfl (fun _ => ?_)) | refine Pw.list (Pw.build rfl rfl rfl rfl ?_) | refine Pw.list (Pw.ld rfl inferInstance rfl rfl rfl ?_) | refine Pw.list (Pw.sto rfl rfl inferInstance rfl rfl rfl rfl rfl inferInstance rfl ?_))
  exact Pw.ret_ (x := ([], (none, 0))) (.tmp rfl (.tmp rfl .nil)) rfl rfl (fun w h => Rows.nil _ _ _ _ _)
end Go.Proofs.Wk
/- Weights made whole: the document's choice of those that get one more. -/
namespace Go.Proofs.Wk
open Go.RowKit
set_option maxRecDepth 100000
set_option linter.unusedVariables false
set_option linter.unusedSimpArgs false
/-- The rests as the document makes them. -/
def RsOk (ws : List Rat) (rs : List Rt) : Prop := rs.length = ws.length ∧ ∀ (i : Nat) (r : Rt), rs[i]? = some r → r.a = qn (fr (qAt ws i)) ∧ r.b = qd (fr (qAt ws i))
end Go.Proofs.Wk
/- Weights made whole: the document's Round walked. -/
namespace Go.Proofs.Wk
open Go.RowKit
set_option maxRecDepth 100000
set_option maxHeartbeats 4000000
attribute [local irreducible] Pw OpG
set_option linter.unusedVariables false
set_option linter.unusedSimpArgs false
structure RrJ (l : List Rt) (i : Nat) (ns : List Nt) (rs : List Rt) (q1 q2 : Gr) : Prop where
  le : i ≤ l.length
  hn : ns.map Prod.fst = flL ((l.take i).map rq)
  ho : RsOk ((l.take i).map rq) rs
  h1 : gOk q1 (cellsN ns) i 1
  h2 : gOk q2 (cellsR rs) i 2
end Go.Proofs.Wk
/- Weights made whole: what comes, in short. -/
namespace Go.Proofs.Wk
open Go.RowKit
set_option maxRecDepth 100000
set_option linter.unusedVariables false
set_option linter.unusedSimpArgs false
theorem wholeQ_get {ws : List Rat} {o : List Nat} (ho : Ord ws o) (hp : ∀ x ∈ ws, 0 ≤ x) {i : Nat} (hi : i < ws.length) : ∃ d : Int, (d = 0 ∨ d = 1) ∧ (wholeQ ws o)[i]? = some (natL ((qAt ws i).floor + d)) := by
  have hx := List.getElem?_eq_getElem hi
  have h0 := floor_nn (hp _ (List.getElem_mem hi))
  unfold wholeQ
  rw [bumps_get _ _ (ho.nodup.sublist (List.take_sublist _ _)), qAt_get hx]
  have e : (flL ws)[i]? = some (natL ws[i].floor) := by unfold flL; rw [List.getElem?_map, hx]; rfl
  rw [e]
  by_cases h : i ∈ o.take (manyQ ws)
  · rw [if_pos h]; exact ⟨1, .inr rfl, by show some (natL (val (natL ws[i].floor) + 1)) = _; rw [val_natL h0]⟩
  · rw [if_neg h]; exact ⟨0, .inl rfl, by rw [Int.add_zero]⟩
theorem sumI_set : ∀ (l : List Int) (k : Nat) (x y : Int), l[k]? = some x → sumI (l.set k y) = sumI l + (y - x) := by
  refine snoc_ind (fun k x y h => by simp at h) (fun l a ih k x y h => ?_)
  rcases Nat.lt_or_ge k l.length with hk | hk
  · rw [List.getElem?_append_left hk] at h
    rw [List.set_append_left _ _ hk, sumI_snoc, sumI_snoc, ih k x y h]; omega
  · rw [List.getElem?_append_right hk] at h
    obtain ⟨t, ht⟩ : ∃ t, t = k - l.length := ⟨_, rfl⟩
    rw [← ht] at h
    rcases t with _ | t
    · simp at h; subst h
      rw [List.set_append_right _ _ hk, ← ht]
      show sumI (l ++ [y]) = _
      rw [sumI_snoc, sumI_snoc]; omega
    · simp at h
theorem sum_bumps {F : List (List Int)} (hF : ∀ f ∈ F, 0 ≤ val f) : ∀ (ks : List Nat), (∀ k ∈ ks, k < F.length) → sumI ((bumps F ks).map val) = sumI (F.map val) + (ks.length : Int) ∧ ∀ f ∈ bumps F ks, 0 ≤ val f := by
  refine snoc_ind (fun _ => ⟨by simp [bumps], hF⟩) (fun ks k ih hk => ?_)
  obtain ⟨h1, h2⟩ := ih (fun j hj => hk j (List.mem_append_left _ hj))
  have hkl := hk k (List.mem_append_right _ (List.mem_singleton_self _))
  obtain ⟨f, hf, hfm⟩ := get_at (show k < (bumps F ks).length by rw [bumps_len]; exact hkl)
  have h3 := h2 f hfm
  have e : bumps F (ks ++ [k]) = (bumps F ks).set k (natL (val f + 1)) := by
    rw [bumps_snoc]; unfold bump; rw [List.getD_eq_getElem?_getD, hf]; rfl
  rw [e]
  constructor
  · rw [List.map_set, sumI_set _ k (val f) _ (by rw [List.getElem?_map, hf]; rfl), h1, val_natL (by omega), List.length_append, List.length_singleton]; omega
  · intro g hg
    rcases List.mem_or_eq_of_mem_set hg with hg | rfl
    · exact h2 g hg
    · rw [val_natL (by omega)]; omega
/-- Together they are the sum, rounded down. -/
theorem wholeQ_sum {ws : List Rat} {o : List Nat} (ho : Ord ws o) (hp : ∀ x ∈ ws, 0 ≤ x) : sumI ((wholeQ ws o).map val) = (sumQ ws).floor := by
  have hF : ∀ f ∈ flL ws, 0 ≤ val f := fun f hf => by
    obtain ⟨x, hx, rfl⟩ := List.mem_map.1 hf
    rw [val_natL (floor_nn (hp x hx))]; exact floor_nn (hp x hx)
  have h := (sum_bumps hF (o.take (manyQ ws)) (fun k hk => by unfold flL; rw [List.length_map]; exact ho.lt (List.mem_of_mem_take hk))).1
  unfold wholeQ
  rw [h, floor_split, List.length_take, ho.len, Nat.min_eq_left (manyQ_le ws), manyQ_eq]
  have e : (flL ws).map val = fls ws := by
    unfold flL fls
    rw [List.map_map]
    exact List.map_congr_left (fun x hx => val_natL (floor_nn (hp x hx)))
  rw [e]; omega
theorem wholeQ_el {ws : List Rat} {o : List Nat} {K : Nat} (ho : Ord ws o) (hz : ∀ x ∈ ws, Sz K x) {f : List Int} (hf : f ∈ wholeQ ws o) : Fm f ∧ f.length ≤ K + 1 ∧ 0 ≤ val f ∧ val f < pw (K + 1) := by
  obtain ⟨i, hi⟩ := List.getElem?_of_mem hf
  have hlt : i < ws.length := by rw [← wholeQ_len ws o]; exact (List.getElem?_eq_some_iff.1 hi).1
  obtain ⟨d, hd, e⟩ := wholeQ_get ho (fun x hx => (hz x hx).p) hlt
  rw [e] at hi
  cases hi
  obtain ⟨x, hx, hxm⟩ := get_at hlt
  have hxz := hz x hxm
  have h0 := floor_nn hxz.p
  have h1 := sz_floor hxz
  rw [qAt_get hx]
  have h2 : x.floor + d < pw (K + 1) := by
    have := pw_le (show K ≤ K + 1 by omega)
    rw [pw_add]; have e1 : pw 1 = 4294967296 := rfl
    have := pw_pos K
    rw [e1]; omega
  exact ⟨natL_fm _, natL_len_le (by omega) h2, by rw [val_natL (by omega)]; omega, by rw [val_natL (by omega)]; exact h2⟩
/-- Of any weights. -/
theorem rndS_nil (o : List Nat) (ho : Ord ([].map rq) o) : rndS [] o = ([], 0) := by
  have e : rndS [] o = (wholeQ [] o, 0) := rfl
  have := wholeQ_len [] o
  rw [e, List.eq_nil_of_length_eq_zero this]
theorem pRoundA_ct (K : Nat) (l : List Rt) (x : Option Addr × Nat) (o : List Nat) (hw : ∀ s ∈ l, RtW s) (hb : ∀ s ∈ l, s.a.length ≤ K ∧ s.b.length ≤ K) (hl : l.length ≤ 20) (hK : 1 ≤ K ∧ K ≤ 17) (ho : Ord (l.map rq) o) :
    Ct Try.prog 14 #[rsV l x] (RS l x) (fun r : List Nt × (Option Addr × Nat) => .tuple #[.slice r.2.1 (rndS l o).1.length r.2.2, .int .i64 (rndS l o).2]) (fun r => r.1.map Prod.fst = (rndS l o).1) (fun r => NS r.1 r.2) := by
  rcases l with _ | ⟨s, r⟩
  · rw [rndS_nil o ho]; exact pRoundNil_ct x
  · exact pRound_ct K _ x o hw hb hl (by simp) hK ho
section
variable {P : Program} {w0 : World} {M O : Nat → Prop} {n : Nat} {K : Slots} {L : List Blk} {G : List (World → Prop)} {Q : Exit → Act → World → Prop} {ops : Array Oper} {α : Type}
  {d : Nat} {ty : TypeId} {pos : String} {af : Array Edge} {gd : Option (Nat × Bool)} {N : Act → World → Prop}
theorem Pw.loadC1 {x : Operand} {ad : Addr} {u : TypeId} {sz sz' : Nat} {i : Int} {enc : α → List Value} {held : α → World → Prop} {l : List α} {c : Nat} (y : α) {v : Value} (hx : ev K x = some (.pointer (some (ad.add (i.toNat * sz))))) (hr : RowsAt G (some ad) α enc held sz' l c) (hsz : sz = sz') (hi : l[i.toNat]? = some y) (hv : (enc y)[0]? = some v) (hu : plainB P u = true)
    (hw : wantB K ops gd = some true) (hn : Nat.blt d n = true) (h : Pw w0 M O n ((d, v) :: K) L (held y :: G) N) : Pw w0 M O n K L G (OpG P ops ⟨some d, .load u x, ty, pos, af, gd⟩ N Q) := by
  subst hsz
  exact Pw.more (fun w k => ((hr.h w k).at hi).2.1) (Pw.load1 hx hu (fun w hs => ((hr.h w (allTail hs.all)).at hi).2.2 0 v hv) hw hn h)
end
end Go.Proofs.Wk
/- The laws of weights made whole, walked. -/
namespace Go.Proofs.Wk
open Go.RowKit
set_option maxRecDepth 100000
set_option maxHeartbeats 4000000
attribute [local irreducible] Pw OpG
set_option linter.unusedVariables false
set_option linter.unusedSimpArgs false
theorem rq_sz {s : Rt} {K : Nat} (hw : RtW s) (ha : s.a.length ≤ K) (hb : s.b.length ≤ K) (hK : 1 ≤ K) : Sz K (rq s) := by
  have n1 := val_nonneg hw.a; have n2 := val_nonneg hw.b
  have l1 := val_lt_pw hw.a; have l2 := val_lt_pw hw.b
  have := pw_le ha; have := pw_le hb
  unfold rq rv
  rcases Int.lt_or_le 0 (val s.b) with h | h
  · obtain ⟨h1, h2⟩ := num_le_divInt n1 h
    exact ⟨Rat.divInt_nonneg n1 (by omega), by omega, by omega⟩
  · rw [show val s.b = 0 by omega, Rat.divInt_zero]; exact sz_0 K hK
theorem half_ct : Ct Try.prog 18 #[.int .u64 1, .int .u64 2] (fun _ => True) (fun z : Z2 => .tuple #[qt (Rat.divInt 1 2) z, .int .i64 0]) Tt (fun z => QW (Rat.divInt 1 2) z) := by
  have hc := rat_Of_ct 1 2
  rwa [q_of (by omega) (by omega) (by omega) (by omega)] at hc
theorem half_sz : Sz 1 (Rat.divInt 1 2) := by
  obtain ⟨h1, h2⟩ := num_le_divInt (p := 1) (q := 2) (by omega) (by omega)
  have : pw 1 = 4294967296 := rfl
  exact ⟨Rat.divInt_nonneg (by omega) (by omega), by omega, by omega⟩
theorem half_ord : Ord [Rat.divInt 1 2, Rat.divInt 1 2] [0, 1] := ⟨.refl _, List.pairwise_cons.2 ⟨fun j hj => by
  rw [List.mem_singleton.1 hj]; exact .inr ⟨rfl, by omega⟩, List.pairwise_singleton _ _⟩⟩
theorem half_whole : wholeQ [Rat.divInt 1 2, Rat.divInt 1 2] [0, 1] = [natL 1, natL 0] := by
  have e1 : manyQ [Rat.divInt 1 2, Rat.divInt 1 2] = 1 := by decide +kernel
  have e2 : (Rat.divInt 1 2).floor = 0 := by decide +kernel
  unfold wholeQ flL
  rw [e1, List.map_cons, List.map_cons, List.map_nil, e2]
  show bump [natL 0, natL 0] 0 = _
  unfold bump
  show [natL (val (natL 0) + 1), natL 0] = _
  rw [val_natL (by omega)]; rfl
theorem wawake_ct : Ct Try.prog 12 #[] (fun _ => True) (fun _ : Unit => .bool true) Tt (fun _ _ => True) := by
  refine Ct.start Try.func12 rfl rfl (slots_of rfl slots0) (fun D w0 => ?_)
  repeat (first | (with_reducible first | refine Pw.seq ?_ | refine Pw.region ?_ | refine Pw.nil ?_ | refine Pw.then_ ?_ | refine Pw.skip ?_ | refine Pw.block ?_ | refine Pw.exit ?_ | refine Pw.inX ?_ | refine Pw.inN ?_ | refine Pw.inR ?_ | refine Pw.thenX ?_ | refine Pw.thenR ?_ | refine Pw.ret ?_) | refine Pw.list (Pw.pure rfl rfl rfl ?_) | refine Pw.inY rfl ?_ | refine Pw.list (Pw.off rfl rfl ?_) | refine Pw.condT rfl ?_ | refine Pw.condF rfl ?_ | refine Pw.list (Pw.box rfl rfl rfl rfl (fun _ => ?_)) | refine Pw.list (Pw.alloc rfl rfl rfl rfl rfl (fun _ => ?_)) | refine Pw.list (Pw.build rfl rfl rfl rfl ?_) | refine Pw.list (Pw.ld rfl inferInstance rfl rfl rfl ?_) | refine Pw.list (Pw.sto rfl rfl inferInstance rfl rfl rfl rfl rfl inferInstance rfl ?_))
  refine Pw.list (Pw.call half_ct rfl rfl rfl (by kernel_rfl) rfl rfl (fun w h => trivial) ?_)
  intro z1 _
  repeat (first | (with_reducible first | refine Pw.seq ?_ | refine Pw.region ?_ | refine Pw.nil ?_ | refine Pw.then_ ?_ | refine Pw.skip ?_ | refine Pw.block ?_ | refine Pw.exit ?_ | refine Pw.inX ?_ | refine Pw.inN ?_ | refine Pw.inR ?_ | refine Pw.thenX ?_ | refine Pw.thenR ?_ | refine Pw.ret ?_) | refine Pw.list (Pw.pure rfl rfl rfl ?_) | refine Pw.inY rfl ?_ | refine Pw.list (Pw.off rfl rfl ?_) | refine Pw.condT rfl ?_ | refine Pw.condF rfl ?_ | refine Pw.list (Pw.box rfl rfl rfl rfl (fun _ => ?_)) | refine Pw.list (Pw.alloc rfl rfl rfl rfl rfl (fun _ => ?_)) | refine Pw.list (Pw.build rfl rfl rfl rfl ?_) | refine Pw.list (Pw.ld rfl inferInstance rfl rfl rfl ?_) | refine Pw.list (Pw.sto rfl rfl inferInstance rfl rfl rfl rfl rfl inferInstance rfl ?_))
  refine freeHead ?_
  have hz := half_sz
  obtain ⟨h, hh⟩ : ∃ h, h = Rat.divInt 1 2 := ⟨_, rfl⟩
  have hw := half_whole
  have ho := half_ord
  rw [← hh] at hz hw ho ⊢
  repeat (first | (with_reducible first | refine Pw.seq ?_ | refine Pw.region ?_ | refine Pw.nil ?_ | refine Pw.then_ ?_ | refine Pw.skip ?_ | refine Pw.block ?_ | refine Pw.exit ?_ | refine Pw.inX ?_ | refine Pw.inN ?_ | refine Pw.inR ?_ | refine Pw.thenX ?_ | refine Pw.thenR ?_ | refine Pw.ret ?_) | refine Pw.list (Pw.pure rfl rfl rfl ?_) | refine Pw.inY rfl ?_ | refine Pw.list (Pw.off rfl rfl ?_) | refine Pw.condT rfl ?_ | refine Pw.condF rfl ?_ | refine Pw.list (Pw.box rfl rfl rfl rfl (fun _ => ?_)) | refine Pw.list (Pw.alloc rfl rfl rfl rfl rfl (fun _ => ?_)) | refine Pw.list (Pw.build rfl rfl rfl rfl ?_) | refine Pw.list (Pw.ld rfl inferInstance rfl rfl rfl ?_) | refine Pw.list (Pw.sto rfl rfl inferInstance rfl rfl rfl rfl rfl inferInstance rfl ?_))
  refine Pw.list (Pw.lit22 rfl rfl rfl rfl rfl rfl rfl rfl rfl rfl rfl (fun g2 => freeHead ?_))
  have hrqh : rq ⟨qn h, qd h, z1⟩ = h := rv_q hz.p
  have hfm : formedR (qn h) (qd h) = true := hz.formed (by omega)
  have hr : rndS [⟨qn h, qd h, z1⟩, ⟨qn h, qd h, z1⟩] [0, 1] = ([natL 1, natL 0], 0) := by
    have e : rndS [⟨qn h, qd h, z1⟩, ⟨qn h, qd h, z1⟩] [0, 1] = (wholeQ ([⟨qn h, qd h, z1⟩, ⟨qn h, qd h, z1⟩].map rq) [0, 1], 0) := if_neg (by simp [hfm])
    rw [e]
    show (wholeQ [rq ⟨qn h, qd h, z1⟩, rq ⟨qn h, qd h, z1⟩] [0, 1], (0 : Int)) = _
    rw [hrqh, hw]
  have hc := pRoundA_ct 1 [⟨qn h, qd h, z1⟩, ⟨qn h, qd h, z1⟩] (some ⟨g2, 0, none⟩, 2) [0, 1] (fun s hs => by
    simp only [List.mem_cons, List.not_mem_nil, or_false, or_self] at hs
    subst hs; exact ⟨qn_lm h, qd_lm h⟩) (fun s hs => by
    simp only [List.mem_cons, List.not_mem_nil, or_false, or_self] at hs
    subst hs; exact ⟨hz.ln, hz.ld⟩) (by simp) (by omega) (by
      show Ord [rq ⟨qn h, qd h, z1⟩, rq ⟨qn h, qd h, z1⟩] [0, 1]
      rw [hrqh]; exact ho)
  rw [hr] at hc
  refine Pw.list (Pw.call hc rfl rfl rfl (by kernel_rfl) rfl rfl (fun w h1 => rows_of_row (ex := []) (fact0 h1) (fun _ _ => rfl) (fun y hy => by
    simp only [List.mem_cons, List.not_mem_nil, or_false, or_self] at hy
    subst hy; exact (hv w h1 : QW h z1 w)) (by simp) (by simp [maxLen]) (by omega)) ?_)
  rintro ⟨P1, A1, c1⟩ hP1
  dsimp only at hP1 ⊢
  obtain ⟨⟨f, y1⟩, ⟨f2, y2⟩, rfl⟩ : ∃ p q, P1 = [p, q] := by
    have := congrArg List.length hP1
    rw [List.length_map] at this
    match P1, this with
    | [p, q], _ => exact ⟨p, q, rfl⟩
  obtain ⟨rfl, rfl⟩ : f = natL 1 ∧ f2 = natL 0 := by simpa using hP1
  have hl1 : (natL 1).length = 1 := by rw [natL_one]; rfl
  repeat (first | (with_reducible first | refine Pw.seq ?_ | refine Pw.region ?_ | refine Pw.nil ?_ | refine Pw.then_ ?_ | refine Pw.skip ?_ | refine Pw.block ?_ | refine Pw.exit ?_ | refine Pw.inX ?_ | refine Pw.inN ?_ | refine Pw.inR ?_ | refine Pw.thenX ?_ | refine Pw.thenR ?_ | refine Pw.ret ?_) | refine Pw.list (Pw.pure rfl rfl rfl ?_) | refine Pw.inY rfl ?_ | refine Pw.list (Pw.off rfl rfl ?_) | refine Pw.condT rfl ?_ | refine Pw.condF rfl ?_ | refine Pw.list (Pw.box rfl rfl rfl rfl (fun _ => ?_)) | refine Pw.list (Pw.alloc rfl rfl rfl rfl rfl (fun _ => ?_)) | refine Pw.list (Pw.build rfl rfl rfl rfl ?_) | refine Pw.list (Pw.ld rfl inferInstance rfl rfl rfl ?_) | refine Pw.list (Pw.sto rfl rfl inferInstance rfl rfl rfl rfl rfl inferInstance rfl ?_))
  refine Pw.list (Pw.index rfl rfl rfl rfl (Int.le_refl 0) (by show (0 : Int) < 2; omega) (fun w h1 => (fact0 h1 : NS [(natL 1, y1), (natL 0, y2)] (A1, c1) w).has (i := 0) (Int.le_refl 0) (by show (0 : Int) < 2; omega)) rfl rfl ?_)
  rintro ad rfl
  refine Pw.list (Pw.loadC1 (natL 1, y1) rfl inferInstance rfl rfl rfl rfl rfl rfl ?_)
  refine Pw.re (d := 26) (v' := .slice y1.1 1 y1.2) rfl (by show Value.slice _ (natL 1).length _ = _; rw [hl1]) ?_
  repeat (first | (with_reducible first | refine Pw.seq ?_ | refine Pw.region ?_ | refine Pw.nil ?_ | refine Pw.then_ ?_ | refine Pw.skip ?_ | refine Pw.block ?_ | refine Pw.exit ?_ | refine Pw.inX ?_ | refine Pw.inN ?_ | refine Pw.inR ?_ | refine Pw.thenX ?_ | refine Pw.thenR ?_ | refine Pw.ret ?_) | refine Pw.list (Pw.pure rfl rfl rfl ?_) | refine Pw.inY rfl ?_ | refine Pw.list (Pw.off rfl rfl ?_) | refine Pw.condT rfl ?_ | refine Pw.condF rfl ?_ | refine Pw.list (Pw.box rfl rfl rfl rfl (fun _ => ?_)) | refine Pw.list (Pw.alloc rfl rfl rfl rfl rfl (fun _ => ?_)) | refine Pw.list (Pw.build rfl rfl rfl rfl ?_) | refine Pw.list (Pw.ld rfl inferInstance rfl rfl rfl ?_) | refine Pw.list (Pw.sto rfl rfl inferInstance rfl rfl rfl rfl rfl inferInstance rfl ?_))
  exact Pw.ret_ (x := ()) (.tmp rfl .nil) rfl trivial (fun w h => by trivial)
end Go.Proofs.Wk
/- The law WholeNear walked. -/
namespace Go.Proofs.Wk
open Go.RowKit
set_option maxRecDepth 100000
set_option maxHeartbeats 4000000
attribute [local irreducible] Pw OpG
set_option linter.unusedVariables false
set_option linter.unusedSimpArgs false
theorem qCmpN_ct {a b : Int} (u v : Option Addr × Nat) (ha : 0 ≤ a) (hb : 0 ≤ b) {m : Nat} (la : a < pw m) (lb : b < pw m) (hm : m ≤ 400) : Ct Try.prog 24 #[sl (natL a) u, sl (natL b) v] (fun W => S1 (natL a) u W ∧ S1 (natL b) v W) (fun _ : Unit => .int .i64 (cmpS a b)) Tt (fun _ _ => True) := by
  have l1 := natL_len_le ha la; have l2 := natL_len_le hb lb
  have hc := Cmp_ct (natL a) (natL b) u v (natL_fm a).1 (natL_fm b).1 (by omega) (by omega)
  have e : cmpF (natL a) (natL b) = cmpS a b := by
    unfold cmpF; rw [if_pos ⟨fmB_natL (by omega), fmB_natL (by omega)⟩, val_natL ha, val_natL hb]
  rwa [e] at hc
theorem sum_bound {B : Int} (hB : 0 ≤ B) : ∀ (l : List (List Int)), (∀ f ∈ l, 0 ≤ val f ∧ val f ≤ B) → 0 ≤ sumI (l.map val) ∧ sumI (l.map val) ≤ (l.length : Int) * B := by
  refine snoc_ind (fun _ => ⟨Int.le_refl _, by simp [sumI]⟩) (fun l x h hx => ?_)
  obtain ⟨h1, h2⟩ := h (fun y hy => hx y (List.mem_append_left _ hy))
  obtain ⟨h3, h4⟩ := hx x (List.mem_append_right _ (List.mem_singleton_self _))
  rw [List.map_append, List.map_singleton, sumI_snoc, List.length_append, List.length_singleton, Int.natCast_add, Int.add_mul]
  constructor
  · omega
  · have : ((1 : Nat) : Int) * B = B := by simp
    omega
theorem cmpS_eq {a b : Int} : cmpS a b = 0 ↔ a = b := by
  unfold cmpS
  by_cases h : a < b
  · rw [if_pos h]; omega
  · rw [if_neg h]; by_cases h2 : a = b
    · rw [if_pos h2]; simp [h2]
    · rw [if_neg h2]; omega
theorem WholeNear_ct (l : List Rt) (x : Option Addr × Nat) (hw : ∀ s ∈ l, RtW s) :
    Ct Try.prog 5 #[rsV l x] (RS l x) (fun _ : Unit => .bool true) Tt (fun _ _ => True) := by
  obtain ⟨A, c⟩ := x
  refine Ct.start Try.func5 rfl rfl (slots_of rfl slots1) (fun D w0 => ?_)
  repeat (first | (with_reducible first | refine Pw.seq ?_ | refine Pw.region ?_ | refine Pw.nil ?_ | refine Pw.then_ ?_ | refine Pw.skip ?_ | refine Pw.block ?_ | refine Pw.exit ?_ | refine Pw.inX ?_ | refine Pw.inN ?_ | refine Pw.inR ?_ | refine Pw.thenX ?_ | refine Pw.thenR ?_ | refine Pw.ret ?_) | refine Pw.list (Pw.pure rfl rfl rfl ?_) | refine Pw.inY rfl ?_ | refine Pw.list (Pw.off rfl rfl ?_) | refine Pw.condT rfl ?_ | refine Pw.condF rfl ?_ | refine Pw.list (Pw.box rfl rfl rfl rfl (fun _ => ?_)) | refine Pw.list (Pw.alloc rfl rfl rfl rfl rfl (fun _ => ?_)) | refine Pw.list (Pw.build rfl rfl rfl rfl ?_) | refine Pw.list (Pw.ld rfl inferInstance rfl rfl rfl ?_) | refine Pw.list (Pw.sto rfl rfl inferInstance rfl rfl rfl rfl rfl inferInstance rfl ?_))
  refine Pw.list (Pw.call wawake_ct rfl rfl rfl (by kernel_rfl) rfl rfl (fun w h => trivial) ?_)
  intro _ _
  repeat (first | (with_reducible first | refine Pw.seq ?_ | refine Pw.region ?_ | refine Pw.nil ?_ | refine Pw.then_ ?_ | refine Pw.skip ?_ | refine Pw.block ?_ | refine Pw.exit ?_ | refine Pw.inX ?_ | refine Pw.inN ?_ | refine Pw.inR ?_ | refine Pw.thenX ?_ | refine Pw.thenR ?_ | refine Pw.ret ?_) | refine Pw.list (Pw.pure rfl rfl rfl ?_) | refine Pw.inY rfl ?_ | refine Pw.list (Pw.off rfl rfl ?_) | refine Pw.condT rfl ?_ | refine Pw.condF rfl ?_ | refine Pw.list (Pw.box rfl rfl rfl rfl (fun _ => ?_)) | refine Pw.list (Pw.alloc rfl rfl rfl rfl rfl (fun _ => ?_)) | refine Pw.list (Pw.build rfl rfl rfl rfl ?_) | refine Pw.list (Pw.ld rfl inferInstance rfl rfl rfl ?_) | refine Pw.list (Pw.sto rfl rfl inferInstance rfl rfl rfl rfl rfl inferInstance rfl ?_))
  refine Pw.list (Pw.call (wfew_ct l (A, c)) rfl rfl rfl (by kernel_rfl) rfl rfl (fun w h => (hv w h)) ?_)
  intro r hr
  cases r
  · repeat (first | (with_reducible first | refine Pw.seq ?_ | refine Pw.region ?_ | refine Pw.nil ?_ | refine Pw.then_ ?_ | refine Pw.skip ?_ | refine Pw.block ?_ | refine Pw.exit ?_ | refine Pw.inX ?_ | refine Pw.inN ?_ | refine Pw.inR ?_ | refine Pw.thenX ?_ | refine Pw.thenR ?_ | refine Pw.ret ?_) | refine Pw.list (Pw.pure rfl rfl rfl ?_) | refine Pw.inY rfl ?_ | refine Pw.list (Pw.off rfl rfl ?_) | refine Pw.condT rfl ?_ | refine Pw.condF rfl ?_ | refine Pw.list (Pw.box rfl rfl rfl rfl (fun _ => ?_)) | refine Pw.list (Pw.alloc rfl rfl rfl rfl rfl (fun _ => ?_)) | refine Pw.list (Pw.build rfl rfl rfl rfl ?_) | refine Pw.list (Pw.ld rfl inferInstance rfl rfl rfl ?_) | refine Pw.list (Pw.sto rfl rfl inferInstance rfl rfl rfl rfl rfl inferInstance rfl ?_))
    refine Pw.list (Pw.call wawake_ct rfl rfl rfl (by kernel_rfl) rfl rfl (fun w h => trivial) ?_)
    intro _ _
    repeat (first | (with_reducible first | refine Pw.seq ?_ | refine Pw.region ?_ | refine Pw.nil ?_ | refine Pw.then_ ?_ | refine Pw.skip ?_ | refine Pw.block ?_ | refine Pw.exit ?_ | refine Pw.inX ?_ | refine Pw.inN ?_ | refine Pw.inR ?_ | refine Pw.thenX ?_ | refine Pw.thenR ?_ | refine Pw.ret ?_) | refine Pw.list (Pw.pure rfl rfl rfl ?_) | refine Pw.inY rfl ?_ | refine Pw.list (Pw.off rfl rfl ?_) | refine Pw.condT rfl ?_ | refine Pw.condF rfl ?_ | refine Pw.list (Pw.box rfl rfl rfl rfl (fun _ => ?_)) | refine Pw.list (Pw.alloc rfl rfl rfl rfl rfl (fun _ => ?_)) | refine Pw.list (Pw.build rfl rfl rfl rfl ?_) | refine Pw.list (Pw.ld rfl inferInstance rfl rfl rfl ?_) | refine Pw.list (Pw.sto rfl rfl inferInstance rfl rfl rfl rfl rfl inferInstance rfl ?_))
    exact Pw.ret_ (x := ()) (.tmp rfl .nil) rfl trivial (fun w h => by trivial)
  obtain ⟨hl, hs⟩ := hr rfl
  have hb : ∀ s ∈ l, s.a.length ≤ 6 ∧ s.b.length ≤ 6 := fun s h => by have := hs s h; omega
  have hz : ∀ q ∈ l.map rq, Sz 6 q := fun q hq => by
    obtain ⟨s, hs, rfl⟩ := List.mem_map.1 hq
    exact rq_sz (hw s hs) (hb s hs).1 (hb s hs).2 (by omega)
  obtain ⟨o, ho⟩ := ord_ex (m := 6) (by omega) (l.map rq) hz
  repeat (first | (with_reducible first | refine Pw.seq ?_ | refine Pw.region ?_ | refine Pw.nil ?_ | refine Pw.then_ ?_ | refine Pw.skip ?_ | refine Pw.block ?_ | refine Pw.exit ?_ | refine Pw.inX ?_ | refine Pw.inN ?_ | refine Pw.inR ?_ | refine Pw.thenX ?_ | refine Pw.thenR ?_ | refine Pw.ret ?_) | refine Pw.list (Pw.pure rfl rfl rfl ?_) | refine Pw.inY rfl ?_ | refine Pw.list (Pw.off rfl rfl ?_) | refine Pw.condT rfl ?_ | refine Pw.condF rfl ?_ | refine Pw.list (Pw.box rfl rfl rfl rfl (fun _ => ?_)) | refine Pw.list (Pw.alloc rfl rfl rfl rfl rfl (fun _ => ?_)) | refine Pw.list (Pw.build rfl rfl rfl rfl ?_) | refine Pw.list (Pw.ld rfl inferInstance rfl rfl rfl ?_) | refine Pw.list (Pw.sto rfl rfl inferInstance rfl rfl rfl rfl rfl inferInstance rfl ?_))
  refine Pw.list (Pw.call (wtheirs_ct l (A, c) (by omega)) rfl rfl rfl (by kernel_rfl) rfl rfl (fun w h => (hv w h)) ?_)
  intro z _
  repeat (first | (with_reducible first | refine Pw.seq ?_ | refine Pw.region ?_ | refine Pw.nil ?_ | refine Pw.then_ ?_ | refine Pw.skip ?_ | refine Pw.block ?_ | refine Pw.exit ?_ | refine Pw.inX ?_ | refine Pw.inN ?_ | refine Pw.inR ?_ | refine Pw.thenX ?_ | refine Pw.thenR ?_ | refine Pw.ret ?_) | refine Pw.list (Pw.pure rfl rfl rfl ?_) | refine Pw.inY rfl ?_ | refine Pw.list (Pw.off rfl rfl ?_) | refine Pw.condT rfl ?_ | refine Pw.condF rfl ?_ | refine Pw.list (Pw.box rfl rfl rfl rfl (fun _ => ?_)) | refine Pw.list (Pw.alloc rfl rfl rfl rfl rfl (fun _ => ?_)) | refine Pw.list (Pw.build rfl rfl rfl rfl ?_) | refine Pw.list (Pw.ld rfl inferInstance rfl rfl rfl ?_) | refine Pw.list (Pw.sto rfl rfl inferInstance rfl rfl rfl rfl rfl inferInstance rfl ?_))
  refine Pw.list (Pw.call (pRoundA_ct 6 l z o hw hb hl (by omega) ho) rfl rfl rfl (by kernel_rfl) rfl rfl (fun w h => (hv w h)) ?_)
  rintro ⟨P1, A1, c1⟩ hP1
  dsimp only at hP1 ⊢
  cases hF : l.any (fun s => !formedR s.a s.b)
  case true =>
    have e : rndS l o = ([], 1) := if_pos hF
    rw [e]
    repeat (first | (with_reducible first | refine Pw.seq ?_ | refine Pw.region ?_ | refine Pw.nil ?_ | refine Pw.then_ ?_ | refine Pw.skip ?_ | refine Pw.block ?_ | refine Pw.exit ?_ | refine Pw.inX ?_ | refine Pw.inN ?_ | refine Pw.inR ?_ | refine Pw.thenX ?_ | refine Pw.thenR ?_ | refine Pw.ret ?_) | refine Pw.list (Pw.pure rfl rfl rfl ?_) | refine Pw.inY rfl ?_ | refine Pw.list (Pw.off rfl rfl ?_) | refine Pw.condT rfl ?_ | refine Pw.condF rfl ?_ | refine Pw.list (Pw.box rfl rfl rfl rfl (fun _ => ?_)) | refine Pw.list (Pw.alloc rfl rfl rfl rfl rfl (fun _ => ?_)) | refine Pw.list (Pw.build rfl rfl rfl rfl ?_) | refine Pw.list (Pw.ld rfl inferInstance rfl rfl rfl ?_) | refine Pw.list (Pw.sto rfl rfl inferInstance rfl rfl rfl rfl rfl inferInstance rfl ?_))
    exact Pw.ret_ (x := ()) (.tmp rfl .nil) rfl trivial (fun w h => by trivial)
  have eS : rndS l o = (wholeQ (l.map rq) o, 0) := if_neg (by rw [hF]; simp)
  rw [eS] at hP1 ⊢
  dsimp only at hP1
  have hfm : ∀ s ∈ l, ∃ (y : Rat) (z : Z2), s = ⟨qn y, qd y, z⟩ ∧ Sz 6 y ∧ rq s = y := fun s hs => by
    have := List.any_eq_false.1 hF s hs
    exact formed_ex (hw s hs) (by simpa using this) (hb s hs).1 (hb s hs).2
  have hpz : ∀ x ∈ l.map rq, 0 ≤ x := fun x hx => (hz x hx).p
  have hwl := wholeQ_len (l.map rq) o
  have hwl2 : (l.map rq).length = l.length := List.length_map ..
  rw [hwl2] at hwl
  have hl1 : P1.length = l.length := by rw [← hwl, ← hP1, List.length_map]
  have hpp : pw 8 = pw 7 * 4294967296 := pw_add 7 1
  have hp7 := pw_pos 7
  have hbd : ∀ i, 0 ≤ sumI (((wholeQ (l.map rq) o).take i).map val) ∧ sumI (((wholeQ (l.map rq) o).take i).map val) < pw 8 := fun i => by
    obtain ⟨h1, h2⟩ := sum_bound (B := pw 7) (by omega) ((wholeQ (l.map rq) o).take i) (fun f hf => by
      obtain ⟨_, _, h3, h4⟩ := wholeQ_el ho hz (List.mem_of_mem_take hf)
      exact ⟨h3, by have h6 : val f < pw 7 := h4; omega⟩)
    refine ⟨h1, ?_⟩
    have h5 : (((wholeQ (l.map rq) o).take i).length : Int) * pw 7 ≤ 20 * pw 7 := Int.mul_le_mul_of_nonneg_right (by rw [List.length_take, hwl]; omega) (by omega)
    omega
  rw [hwl]
  repeat (first | (with_reducible first | refine Pw.seq ?_ | refine Pw.region ?_ | refine Pw.nil ?_ | refine Pw.then_ ?_ | refine Pw.skip ?_ | refine Pw.block ?_ | refine Pw.exit ?_ | refine Pw.inX ?_ | refine Pw.inN ?_ | refine Pw.inR ?_ | refine Pw.thenX ?_ | refine Pw.thenR ?_ | refine Pw.ret ?_) | refine Pw.list (Pw.pure rfl rfl rfl ?_) | refine Pw.inY rfl ?_ | refine Pw.list (Pw.off rfl rfl ?_) | refine Pw.condT rfl ?_ | refine Pw.condF rfl ?_ | refine Pw.list (Pw.box rfl rfl rfl rfl (fun _ => ?_)) | refine Pw.list (Pw.alloc rfl rfl rfl rfl rfl (fun _ => ?_)) | refine Pw.list (Pw.build rfl rfl rfl rfl ?_) | refine Pw.list (Pw.ld rfl inferInstance rfl rfl rfl ?_) | refine Pw.list (Pw.sto rfl rfl inferInstance rfl rfl rfl rfl rfl inferInstance rfl ?_))
  refine Pw.list (Pw.call (qOf_ct (n := 0) (by omega) (by omega)) rfl rfl rfl (by kernel_rfl) rfl rfl (fun w h => trivial) ?_)
  intro z5 _
  repeat (first | (with_reducible first | refine Pw.seq ?_ | refine Pw.region ?_ | refine Pw.nil ?_ | refine Pw.then_ ?_ | refine Pw.skip ?_ | refine Pw.block ?_ | refine Pw.exit ?_ | refine Pw.inX ?_ | refine Pw.inN ?_ | refine Pw.inR ?_ | refine Pw.thenX ?_ | refine Pw.thenR ?_ | refine Pw.ret ?_) | refine Pw.list (Pw.pure rfl rfl rfl ?_) | refine Pw.inY rfl ?_ | refine Pw.list (Pw.off rfl rfl ?_) | refine Pw.condT rfl ?_ | refine Pw.condF rfl ?_ | refine Pw.list (Pw.box rfl rfl rfl rfl (fun _ => ?_)) | refine Pw.list (Pw.alloc rfl rfl rfl rfl rfl (fun _ => ?_)) | refine Pw.list (Pw.build rfl rfl rfl rfl ?_) | refine Pw.list (Pw.ld rfl inferInstance rfl rfl rfl ?_) | refine Pw.list (Pw.sto rfl rfl inferInstance rfl rfl rfl rfl rfl inferInstance rfl ?_))
  rename_i g5
  refine Pw.list (Pw.call (Of_ct 0) rfl rfl rfl (by kernel_rfl) rfl rfl (fun w h => trivial) ?_)
  intro z7 _
  rw [show ofN 0 = natL (sumI (((wholeQ (l.map rq) o).take 0).map val)) by rw [ofN_natL (by omega) (by omega)]; rfl]
  repeat (first | (with_reducible first | refine Pw.seq ?_ | refine Pw.region ?_ | refine Pw.nil ?_ | refine Pw.then_ ?_ | refine Pw.skip ?_ | refine Pw.block ?_ | refine Pw.exit ?_ | refine Pw.inX ?_ | refine Pw.inN ?_ | refine Pw.inR ?_ | refine Pw.thenX ?_ | refine Pw.thenR ?_ | refine Pw.ret ?_) | refine Pw.list (Pw.pure rfl rfl rfl ?_) | refine Pw.inY rfl ?_ | refine Pw.list (Pw.off rfl rfl ?_) | refine Pw.condT rfl ?_ | refine Pw.condF rfl ?_ | refine Pw.list (Pw.box rfl rfl rfl rfl (fun _ => ?_)) | refine Pw.list (Pw.alloc rfl rfl rfl rfl rfl (fun _ => ?_)) | refine Pw.list (Pw.build rfl rfl rfl rfl ?_) | refine Pw.list (Pw.ld rfl inferInstance rfl rfl rfl ?_) | refine Pw.list (Pw.sto rfl rfl inferInstance rfl rfl rfl rfl rfl inferInstance rfl ?_))
  refine Pw.facts (G' := [QW (SO l 0) z5, S1 (natL (sumI (((wholeQ (l.map rq) o).take 0).map val))) z7, NS P1 (A1, c1), RS l (A, c)]) (fun w h => allCons (hv w h : QW ((0 : Int) : Rat) z5 w) (allCons (hv w h) (allCons (hv w h) (allCons (hv w h) allNil)))) ?_
  refine Pw.loopJ (σ := Nat × Z2 × (Option Addr × Nat)) (fun t => t.1 ≤ l.length) (fun t => ⟨[(0, .slice A l.length c), (3, .slice A1 l.length c1), (5, .pointer (some ⟨g5, 0, none⟩)), (7, sl (natL (sumI (((wholeQ (l.map rq) o).take t.1).map val))) t.2.2), (41, .int .i64 l.length), (42, .int .i64 t.1)], [⟨g5, row [sl (qn (SO l t.1)) t.2.1.1, sl (qd (SO l t.1)) t.2.1.2] 39⟩], [QW (SO l t.1) t.2.1, S1 (natL (sumI (((wholeQ (l.map rq) o).take t.1).map val))) t.2.2, NS P1 (A1, c1), RS l (A, c)]⟩) (fun t => l.length - t.1) (0, z5, z7) (Nat.zero_le _) (Pw.enter ⟨rfl, rfl, rfl, rfl, rfl, rfl, trivial⟩ (fun w h => h)) ?_
  rintro ⟨i, z5, z7⟩ hi
  dsimp only at hi ⊢
  repeat (first | (with_reducible first | refine Pw.seq ?_ | refine Pw.region ?_ | refine Pw.nil ?_ | refine Pw.then_ ?_ | refine Pw.skip ?_ | refine Pw.block ?_ | refine Pw.exit ?_ | refine Pw.inX ?_ | refine Pw.inN ?_ | refine Pw.inR ?_ | refine Pw.thenX ?_ | refine Pw.thenR ?_ | refine Pw.ret ?_) | refine Pw.list (Pw.pure rfl rfl rfl ?_) | refine Pw.inY rfl ?_ | refine Pw.list (Pw.off rfl rfl ?_) | refine Pw.condT rfl ?_ | refine Pw.condF rfl ?_ | refine Pw.list (Pw.box rfl rfl rfl rfl (fun _ => ?_)) | refine Pw.list (Pw.alloc rfl rfl rfl rfl rfl (fun _ => ?_)) | refine Pw.list (Pw.build rfl rfl rfl rfl ?_) | refine Pw.list (Pw.ld rfl inferInstance rfl rfl rfl ?_) | refine Pw.list (Pw.sto rfl rfl inferInstance rfl rfl rfl rfl rfl inferInstance rfl ?_))
  refine Pw.condD rfl (fun c3 => ?_) (fun c3 => ?_)
  · obtain ⟨s, hsi, hsm⟩ := get_at (show i < l.length by omega)
    have hS := SO_sz hz i hi
    have eS1 := SO_snoc hsi
    obtain ⟨y, zs, rfl, hy, hq⟩ := hfm s hsm
    rw [hq] at eS1
    have hyi : (l.map rq)[i]? = some y := by rw [List.getElem?_map, hsi]; exact congrArg some hq
    obtain ⟨d, hd, hg⟩ := wholeQ_get ho hpz (i := i) (by omega)
    rw [qAt_get hyi] at hg
    have h0 := floor_nn hy.p
    have h1 := sz_floor hy
    have hp67 : pw 7 = pw 6 * 4294967296 := pw_add 6 1
    have hp6 := pw_pos 6
    obtain ⟨⟨f, y1⟩, hp, hpm⟩ := get_at (show i < P1.length by omega)
    have hf : f = natL (y.floor + d) := by
      have : (P1.map Prod.fst)[i]? = some f := by rw [List.getElem?_map, hp]; rfl
      rw [hP1, hg] at this
      exact (Option.some.inj this).symm
    subst hf
    have eV : sumI (((wholeQ (l.map rq) o).take (i + 1)).map val) = sumI (((wholeQ (l.map rq) o).take i).map val) + (y.floor + d) := by
      rw [map_take_snoc hg, sumI_snoc, val_natL (by omega)]
    have hb1 := hbd i
    have hadd := qAddN_ct (a := sumI (((wholeQ (l.map rq) o).take i).map val)) (b := y.floor + d) z7 y1 hb1.1 (by omega) (m := 8) hb1.2 (by omega) (by omega)
    rw [← eV] at hadd
    have hup := fun u v => qAddN_ct (a := y.floor) (b := 1) u v h0 (by omega) (m := 7) (by omega) (by omega) (by omega)
    have hc1 := fun u v => qCmpN_ct (a := y.floor + d) (b := y.floor) u v (by omega) h0 (m := 8) (by omega) (by omega) (by omega)
    have hc2 := fun u v => qCmpN_ct (a := y.floor + d) (b := y.floor + 1) u v (by omega) (by omega) (m := 8) (by omega) (by omega) (by omega)
    refine Pw.use (p := A.isSome = true) (fun w h => (hv w h : RS l (A, c) w).has (Int.natCast_nonneg i) c3) (fun hA => ?_)
    refine Pw.use (p := A1.isSome = true) (fun w h => (hv w h : NS P1 (A1, c1) w).has (i := (i : Int)) (by omega) (by omega)) (fun hB => ?_)
    obtain ⟨ad, rfl⟩ := Option.isSome_iff_exists.1 hA
    obtain ⟨bd, rfl⟩ := Option.isSome_iff_exists.1 hB
    have hin : i * (6 + 1) ≤ 19 * 7 := Nat.mul_le_mul (by omega) (by omega)
    repeat (first | (with_reducible first | refine Pw.seq ?_ | refine Pw.region ?_ | refine Pw.nil ?_ | refine Pw.then_ ?_ | refine Pw.skip ?_ | refine Pw.block ?_ | refine Pw.exit ?_ | refine Pw.inX ?_ | refine Pw.inN ?_ | refine Pw.inR ?_ | refine Pw.thenX ?_ | refine Pw.thenR ?_ | refine Pw.ret ?_) | refine Pw.list (Pw.pure rfl rfl rfl ?_) | refine Pw.inY rfl ?_ | refine Pw.list (Pw.off rfl rfl ?_) | refine Pw.condT rfl ?_ | refine Pw.condF rfl ?_ | refine Pw.list (Pw.box rfl rfl rfl rfl (fun _ => ?_)) | refine Pw.list (Pw.alloc rfl rfl rfl rfl rfl (fun _ => ?_)) | refine Pw.list (Pw.build rfl rfl rfl rfl ?_) | refine Pw.list (Pw.ld rfl inferInstance rfl rfl rfl ?_) | refine Pw.list (Pw.sto rfl rfl inferInstance rfl rfl rfl rfl rfl inferInstance rfl ?_))
    refine Pw.list (Pw.indexS rfl rfl rfl rfl (Int.natCast_nonneg i) c3 rfl rfl ?_)
    refine Pw.list (Pw.loadR ⟨qn y, qd y, zs⟩ rfl inferInstance rfl (by rw [Int.toNat_natCast]; exact hsi) (by kernel_rfl) rfl rfl ?_)
    refine Pw.re (d := 48) (v' := qt y zs) rfl rfl ?_
    refine Pw.list (Pw.call (Theirs_ct (qn y) (qd y) zs) rfl rfl rfl (by kernel_rfl) rfl rfl (fun w h => trivial) ?_)
    intro _ _
    repeat (first | (with_reducible first | refine Pw.seq ?_ | refine Pw.region ?_ | refine Pw.nil ?_ | refine Pw.then_ ?_ | refine Pw.skip ?_ | refine Pw.block ?_ | refine Pw.exit ?_ | refine Pw.inX ?_ | refine Pw.inN ?_ | refine Pw.inR ?_ | refine Pw.thenX ?_ | refine Pw.thenR ?_ | refine Pw.ret ?_) | refine Pw.list (Pw.pure rfl rfl rfl ?_) | refine Pw.inY rfl ?_ | refine Pw.list (Pw.off rfl rfl ?_) | refine Pw.condT rfl ?_ | refine Pw.condF rfl ?_ | refine Pw.list (Pw.box rfl rfl rfl rfl (fun _ => ?_)) | refine Pw.list (Pw.alloc rfl rfl rfl rfl rfl (fun _ => ?_)) | refine Pw.list (Pw.build rfl rfl rfl rfl ?_) | refine Pw.list (Pw.ld rfl inferInstance rfl rfl rfl ?_) | refine Pw.list (Pw.sto rfl rfl inferInstance rfl rfl rfl rfl rfl inferInstance rfl ?_))
    refine freeHead ?_
    repeat (first | (with_reducible first | refine Pw.seq ?_ | refine Pw.region ?_ | refine Pw.nil ?_ | refine Pw.then_ ?_ | refine Pw.skip ?_ | refine Pw.block ?_ | refine Pw.exit ?_ | refine Pw.inX ?_ | refine Pw.inN ?_ | refine Pw.inR ?_ | refine Pw.thenX ?_ | refine Pw.thenR ?_ | refine Pw.ret ?_) | refine Pw.list (Pw.pure rfl rfl rfl ?_) | refine Pw.inY rfl ?_ | refine Pw.list (Pw.off rfl rfl ?_) | refine Pw.condT rfl ?_ | refine Pw.condF rfl ?_ | refine Pw.list (Pw.box rfl rfl rfl rfl (fun _ => ?_)) | refine Pw.list (Pw.alloc rfl rfl rfl rfl rfl (fun _ => ?_)) | refine Pw.list (Pw.build rfl rfl rfl rfl ?_) | refine Pw.list (Pw.ld rfl inferInstance rfl rfl rfl ?_) | refine Pw.list (Pw.sto rfl rfl inferInstance rfl rfl rfl rfl rfl inferInstance rfl ?_))
    refine Pw.list (Pw.call (qAdd_ct hS hy z5 zs (by omega)) rfl rfl rfl (by kernel_rfl) rfl rfl (fun w h => ⟨(hv w h), (hv w h : heldR ⟨qn y, qd y, zs⟩ w)⟩) ?_)
    intro z5' _
    rw [← eS1]
    repeat (first | (with_reducible first | refine Pw.seq ?_ | refine Pw.region ?_ | refine Pw.nil ?_ | refine Pw.then_ ?_ | refine Pw.skip ?_ | refine Pw.block ?_ | refine Pw.exit ?_ | refine Pw.inX ?_ | refine Pw.inN ?_ | refine Pw.inR ?_ | refine Pw.thenX ?_ | refine Pw.thenR ?_ | refine Pw.ret ?_) | refine Pw.list (Pw.pure rfl rfl rfl ?_) | refine Pw.inY rfl ?_ | refine Pw.list (Pw.off rfl rfl ?_) | refine Pw.condT rfl ?_ | refine Pw.condF rfl ?_ | refine Pw.list (Pw.box rfl rfl rfl rfl (fun _ => ?_)) | refine Pw.list (Pw.alloc rfl rfl rfl rfl rfl (fun _ => ?_)) | refine Pw.list (Pw.build rfl rfl rfl rfl ?_) | refine Pw.list (Pw.ld rfl inferInstance rfl rfl rfl ?_) | refine Pw.list (Pw.sto rfl rfl inferInstance rfl rfl rfl rfl rfl inferInstance rfl ?_))
    refine Pw.list (Pw.indexS rfl rfl rfl rfl (Int.natCast_nonneg i) c3 rfl rfl ?_)
    refine Pw.list (Pw.loadC1 (natL (y.floor + d), y1) rfl inferInstance rfl (by rw [Int.toNat_natCast]; exact hp) rfl rfl rfl rfl ?_)
    refine Pw.list (Pw.call hadd rfl rfl rfl (by kernel_rfl) rfl rfl (fun w h => ⟨(hv w h), (hv w h : heldN (natL (y.floor + d), y1) w)⟩) ?_)
    intro z7' _
    repeat (first | (with_reducible first | refine Pw.seq ?_ | refine Pw.region ?_ | refine Pw.nil ?_ | refine Pw.then_ ?_ | refine Pw.skip ?_ | refine Pw.block ?_ | refine Pw.exit ?_ | refine Pw.inX ?_ | refine Pw.inN ?_ | refine Pw.inR ?_ | refine Pw.thenX ?_ | refine Pw.thenR ?_ | refine Pw.ret ?_) | refine Pw.list (Pw.pure rfl rfl rfl ?_) | refine Pw.inY rfl ?_ | refine Pw.list (Pw.off rfl rfl ?_) | refine Pw.condT rfl ?_ | refine Pw.condF rfl ?_ | refine Pw.list (Pw.box rfl rfl rfl rfl (fun _ => ?_)) | refine Pw.list (Pw.alloc rfl rfl rfl rfl rfl (fun _ => ?_)) | refine Pw.list (Pw.build rfl rfl rfl rfl ?_) | refine Pw.list (Pw.ld rfl inferInstance rfl rfl rfl ?_) | refine Pw.list (Pw.sto rfl rfl inferInstance rfl rfl rfl rfl rfl inferInstance rfl ?_))
    refine Pw.list (Pw.call (qFloor_ct hy zs (by omega)) rfl rfl rfl (by kernel_rfl) rfl rfl (fun w h => (hv w h : heldR ⟨qn y, qd y, zs⟩ w)) ?_)
    intro zf _
    repeat (first | (with_reducible first | refine Pw.seq ?_ | refine Pw.region ?_ | refine Pw.nil ?_ | refine Pw.then_ ?_ | refine Pw.skip ?_ | refine Pw.block ?_ | refine Pw.exit ?_ | refine Pw.inX ?_ | refine Pw.inN ?_ | refine Pw.inR ?_ | refine Pw.thenX ?_ | refine Pw.thenR ?_ | refine Pw.ret ?_) | refine Pw.list (Pw.pure rfl rfl rfl ?_) | refine Pw.inY rfl ?_ | refine Pw.list (Pw.off rfl rfl ?_) | refine Pw.condT rfl ?_ | refine Pw.condF rfl ?_ | refine Pw.list (Pw.box rfl rfl rfl rfl (fun _ => ?_)) | refine Pw.list (Pw.alloc rfl rfl rfl rfl rfl (fun _ => ?_)) | refine Pw.list (Pw.build rfl rfl rfl rfl ?_) | refine Pw.list (Pw.ld rfl inferInstance rfl rfl rfl ?_) | refine Pw.list (Pw.sto rfl rfl inferInstance rfl rfl rfl rfl rfl inferInstance rfl ?_))
    refine Pw.list (Pw.call (Of_ct 1) rfl rfl rfl (by kernel_rfl) rfl rfl (fun w h => trivial) ?_)
    intro zu _
    rw [show ofN 1 = natL 1 from ofN_natL (by omega) (by omega)]
    repeat (first | (with_reducible first | refine Pw.seq ?_ | refine Pw.region ?_ | refine Pw.nil ?_ | refine Pw.then_ ?_ | refine Pw.skip ?_ | refine Pw.block ?_ | refine Pw.exit ?_ | refine Pw.inX ?_ | refine Pw.inN ?_ | refine Pw.inR ?_ | refine Pw.thenX ?_ | refine Pw.thenR ?_ | refine Pw.ret ?_) | refine Pw.list (Pw.pure rfl rfl rfl ?_) | refine Pw.inY rfl ?_ | refine Pw.list (Pw.off rfl rfl ?_) | refine Pw.condT rfl ?_ | refine Pw.condF rfl ?_ | refine Pw.list (Pw.box rfl rfl rfl rfl (fun _ => ?_)) | refine Pw.list (Pw.alloc rfl rfl rfl rfl rfl (fun _ => ?_)) | refine Pw.list (Pw.build rfl rfl rfl rfl ?_) | refine Pw.list (Pw.ld rfl inferInstance rfl rfl rfl ?_) | refine Pw.list (Pw.sto rfl rfl inferInstance rfl rfl rfl rfl rfl inferInstance rfl ?_))
    refine Pw.list (Pw.call (hup zf zu) rfl rfl rfl (by kernel_rfl) rfl rfl (fun w h => ⟨(hv w h), (hv w h)⟩) ?_)
    intro zp _
    repeat (first | (with_reducible first | refine Pw.seq ?_ | refine Pw.region ?_ | refine Pw.nil ?_ | refine Pw.then_ ?_ | refine Pw.skip ?_ | refine Pw.block ?_ | refine Pw.exit ?_ | refine Pw.inX ?_ | refine Pw.inN ?_ | refine Pw.inR ?_ | refine Pw.thenX ?_ | refine Pw.thenR ?_ | refine Pw.ret ?_) | refine Pw.list (Pw.pure rfl rfl rfl ?_) | refine Pw.inY rfl ?_ | refine Pw.list (Pw.off rfl rfl ?_) | refine Pw.condT rfl ?_ | refine Pw.condF rfl ?_ | refine Pw.list (Pw.box rfl rfl rfl rfl (fun _ => ?_)) | refine Pw.list (Pw.alloc rfl rfl rfl rfl rfl (fun _ => ?_)) | refine Pw.list (Pw.build rfl rfl rfl rfl ?_) | refine Pw.list (Pw.ld rfl inferInstance rfl rfl rfl ?_) | refine Pw.list (Pw.sto rfl rfl inferInstance rfl rfl rfl rfl rfl inferInstance rfl ?_))
    refine Pw.list (Pw.indexS rfl rfl rfl rfl (Int.natCast_nonneg i) c3 rfl rfl ?_)
    refine Pw.list (Pw.loadC1 (natL (y.floor + d), y1) rfl inferInstance rfl (by rw [Int.toNat_natCast]; exact hp) rfl rfl rfl rfl ?_)
    repeat (first | (with_reducible first | refine Pw.seq ?_ | refine Pw.region ?_ | refine Pw.nil ?_ | refine Pw.then_ ?_ | refine Pw.skip ?_ | refine Pw.block ?_ | refine Pw.exit ?_ | refine Pw.inX ?_ | refine Pw.inN ?_ | refine Pw.inR ?_ | refine Pw.thenX ?_ | refine Pw.thenR ?_ | refine Pw.ret ?_) | refine Pw.list (Pw.pure rfl rfl rfl ?_) | refine Pw.inY rfl ?_ | refine Pw.list (Pw.off rfl rfl ?_) | refine Pw.condT rfl ?_ | refine Pw.condF rfl ?_ | refine Pw.list (Pw.box rfl rfl rfl rfl (fun _ => ?_)) | refine Pw.list (Pw.alloc rfl rfl rfl rfl rfl (fun _ => ?_)) | refine Pw.list (Pw.build rfl rfl rfl rfl ?_) | refine Pw.list (Pw.ld rfl inferInstance rfl rfl rfl ?_) | refine Pw.list (Pw.sto rfl rfl inferInstance rfl rfl rfl rfl rfl inferInstance rfl ?_))
    refine Pw.list (Pw.call (hc1 y1 zf) rfl rfl rfl (by kernel_rfl) rfl rfl (fun w h => ⟨(hv w h : heldN (natL (y.floor + d), y1) w), (hv w h)⟩) ?_)
    intro _ _
    rcases hd with rfl | rfl
    · rw [show cmpS (y.floor + 0) y.floor = 0 from cmpS_eq.2 (by omega)]
      repeat (first | (with_reducible first | refine Pw.seq ?_ | refine Pw.region ?_ | refine Pw.nil ?_ | refine Pw.then_ ?_ | refine Pw.skip ?_ | refine Pw.block ?_ | refine Pw.exit ?_ | refine Pw.inX ?_ | refine Pw.inN ?_ | refine Pw.inR ?_ | refine Pw.thenX ?_ | refine Pw.thenR ?_ | refine Pw.ret ?_) | refine Pw.list (Pw.pure rfl rfl rfl ?_) | refine Pw.inY rfl ?_ | refine Pw.list (Pw.off rfl rfl ?_) | refine Pw.condT rfl ?_ | refine Pw.condF rfl ?_ | refine Pw.list (Pw.box rfl rfl rfl rfl (fun _ => ?_)) | refine Pw.list (Pw.alloc rfl rfl rfl rfl rfl (fun _ => ?_)) | refine Pw.list (Pw.build rfl rfl rfl rfl ?_) | refine Pw.list (Pw.ld rfl inferInstance rfl rfl rfl ?_) | refine Pw.list (Pw.sto rfl rfl inferInstance rfl rfl rfl rfl rfl inferInstance rfl ?_))
      refine Pw.re (d := 42) (v' := .int .i64 ((i + 1 : Nat) : Int)) rfl (congrArg (Value.int .i64) (i64s (n := 100000) (by omega) (by omega))) ?_
      exact Pw.again (i + 1, z5', z7') (by show i + 1 ≤ l.length; omega) (by show l.length - (i + 1) < l.length - i; omega) ⟨rfl, rfl, rfl, rfl, rfl, rfl, trivial⟩ rfl (fun w h => allCons (hv w h) (allCons (hv w h) (allCons (hv w h) (allCons (hv w h) allNil))))
    · refine Pw.list (Pw.pure rfl rfl rfl ?_)
      refine Pw.re (d := 82) (v' := .bool true) rfl (congrArg Value.bool (decide_eq_true (fun e => by have := cmpS_eq.1 e; omega))) ?_
      repeat (first | (with_reducible first | refine Pw.seq ?_ | refine Pw.region ?_ | refine Pw.nil ?_ | refine Pw.then_ ?_ | refine Pw.skip ?_ | refine Pw.block ?_ | refine Pw.exit ?_ | refine Pw.inX ?_ | refine Pw.inN ?_ | refine Pw.inR ?_ | refine Pw.thenX ?_ | refine Pw.thenR ?_ | refine Pw.ret ?_) | refine Pw.list (Pw.pure rfl rfl rfl ?_) | refine Pw.inY rfl ?_ | refine Pw.list (Pw.off rfl rfl ?_) | refine Pw.condT rfl ?_ | refine Pw.condF rfl ?_ | refine Pw.list (Pw.box rfl rfl rfl rfl (fun _ => ?_)) | refine Pw.list (Pw.alloc rfl rfl rfl rfl rfl (fun _ => ?_)) | refine Pw.list (Pw.build rfl rfl rfl rfl ?_) | refine Pw.list (Pw.ld rfl inferInstance rfl rfl rfl ?_) | refine Pw.list (Pw.sto rfl rfl inferInstance rfl rfl rfl rfl rfl inferInstance rfl ?_))
      refine Pw.list (Pw.indexS rfl rfl rfl rfl (Int.natCast_nonneg i) c3 rfl rfl ?_)
      refine Pw.list (Pw.loadC1 (natL (y.floor + 1), y1) rfl inferInstance rfl (by rw [Int.toNat_natCast]; exact hp) rfl rfl rfl rfl ?_)
      repeat (first | (with_reducible first | refine Pw.seq ?_ | refine Pw.region ?_ | refine Pw.nil ?_ | refine Pw.then_ ?_ | refine Pw.skip ?_ | refine Pw.block ?_ | refine Pw.exit ?_ | refine Pw.inX ?_ | refine Pw.inN ?_ | refine Pw.inR ?_ | refine Pw.thenX ?_ | refine Pw.thenR ?_ | refine Pw.ret ?_) | refine Pw.list (Pw.pure rfl rfl rfl ?_) | refine Pw.inY rfl ?_ | refine Pw.list (Pw.off rfl rfl ?_) | refine Pw.condT rfl ?_ | refine Pw.condF rfl ?_ | refine Pw.list (Pw.box rfl rfl rfl rfl (fun _ => ?_)) | refine Pw.list (Pw.alloc rfl rfl rfl rfl rfl (fun _ => ?_)) | refine Pw.list (Pw.build rfl rfl rfl rfl ?_) | refine Pw.list (Pw.ld rfl inferInstance rfl rfl rfl ?_) | refine Pw.list (Pw.sto rfl rfl inferInstance rfl rfl rfl rfl rfl inferInstance rfl ?_))
      refine Pw.list (Pw.call (hc2 y1 zp) rfl rfl rfl (by kernel_rfl) rfl rfl (fun w h => ⟨(hv w h : heldN (natL (y.floor + 1), y1) w), (hv w h)⟩) ?_)
      intro _ _
      rw [show cmpS (y.floor + 1) (y.floor + 1) = 0 from cmpS_eq.2 rfl]
      repeat (first | (with_reducible first | refine Pw.seq ?_ | refine Pw.region ?_ | refine Pw.nil ?_ | refine Pw.then_ ?_ | refine Pw.skip ?_ | refine Pw.block ?_ | refine Pw.exit ?_ | refine Pw.inX ?_ | refine Pw.inN ?_ | refine Pw.inR ?_ | refine Pw.thenX ?_ | refine Pw.thenR ?_ | refine Pw.ret ?_) | refine Pw.list (Pw.pure rfl rfl rfl ?_) | refine Pw.inY rfl ?_ | refine Pw.list (Pw.off rfl rfl ?_) | refine Pw.condT rfl ?_ | refine Pw.condF rfl ?_ | refine Pw.list (Pw.box rfl rfl rfl rfl (fun _ => ?_)) | refine Pw.list (Pw.alloc rfl rfl rfl rfl rfl (fun _ => ?_)) | refine Pw.list (Pw.build rfl rfl rfl rfl ?_) | refine Pw.list (Pw.ld rfl inferInstance rfl rfl rfl ?_) | refine Pw.list (Pw.sto rfl rfl inferInstance rfl rfl rfl rfl rfl inferInstance rfl ?_))
      refine Pw.re (d := 42) (v' := .int .i64 ((i + 1 : Nat) : Int)) rfl (congrArg (Value.int .i64) (i64s (n := 100000) (by omega) (by omega))) ?_
      exact Pw.again (i + 1, z5', z7') (by show i + 1 ≤ l.length; omega) (by show l.length - (i + 1) < l.length - i; omega) ⟨rfl, rfl, rfl, rfl, rfl, rfl, trivial⟩ rfl (fun w h => allCons (hv w h) (allCons (hv w h) (allCons (hv w h) (allCons (hv w h) allNil))))
  · obtain rfl : i = l.length := by omega
    have hin : l.length * (6 + 1) ≤ 20 * 7 := Nat.mul_le_mul (by omega) (by omega)
    have hS := SO_sz hz l.length (Nat.le_refl _)
    have hsum := wholeQ_sum ho hpz
    have eV : sumI (((wholeQ (l.map rq) o).take l.length).map val) = (SO l l.length).floor := by
      rw [List.take_of_length_le (by omega), hsum]; unfold SO; rw [List.take_length]
    have hb1 := hbd l.length
    rw [eV] at hb1 ⊢
    repeat (first | (with_reducible first | refine Pw.seq ?_ | refine Pw.region ?_ | refine Pw.nil ?_ | refine Pw.then_ ?_ | refine Pw.skip ?_ | refine Pw.block ?_ | refine Pw.exit ?_ | refine Pw.inX ?_ | refine Pw.inN ?_ | refine Pw.inR ?_ | refine Pw.thenX ?_ | refine Pw.thenR ?_ | refine Pw.ret ?_) | refine Pw.list (Pw.pure rfl rfl rfl ?_) | refine Pw.inY rfl ?_ | refine Pw.list (Pw.off rfl rfl ?_) | refine Pw.condT rfl ?_ | refine Pw.condF rfl ?_ | refine Pw.list (Pw.box rfl rfl rfl rfl (fun _ => ?_)) | refine Pw.list (Pw.alloc rfl rfl rfl rfl rfl (fun _ => ?_)) | refine Pw.list (Pw.build rfl rfl rfl rfl ?_) | refine Pw.list (Pw.ld rfl inferInstance rfl rfl rfl ?_) | refine Pw.list (Pw.sto rfl rfl inferInstance rfl rfl rfl rfl rfl inferInstance rfl ?_))
    refine Pw.list (Pw.call (qFloor_ct hS z5 (by omega)) rfl rfl rfl (by kernel_rfl) rfl rfl (fun w h => (hv w h)) ?_)
    intro zf _
    repeat (first | (with_reducible first | refine Pw.seq ?_ | refine Pw.region ?_ | refine Pw.nil ?_ | refine Pw.then_ ?_ | refine Pw.skip ?_ | refine Pw.block ?_ | refine Pw.exit ?_ | refine Pw.inX ?_ | refine Pw.inN ?_ | refine Pw.inR ?_ | refine Pw.thenX ?_ | refine Pw.thenR ?_ | refine Pw.ret ?_) | refine Pw.list (Pw.pure rfl rfl rfl ?_) | refine Pw.inY rfl ?_ | refine Pw.list (Pw.off rfl rfl ?_) | refine Pw.condT rfl ?_ | refine Pw.condF rfl ?_ | refine Pw.list (Pw.box rfl rfl rfl rfl (fun _ => ?_)) | refine Pw.list (Pw.alloc rfl rfl rfl rfl rfl (fun _ => ?_)) | refine Pw.list (Pw.build rfl rfl rfl rfl ?_) | refine Pw.list (Pw.ld rfl inferInstance rfl rfl rfl ?_) | refine Pw.list (Pw.sto rfl rfl inferInstance rfl rfl rfl rfl rfl inferInstance rfl ?_))
    refine Pw.re (d := 103) (v' := .bool true) rfl (congrArg Value.bool (decide_eq_true rfl)) ?_
    repeat (first | (with_reducible first | refine Pw.seq ?_ | refine Pw.region ?_ | refine Pw.nil ?_ | refine Pw.then_ ?_ | refine Pw.skip ?_ | refine Pw.block ?_ | refine Pw.exit ?_ | refine Pw.inX ?_ | refine Pw.inN ?_ | refine Pw.inR ?_ | refine Pw.thenX ?_ | refine Pw.thenR ?_ | refine Pw.ret ?_) | refine Pw.list (Pw.pure rfl rfl rfl ?_) | refine Pw.inY rfl ?_ | refine Pw.list (Pw.off rfl rfl ?_) | refine Pw.condT rfl ?_ | refine Pw.condF rfl ?_ | refine Pw.list (Pw.box rfl rfl rfl rfl (fun _ => ?_)) | refine Pw.list (Pw.alloc rfl rfl rfl rfl rfl (fun _ => ?_)) | refine Pw.list (Pw.build rfl rfl rfl rfl ?_) | refine Pw.list (Pw.ld rfl inferInstance rfl rfl rfl ?_) | refine Pw.list (Pw.sto rfl rfl inferInstance rfl rfl rfl rfl rfl inferInstance rfl ?_))
    refine Pw.list (Pw.call (qCmpN_ct (m := 8) z7 zf hb1.1 hb1.1 hb1.2 hb1.2 (by omega)) rfl rfl rfl (by kernel_rfl) rfl rfl (fun w h => ⟨(hv w h), (hv w h)⟩) ?_)
    intro _ _
    rw [show cmpS (SO l l.length).floor (SO l l.length).floor = 0 from cmpS_eq.2 rfl]
    repeat (first | (with_reducible first | refine Pw.seq ?_ | refine Pw.region ?_ | refine Pw.nil ?_ | refine Pw.then_ ?_ | refine Pw.skip ?_ | refine Pw.block ?_ | refine Pw.exit ?_ | refine Pw.inX ?_ | refine Pw.inN ?_ | refine Pw.inR ?_ | refine Pw.thenX ?_ | refine Pw.thenR ?_ | refine Pw.ret ?_) | refine Pw.list (Pw.pure rfl rfl rfl ?_) | refine Pw.inY rfl ?_ | refine Pw.list (Pw.off rfl rfl ?_) | refine Pw.condT rfl ?_ | refine Pw.condF rfl ?_ | refine Pw.list (Pw.box rfl rfl rfl rfl (fun _ => ?_)) | refine Pw.list (Pw.alloc rfl rfl rfl rfl rfl (fun _ => ?_)) | refine Pw.list (Pw.build rfl rfl rfl rfl ?_) | refine Pw.list (Pw.ld rfl inferInstance rfl rfl rfl ?_) | refine Pw.list (Pw.sto rfl rfl inferInstance rfl rfl rfl rfl rfl inferInstance rfl ?_))
    exact Pw.ret_ (x := ()) (.tmp rfl .nil) rfl trivial (fun w h => by trivial)
end Go.Proofs.Wk
