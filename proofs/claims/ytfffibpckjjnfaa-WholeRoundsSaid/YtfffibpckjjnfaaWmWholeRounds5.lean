/- Walks and their mathematics, merged. No conditions beyond those written. -/
import Derived.Test.YtfffibpckjjnfaaWmWholeRounds4
/- Weights made whole: whole.Round walked. -/
namespace Go.Proofs.Wk
open Go.RowKit
set_option maxRecDepth 100000
set_option maxHeartbeats 4000000
attribute [local irreducible] Pw OpG
set_option linter.unusedVariables false
set_option linter.unusedSimpArgs false
theorem insNil_ct :
    Ct Try.prog 95 #[.slice none 0 0, .int .i64 0, .int .i64 0, .func (.func 39) #[] #[]] (fun _ => True) (fun _ : Unit => .tuple #[]) Tt (fun _ _ => True) := by
  refine Ct.start Try.func95 rfl rfl (slots_of rfl slots4) (fun D w0 => ?_)
  repeat (first | (with_reducible first | refine Pw.seq ?_ | refine Pw.region ?_ | refine Pw.nil ?_ | refine Pw.then_ ?_ | refine Pw.skip ?_ | refine Pw.block ?_ | refine Pw.exit ?_ | refine Pw.inX ?_ | refine Pw.inN ?_ | refine Pw.inR ?_ | refine Pw.thenX ?_ | refine Pw.thenR ?_ | refine Pw.ret ?_) | refine Pw.list (Pw.pure rfl rfl rfl ?_) | refine Pw.inY rfl ?_ | refine Pw.list (Pw.off rfl rfl ?_) | refine Pw.condT rfl ?_ | refine Pw.condF rfl ?_ | refine Pw.list (Pw.box rfl rfl rfl rfl (fun _ => ?_)) | refine Pw.list (Pw.alloc rfl rfl rfl rfl rfl (fun _ => ?_)) | refine Pw.list (Pw.build rfl rfl rfl rfl ?_) | refine Pw.list (Pw.ld rfl inferInstance rfl rfl rfl ?_) | refine Pw.list (Pw.sto rfl rfl inferInstance rfl rfl rfl rfl rfl inferInstance rfl ?_))
  refine Pw.re (d := 8) (v' := .int .i64 1) rfl (congrArg (Value.int .i64) (wi64 (by omega) (by omega))) ?_
  refine Pw.rounds 2 (Pw.round ?_)
  repeat (first | (with_reducible first | refine Pw.seq ?_ | refine Pw.region ?_ | refine Pw.nil ?_ | refine Pw.then_ ?_ | refine Pw.skip ?_ | refine Pw.block ?_ | refine Pw.exit ?_ | refine Pw.inX ?_ | refine Pw.inN ?_ | refine Pw.inR ?_ | refine Pw.thenX ?_ | refine Pw.thenR ?_ | refine Pw.ret ?_) | refine Pw.list (Pw.pure rfl rfl rfl ?_) | refine Pw.inY rfl ?_ | refine Pw.list (Pw.off rfl rfl ?_) | refine Pw.condT rfl ?_ | refine Pw.condF rfl ?_ | refine Pw.list (Pw.box rfl rfl rfl rfl (fun _ => ?_)) | refine Pw.list (Pw.alloc rfl rfl rfl rfl rfl (fun _ => ?_)) | refine Pw.list (Pw.build rfl rfl rfl rfl ?_) | refine Pw.list (Pw.ld rfl inferInstance rfl rfl rfl ?_) | refine Pw.list (Pw.sto rfl rfl inferInstance rfl rfl rfl rfl rfl inferInstance rfl ?_))
  exact Pw.retN (x := ()) .nil rfl trivial (fun w h => by trivial)
theorem stableNil_ct :
    Ct Try.prog 74 #[.slice none 0 0, .int .i64 0, .func (.func 39) #[] #[]] (fun _ => True) (fun _ : Unit => .tuple #[]) Tt (fun _ _ => True) := by
  refine Ct.start Try.func74 rfl rfl (slots_of rfl slots3) (fun D w0 => ?_)
  repeat (first | (with_reducible first | refine Pw.seq ?_ | refine Pw.region ?_ | refine Pw.nil ?_ | refine Pw.then_ ?_ | refine Pw.skip ?_ | refine Pw.block ?_ | refine Pw.exit ?_ | refine Pw.inX ?_ | refine Pw.inN ?_ | refine Pw.inR ?_ | refine Pw.thenX ?_ | refine Pw.thenR ?_ | refine Pw.ret ?_) | refine Pw.list (Pw.pure rfl rfl rfl ?_) | refine Pw.inY rfl ?_ | refine Pw.list (Pw.off rfl rfl ?_) | refine Pw.condT rfl ?_ | refine Pw.condF rfl ?_ | refine Pw.list (Pw.box rfl rfl rfl rfl (fun _ => ?_)) | refine Pw.list (Pw.alloc rfl rfl rfl rfl rfl (fun _ => ?_)) | refine Pw.list (Pw.build rfl rfl rfl rfl ?_) | refine Pw.list (Pw.ld rfl inferInstance rfl rfl rfl ?_) | refine Pw.list (Pw.sto rfl rfl inferInstance rfl rfl rfl rfl rfl inferInstance rfl ?_))
  refine Pw.rounds 3 (Pw.round ?_)
  repeat (first | (with_reducible first | refine Pw.seq ?_ | refine Pw.region ?_ | refine Pw.nil ?_ | refine Pw.then_ ?_ | refine Pw.skip ?_ | refine Pw.block ?_ | refine Pw.exit ?_ | refine Pw.inX ?_ | refine Pw.inN ?_ | refine Pw.inR ?_ | refine Pw.thenX ?_ | refine Pw.thenR ?_ | refine Pw.ret ?_) | refine Pw.list (Pw.pure rfl rfl rfl ?_) | refine Pw.inY rfl ?_ | refine Pw.list (Pw.off rfl rfl ?_) | refine Pw.condT rfl ?_ | refine Pw.condF rfl ?_ | refine Pw.list (Pw.box rfl rfl rfl rfl (fun _ => ?_)) | refine Pw.list (Pw.alloc rfl rfl rfl rfl rfl (fun _ => ?_)) | refine Pw.list (Pw.build rfl rfl rfl rfl ?_) | refine Pw.list (Pw.ld rfl inferInstance rfl rfl rfl ?_) | refine Pw.list (Pw.sto rfl rfl inferInstance rfl rfl rfl rfl rfl inferInstance rfl ?_))
  refine Pw.list (Pw.call insNil_ct rfl rfl rfl (by kernel_rfl) rfl rfl (fun w h => trivial) ?_)
  intro _ _
  repeat (first | (with_reducible first | refine Pw.seq ?_ | refine Pw.region ?_ | refine Pw.nil ?_ | refine Pw.then_ ?_ | refine Pw.skip ?_ | refine Pw.block ?_ | refine Pw.exit ?_ | refine Pw.inX ?_ | refine Pw.inN ?_ | refine Pw.inR ?_ | refine Pw.thenX ?_ | refine Pw.thenR ?_ | refine Pw.ret ?_) | refine Pw.list (Pw.pure rfl rfl rfl ?_) | refine Pw.inY rfl ?_ | refine Pw.list (Pw.off rfl rfl ?_) | refine Pw.condT rfl ?_ | refine Pw.condF rfl ?_ | refine Pw.list (Pw.box rfl rfl rfl rfl (fun _ => ?_)) | refine Pw.list (Pw.alloc rfl rfl rfl rfl rfl (fun _ => ?_)) | refine Pw.list (Pw.build rfl rfl rfl rfl ?_) | refine Pw.list (Pw.ld rfl inferInstance rfl rfl rfl ?_) | refine Pw.list (Pw.sto rfl rfl inferInstance rfl rfl rfl rfl rfl inferInstance rfl ?_))
  refine Pw.rounds 2 (Pw.round ?_)
  repeat (first | (with_reducible first | refine Pw.seq ?_ | refine Pw.region ?_ | refine Pw.nil ?_ | refine Pw.then_ ?_ | refine Pw.skip ?_ | refine Pw.block ?_ | refine Pw.exit ?_ | refine Pw.inX ?_ | refine Pw.inN ?_ | refine Pw.inR ?_ | refine Pw.thenX ?_ | refine Pw.thenR ?_ | refine Pw.ret ?_) | refine Pw.list (Pw.pure rfl rfl rfl ?_) | refine Pw.inY rfl ?_ | refine Pw.list (Pw.off rfl rfl ?_) | refine Pw.condT rfl ?_ | refine Pw.condF rfl ?_ | refine Pw.list (Pw.box rfl rfl rfl rfl (fun _ => ?_)) | refine Pw.list (Pw.alloc rfl rfl rfl rfl rfl (fun _ => ?_)) | refine Pw.list (Pw.build rfl rfl rfl rfl ?_) | refine Pw.list (Pw.ld rfl inferInstance rfl rfl rfl ?_) | refine Pw.list (Pw.sto rfl rfl inferInstance rfl rfl rfl rfl rfl inferInstance rfl ?_))
  exact Pw.retN (x := ()) .nil rfl trivial (fun w h => by trivial)
theorem SortNil_ct :
    Ct Try.prog 38 #[.slice none 0 0, .func (.func 39) #[] #[]] (fun _ => True) (fun _ : Unit => .tuple #[]) Tt (fun _ _ => True) := by
  refine Ct.start Try.func38 rfl rfl (slots_of rfl slots2) (fun D w0 => ?_)
  repeat (first | (with_reducible first | refine Pw.seq ?_ | refine Pw.region ?_ | refine Pw.nil ?_ | refine Pw.then_ ?_ | refine Pw.skip ?_ | refine Pw.block ?_ | refine Pw.exit ?_ | refine Pw.inX ?_ | refine Pw.inN ?_ | refine Pw.inR ?_ | refine Pw.thenX ?_ | refine Pw.thenR ?_ | refine Pw.ret ?_) | refine Pw.list (Pw.pure rfl rfl rfl ?_) | refine Pw.inY rfl ?_ | refine Pw.list (Pw.off rfl rfl ?_) | refine Pw.condT rfl ?_ | refine Pw.condF rfl ?_ | refine Pw.list (Pw.box rfl rfl rfl rfl (fun _ => ?_)) | refine Pw.list (Pw.alloc rfl rfl rfl rfl rfl (fun _ => ?_)) | refine Pw.list (Pw.build rfl rfl rfl rfl ?_) | refine Pw.list (Pw.ld rfl inferInstance rfl rfl rfl ?_) | refine Pw.list (Pw.sto rfl rfl inferInstance rfl rfl rfl rfl rfl inferInstance rfl ?_))
  refine Pw.list (Pw.call stableNil_ct rfl rfl rfl (by kernel_rfl) rfl rfl (fun w h => trivial) ?_)
  intro _ _
  repeat (first | (with_reducible first | refine Pw.seq ?_ | refine Pw.region ?_ | refine Pw.nil ?_ | refine Pw.then_ ?_ | refine Pw.skip ?_ | refine Pw.block ?_ | refine Pw.exit ?_ | refine Pw.inX ?_ | refine Pw.inN ?_ | refine Pw.inR ?_ | refine Pw.thenX ?_ | refine Pw.thenR ?_ | refine Pw.ret ?_) | refine Pw.list (Pw.pure rfl rfl rfl ?_) | refine Pw.inY rfl ?_ | refine Pw.list (Pw.off rfl rfl ?_) | refine Pw.condT rfl ?_ | refine Pw.condF rfl ?_ | refine Pw.list (Pw.box rfl rfl rfl rfl (fun _ => ?_)) | refine Pw.list (Pw.alloc rfl rfl rfl rfl rfl (fun _ => ?_)) | refine Pw.list (Pw.build rfl rfl rfl rfl ?_) | refine Pw.list (Pw.ld rfl inferInstance rfl rfl rfl ?_) | refine Pw.list (Pw.sto rfl rfl inferInstance rfl rfl rfl rfl rfl inferInstance rfl ?_))
  exact Pw.retN (x := ()) .nil rfl trivial (fun w h => by trivial)
end Go.Proofs.Wk
/- Weights made whole: whole.Round walked. -/
namespace Go.Proofs.Wk
open Go.RowKit
set_option maxRecDepth 100000
set_option maxHeartbeats 4000000
attribute [local irreducible] Pw OpG
set_option linter.unusedVariables false
set_option linter.unusedSimpArgs false
abbrev Nt := List Int × (Option Addr × Nat)
def encN (p : Nt) : List Value := [sl p.1 p.2]
def heldN (p : Nt) (W : World) : Prop := S1 p.1 p.2 W
abbrev NS (l : List Nt) (x : Option Addr × Nat) : World → Prop := Rows (RR encN heldN) 1 l x.1 x.2
def cellsN (l : List Nt) : List Value := l.flatMap encN
def cellsO (l : List On) : List Value := l.flatMap encO
abbrev AllN (l : List Nt) (W : World) : Prop := ∀ p ∈ l, heldN p W
theorem cellsN_snoc (l : List Nt) (p : Nt) : cellsN (l ++ [p]) = cellsN l ++ encN p := by unfold cellsN; simp
theorem cellsO_snoc (l : List On) (p : On) : cellsO (l ++ [p]) = cellsO l ++ encO p := by unfold cellsO; simp
theorem cellsN_map (l : List Nt) : cellsN l = l.map (fun p => sl p.1 p.2) := by
  induction l with
  | nil => rfl
  | cons a r ih => unfold cellsN at *; rw [List.flatMap_cons, ih]; rfl
theorem cellsN_len (l : List Nt) : (cellsN l).length = l.length := by rw [cellsN_map, List.length_map]
theorem encO_one (o : On) : ∀ u ∈ encO o, u.oneCell' = true := by
  intro u hu
  unfold encO at hu
  simp only [List.mem_cons, List.not_mem_nil, or_false] at hu
  rcases hu with rfl | rfl | rfl <;> rfl
/-- What weights come to: an error, or naturals. -/
def rndS (l : List Rt) (o : List Nat) : List (List Int) × Int := if l.any (fun s => !formedR s.a s.b) = true then ([], 1) else (wholeQ (l.map rq) o, 0)
abbrev gRd (b9 b7 : Blk) (q1 : Gr) (c1 : List Value) (q2 : Gr) (c2 : List Value) : List Blk := b9 :: b7 :: (gL q1 c1 37 ++ gL q2 c2 90)
theorem permRd1 {a b : Blk} {x y : List Blk} : (a :: b :: (x ++ y)).Perm (x ++ (y ++ [a, b])) := by
  refine (List.perm_append_comm (l₁ := [a, b]) (l₂ := x ++ y)).trans ?_
  rw [List.append_assoc]
theorem permRd2 {a b : Blk} {x y : List Blk} : (x ++ (y ++ [a, b])).Perm (y ++ (x ++ [a, b])) := by
  rw [← List.append_assoc, ← List.append_assoc]
  exact List.Perm.append_right _ List.perm_append_comm
theorem permRd3 {a b : Blk} {x y : List Blk} : (y ++ (x ++ [a, b])).Perm (a :: b :: (x ++ y)) := permRd2.trans permRd1.symm
structure RdJ (l : List Rt) (i : Nat) (ns : List Nt) (os : List On) (q1 q2 : Gr) : Prop where
  le : i ≤ l.length
  hn : ns.map Prod.fst = flL ((l.take i).map rq)
  ho : OsOk ((l.take i).map rq) os
  h1 : gOk q1 (cellsN ns) i 1
  h2 : gOk q2 (cellsO os) i 3
theorem OsOk_snoc {ws : List Rat} {os : List On} (h : OsOk ws os) (x : Rat) (z : Z2) : OsOk (ws ++ [x]) (os ++ [⟨(ws.length : Int), qn (fr x), qd (fr x), z⟩]) := by
  refine ⟨by rw [List.length_append, List.length_append, h.1]; rfl, fun i o ho => ?_⟩
  rcases Nat.lt_or_ge i os.length with hi | hi
  · rw [List.getElem?_append_left hi] at ho
    obtain ⟨h1, h2, h3⟩ := h.2 i o ho
    have e : qAt (ws ++ [x]) i = qAt ws i := by
      unfold qAt; rw [List.getD_eq_getElem?_getD, List.getD_eq_getElem?_getD, List.getElem?_append_left (by rw [← h.1]; exact hi)]
    rw [e]; exact ⟨h1, h2, h3⟩
  · rw [List.getElem?_append_right hi] at ho
    obtain ⟨t, ht⟩ : ∃ t, t = i - os.length := ⟨_, rfl⟩
    rw [← ht] at ho
    rcases t with _ | t
    · have e0 : i = ws.length := by rw [← h.1]; omega
      subst e0
      simp at ho; subst ho
      have e : qAt (ws ++ [x]) ws.length = x := by unfold qAt; rw [List.getD_eq_getElem?_getD, List.getElem?_append_right (Nat.le_refl _), Nat.sub_self]; rfl
      rw [e]; exact ⟨rfl, rfl, rfl⟩
    · simp at ho
theorem map_take_snoc {α β : Type} {l : List α} {f : α → β} {i : Nat} {x : α} (h : l[i]? = some x) : (l.take (i + 1)).map f = (l.take i).map f ++ [f x] := by rw [take_snoc h, List.map_append]; rfl
theorem sz_take {l : List Rt} {K : Nat} (hz : ∀ x ∈ l.map rq, Sz K x) (i : Nat) : ∀ x ∈ (l.take i).map rq, Sz K x := fun x hx => by
  obtain ⟨s, hs, rfl⟩ := List.mem_map.1 hx
  exact hz _ (List.mem_map_of_mem (List.mem_of_mem_take hs))
theorem sz_frs {ws : List Rat} {K : Nat} (h : ∀ x ∈ ws, Sz K x) : ∀ x ∈ frs ws, Sz K x := fun x hx => by
  unfold frs at hx; obtain ⟨y, hy, rfl⟩ := List.mem_map.1 hx; exact sz_fr (h y hy)
def LO (l : List Rt) (i : Nat) : Rat := sumQ (frs ((l.take i).map rq))
def SO (l : List Rt) (i : Nat) : Rat := sumQ ((l.take i).map rq)
theorem LO_snoc {l : List Rt} {i : Nat} {s : Rt} (h : l[i]? = some s) : LO l (i + 1) = LO l i + fr (rq s) := by
  unfold LO frs; rw [map_take_snoc h, List.map_append, List.map_singleton, sumQ_snoc]
theorem SO_snoc {l : List Rt} {i : Nat} {s : Rt} (h : l[i]? = some s) : SO l (i + 1) = SO l i + rq s := by
  unfold SO; rw [map_take_snoc h, sumQ_snoc]
theorem SO_sz {l : List Rt} {K : Nat} (hz : ∀ x ∈ l.map rq, Sz K x) (i : Nat) (hi : i ≤ l.length) : Sz (i * (K + 1) + 1) (SO l i) := by
  have := sumQ_sz _ (sz_take hz i)
  rw [List.length_map, List.length_take, Nat.min_eq_left hi] at this; exact this
theorem LO_sz {l : List Rt} {K : Nat} (hz : ∀ x ∈ l.map rq, Sz K x) (i : Nat) (hi : i ≤ l.length) : Sz (i * (K + 1) + 1) (LO l i) := by
  have := sumQ_sz _ (sz_frs (sz_take hz i))
  unfold frs at this
  rw [List.length_map, List.length_map, List.length_take, Nat.min_eq_left hi] at this; exact this
theorem at_bumps {ws : List Rat} {o : List Nat} (ho : Ord ws o) {k a : Nat} (h : o[k]? = some a) : (bumps (flL ws) (o.take k))[a]? = some (natL (qAt ws a).floor) := by
  have hlt := ho.lt (List.mem_of_getElem? h)
  have hn := ho.nodup
  have hk := (List.getElem?_eq_some_iff.1 h).1
  have hna : a ∉ o.take k := fun e => by
    have e1 : o.take (k + 1) = o.take k ++ [a] := take_snoc h
    have h2 : (o.take (k + 1)).Nodup := hn.sublist (List.take_sublist _ _)
    rw [e1] at h2
    exact (List.nodup_append.1 h2).2.2 a e a (List.mem_singleton_self _) rfl
  rw [bumps_get _ _ (hn.sublist (List.take_sublist _ _)), if_neg hna]
  unfold flL
  rw [List.getElem?_map, List.getElem?_eq_getElem hlt]
  rw [qAt_get (List.getElem?_eq_getElem hlt)]; rfl
theorem bumps_step {ws : List Rat} {o : List Nat} (ho : Ord ws o) {k a : Nat} (h : o[k]? = some a) (hp : 0 ≤ (qAt ws a).floor) : bumps (flL ws) (o.take (k + 1)) = (bumps (flL ws) (o.take k)).set a (natL ((qAt ws a).floor + 1)) := by
  rw [take_snoc h, bumps_snoc]
  unfold bump
  rw [List.getD_eq_getElem?_getD, at_bumps ho h]
  show _ = _
  rw [show (some (natL (qAt ws a).floor)).getD [] = natL (qAt ws a).floor from rfl, val_natL hp]
theorem pRound_ct (K : Nat) (l : List Rt) (x : Option Addr × Nat) (o : List Nat) (hw : ∀ s ∈ l, RtW s) (hb : ∀ s ∈ l, s.a.length ≤ K ∧ s.b.length ≤ K) (hl : l.length ≤ 20) (hl0 : 0 < l.length) (hK : 1 ≤ K ∧ K ≤ 17) (ho : Ord (l.map rq) o) :
    Ct Try.prog 14 #[rsV l x] (RS l x) (fun r : List Nt × (Option Addr × Nat) => .tuple #[.slice r.2.1 (rndS l o).1.length r.2.2, .int .i64 (rndS l o).2]) (fun r => r.1.map Prod.fst = (rndS l o).1) (fun r => NS r.1 r.2) := by
  obtain ⟨A, c⟩ := x
  refine Ct.start Try.func14 rfl rfl (slots_of rfl slots1) (fun D w0 => ?_)
  repeat (first | (with_reducible first | refine Pw.seq ?_ | refine Pw.region ?_ | refine Pw.nil ?_ | refine Pw.then_ ?_ | refine Pw.skip ?_ | refine Pw.block ?_ | refine Pw.exit ?_ | refine Pw.inX ?_ | refine Pw.inN ?_ | refine Pw.inR ?_ | refine Pw.thenX ?_ | refine Pw.thenR ?_ | refine Pw.ret ?_) | refine Pw.list (Pw.pure rfl rfl rfl ?_) | refine Pw.inY rfl ?_ | refine Pw.list (Pw.off rfl rfl ?_) | refine Pw.condT rfl ?_ | refine Pw.condF rfl ?_ | refine Pw.list (Pw.box rfl rfl rfl rfl (fun _ => ?_)) | refine Pw.list (Pw.alloc rfl rfl rfl rfl rfl (fun _ => ?_)) | refine Pw.list (Pw.build rfl rfl rfl rfl ?_) | refine Pw.list (Pw.ld rfl inferInstance rfl rfl rfl ?_) | refine Pw.list (Pw.sto rfl rfl inferInstance rfl rfl rfl rfl rfl inferInstance rfl ?_))
  refine Pw.list (Pw.call (Of_ct 1) rfl rfl rfl (by kernel_rfl) rfl rfl (fun w h => trivial) ?_)
  intro zu _
  rw [ofN_1]
  repeat (first | (with_reducible first | refine Pw.seq ?_ | refine Pw.region ?_ | refine Pw.nil ?_ | refine Pw.then_ ?_ | refine Pw.skip ?_ | refine Pw.block ?_ | refine Pw.exit ?_ | refine Pw.inX ?_ | refine Pw.inN ?_ | refine Pw.inR ?_ | refine Pw.thenX ?_ | refine Pw.thenR ?_ | refine Pw.ret ?_) | refine Pw.list (Pw.pure rfl rfl rfl ?_) | refine Pw.inY rfl ?_ | refine Pw.list (Pw.off rfl rfl ?_) | refine Pw.condT rfl ?_ | refine Pw.condF rfl ?_ | refine Pw.list (Pw.box rfl rfl rfl rfl (fun _ => ?_)) | refine Pw.list (Pw.alloc rfl rfl rfl rfl rfl (fun _ => ?_)) | refine Pw.list (Pw.build rfl rfl rfl rfl ?_) | refine Pw.list (Pw.ld rfl inferInstance rfl rfl rfl ?_) | refine Pw.list (Pw.sto rfl rfl inferInstance rfl rfl rfl rfl rfl inferInstance rfl ?_))
  refine Pw.list (Pw.call (qOf_ct (n := 0) (by omega) (by omega)) rfl rfl rfl (by kernel_rfl) rfl rfl (fun w h => trivial) ?_)
  intro z7 _
  repeat (first | (with_reducible first | refine Pw.seq ?_ | refine Pw.region ?_ | refine Pw.nil ?_ | refine Pw.then_ ?_ | refine Pw.skip ?_ | refine Pw.block ?_ | refine Pw.exit ?_ | refine Pw.inX ?_ | refine Pw.inN ?_ | refine Pw.inR ?_ | refine Pw.thenX ?_ | refine Pw.thenR ?_ | refine Pw.ret ?_) | refine Pw.list (Pw.pure rfl rfl rfl ?_) | refine Pw.inY rfl ?_ | refine Pw.list (Pw.off rfl rfl ?_) | refine Pw.condT rfl ?_ | refine Pw.condF rfl ?_ | refine Pw.list (Pw.box rfl rfl rfl rfl (fun _ => ?_)) | refine Pw.list (Pw.alloc rfl rfl rfl rfl rfl (fun _ => ?_)) | refine Pw.list (Pw.build rfl rfl rfl rfl ?_) | refine Pw.list (Pw.ld rfl inferInstance rfl rfl rfl ?_) | refine Pw.list (Pw.sto rfl rfl inferInstance rfl rfl rfl rfl rfl inferInstance rfl ?_))
  rename_i g7
  refine Pw.list (Pw.call (qOf_ct (n := 0) (by omega) (by omega)) rfl rfl rfl (by kernel_rfl) rfl rfl (fun w h => trivial) ?_)
  intro z9 _
  repeat (first | (with_reducible first | refine Pw.seq ?_ | refine Pw.region ?_ | refine Pw.nil ?_ | refine Pw.then_ ?_ | refine Pw.skip ?_ | refine Pw.block ?_ | refine Pw.exit ?_ | refine Pw.inX ?_ | refine Pw.inN ?_ | refine Pw.inR ?_ | refine Pw.thenX ?_ | refine Pw.thenR ?_ | refine Pw.ret ?_) | refine Pw.list (Pw.pure rfl rfl rfl ?_) | refine Pw.inY rfl ?_ | refine Pw.list (Pw.off rfl rfl ?_) | refine Pw.condT rfl ?_ | refine Pw.condF rfl ?_ | refine Pw.list (Pw.box rfl rfl rfl rfl (fun _ => ?_)) | refine Pw.list (Pw.alloc rfl rfl rfl rfl rfl (fun _ => ?_)) | refine Pw.list (Pw.build rfl rfl rfl rfl ?_) | refine Pw.list (Pw.ld rfl inferInstance rfl rfl rfl ?_) | refine Pw.list (Pw.sto rfl rfl inferInstance rfl rfl rfl rfl rfl inferInstance rfl ?_))
  rename_i g9
  refine Pw.list (Pw.call (ContainsR_ct l (A, c) 36 (fun s => !formedR s.a s.b) (fun s hs => rnd1_ct s (hw s hs) (by have := hb s hs; omega) (by have := hb s hs; omega)) (by kernel_rfl)) rfl rfl rfl (by kernel_rfl) rfl rfl (fun w h => (hv w h)) ?_)
  intro _ _
  cases hF : l.any (fun s => !formedR s.a s.b)
  case true =>
    have e : rndS l o = ([], 1) := if_pos hF
    rw [e]
    repeat (first | (with_reducible first | refine Pw.seq ?_ | refine Pw.region ?_ | refine Pw.nil ?_ | refine Pw.then_ ?_ | refine Pw.skip ?_ | refine Pw.block ?_ | refine Pw.exit ?_ | refine Pw.inX ?_ | refine Pw.inN ?_ | refine Pw.inR ?_ | refine Pw.thenX ?_ | refine Pw.thenR ?_ | refine Pw.ret ?_) | refine Pw.list (Pw.pure rfl rfl rfl ?_) | refine Pw.inY rfl ?_ | refine Pw.list (Pw.off rfl rfl ?_) | refine Pw.condT rfl ?_ | refine Pw.condF rfl ?_ | refine Pw.list (Pw.box rfl rfl rfl rfl (fun _ => ?_)) | refine Pw.list (Pw.alloc rfl rfl rfl rfl rfl (fun _ => ?_)) | refine Pw.list (Pw.build rfl rfl rfl rfl ?_) | refine Pw.list (Pw.ld rfl inferInstance rfl rfl rfl ?_) | refine Pw.list (Pw.sto rfl rfl inferInstance rfl rfl rfl rfl rfl inferInstance rfl ?_))
    exact Pw.ret_ (x := ([], (none, 0))) (.tmp rfl (.tmp rfl .nil)) rfl rfl (fun w h => Rows.nil _ _ _ _ _)
  have eS : rndS l o = (wholeQ (l.map rq) o, 0) := if_neg (by rw [hF]; simp)
  rw [eS]
  have hfm : ∀ s ∈ l, ∃ (y : Rat) (z : Z2), s = ⟨qn y, qd y, z⟩ ∧ Sz K y ∧ rq s = y := fun s hs => by
    have := List.any_eq_false.1 hF s hs
    exact formed_ex (hw s hs) (by simpa using this) (hb s hs).1 (hb s hs).2
  have hz : ∀ q ∈ l.map rq, Sz K q := fun q hq => by
    obtain ⟨s, hs, rfl⟩ := List.mem_map.1 hq
    obtain ⟨y, z, _, h2, h3⟩ := hfm s hs
    rw [h3]; exact h2
  repeat (first | (with_reducible first | refine Pw.seq ?_ | refine Pw.region ?_ | refine Pw.nil ?_ | refine Pw.then_ ?_ | refine Pw.skip ?_ | refine Pw.block ?_ | refine Pw.exit ?_ | refine Pw.inX ?_ | refine Pw.inN ?_ | refine Pw.inR ?_ | refine Pw.thenX ?_ | refine Pw.thenR ?_ | refine Pw.ret ?_) | refine Pw.list (Pw.pure rfl rfl rfl ?_) | refine Pw.inY rfl ?_ | refine Pw.list (Pw.off rfl rfl ?_) | refine Pw.condT rfl ?_ | refine Pw.condF rfl ?_ | refine Pw.list (Pw.box rfl rfl rfl rfl (fun _ => ?_)) | refine Pw.list (Pw.alloc rfl rfl rfl rfl rfl (fun _ => ?_)) | refine Pw.list (Pw.build rfl rfl rfl rfl ?_) | refine Pw.list (Pw.ld rfl inferInstance rfl rfl rfl ?_) | refine Pw.list (Pw.sto rfl rfl inferInstance rfl rfl rfl rfl rfl inferInstance rfl ?_))
  refine Pw.facts (G' := [S1 [1] zu, QW (SO l 0) z7, QW (LO l 0) z9, RS l (A, c), AllN [], AllO []]) (fun w h => allCons (hv w h) (allCons (hv w h : QW ((0 : Int) : Rat) z7 w) (allCons (hv w h : QW ((0 : Int) : Rat) z9 w) (allCons (hv w h) (allCons (fun r hr => by cases hr) (allCons (fun r hr => by cases hr) allNil)))))) ?_
  refine Pw.eqL (L' := gRd ⟨g9, row [sl (qn (LO l 0)) z9.1, sl (qd (LO l 0)) z9.2] 39⟩ ⟨g7, row [sl (qn (SO l 0)) z7.1, sl (qd (SO l 0)) z7.2] 39⟩ none [] none []) rfl ?_
  refine Pw.loopJ (σ := Nat × List Nt × List On × Gr × Gr × Z2 × Z2) (fun t => RdJ l t.1 t.2.1 t.2.2.1 t.2.2.2.1 t.2.2.2.2.1) (fun t => ⟨[(4, gv t.2.2.2.1 t.1), (5, gv t.2.2.2.2.1 t.1), (6, sl [1] zu), (7, .pointer (some ⟨g7, 0, none⟩)), (9, .pointer (some ⟨g9, 0, none⟩)), (36, .slice A l.length c), (37, .int .i64 l.length), (38, .int .i64 t.1)], gRd ⟨g9, row [sl (qn (LO l t.1)) t.2.2.2.2.2.2.1, sl (qd (LO l t.1)) t.2.2.2.2.2.2.2] 39⟩ ⟨g7, row [sl (qn (SO l t.1)) t.2.2.2.2.2.1.1, sl (qd (SO l t.1)) t.2.2.2.2.2.1.2] 39⟩ t.2.2.2.1 (cellsN t.2.1) t.2.2.2.2.1 (cellsO t.2.2.1), [S1 [1] zu, QW (SO l t.1) t.2.2.2.2.2.1, QW (LO l t.1) t.2.2.2.2.2.2, RS l (A, c), AllN t.2.1, AllO t.2.2.1]⟩) (fun t => l.length - t.1) (0, [], [], none, none, z7, z9) ⟨Nat.zero_le _, rfl, ⟨rfl, fun i o h => by simp at h⟩, ⟨rfl, rfl⟩, ⟨rfl, rfl⟩⟩ (Pw.enter ⟨rfl, rfl, rfl, rfl, rfl, rfl, rfl, rfl, trivial⟩ (fun w h => h)) ?_
  rintro ⟨i, ns, os, q1, q2, z7, z9⟩ ⟨hi, hns, hos, hq1, hq2⟩
  dsimp only at hi hns hos hq1 hq2 ⊢
  repeat (first | (with_reducible first | refine Pw.seq ?_ | refine Pw.region ?_ | refine Pw.nil ?_ | refine Pw.then_ ?_ | refine Pw.skip ?_ | refine Pw.block ?_ | refine Pw.exit ?_ | refine Pw.inX ?_ | refine Pw.inN ?_ | refine Pw.inR ?_ | refine Pw.thenX ?_ | refine Pw.thenR ?_ | refine Pw.ret ?_) | refine Pw.list (Pw.pure rfl rfl rfl ?_) | refine Pw.inY rfl ?_ | refine Pw.list (Pw.off rfl rfl ?_) | refine Pw.condT rfl ?_ | refine Pw.condF rfl ?_ | refine Pw.list (Pw.box rfl rfl rfl rfl (fun _ => ?_)) | refine Pw.list (Pw.alloc rfl rfl rfl rfl rfl (fun _ => ?_)) | refine Pw.list (Pw.build rfl rfl rfl rfl ?_) | refine Pw.list (Pw.ld rfl inferInstance rfl rfl rfl ?_) | refine Pw.list (Pw.sto rfl rfl inferInstance rfl rfl rfl rfl rfl inferInstance rfl ?_))
  refine Pw.condD rfl (fun c3 => ?_) (fun c3 => ?_)
  · obtain ⟨s, hsi, hsm⟩ := get_at (show i < l.length by omega)
    have hS := SO_sz hz i hi
    have hL := LO_sz hz i hi
    have eS1 := SO_snoc hsi
    have eL1 := LO_snoc hsi
    have em := map_take_snoc (f := rq) hsi
    obtain ⟨y, zs, rfl, hy, hq⟩ := hfm s hsm
    rw [hq] at eS1 eL1 em
    have hib : i * (K + 1) ≤ 19 * 18 := Nat.mul_le_mul (by omega) (by omega)
    repeat (first | (with_reducible first | refine Pw.seq ?_ | refine Pw.region ?_ | refine Pw.nil ?_ | refine Pw.then_ ?_ | refine Pw.skip ?_ | refine Pw.block ?_ | refine Pw.exit ?_ | refine Pw.inX ?_ | refine Pw.inN ?_ | refine Pw.inR ?_ | refine Pw.thenX ?_ | refine Pw.thenR ?_ | refine Pw.ret ?_) | refine Pw.list (Pw.pure rfl rfl rfl ?_) | refine Pw.inY rfl ?_ | refine Pw.list (Pw.off rfl rfl ?_) | refine Pw.condT rfl ?_ | refine Pw.condF rfl ?_ | refine Pw.list (Pw.box rfl rfl rfl rfl (fun _ => ?_)) | refine Pw.list (Pw.alloc rfl rfl rfl rfl rfl (fun _ => ?_)) | refine Pw.list (Pw.build rfl rfl rfl rfl ?_) | refine Pw.list (Pw.ld rfl inferInstance rfl rfl rfl ?_) | refine Pw.list (Pw.sto rfl rfl inferInstance rfl rfl rfl rfl rfl inferInstance rfl ?_))
    refine Pw.list (Pw.index rfl rfl rfl rfl (Int.natCast_nonneg i) c3 (fun w h => (hv w h : RS l (A, c) w).has (Int.natCast_nonneg i) c3) rfl rfl ?_)
    rintro ad rfl
    refine Pw.list (Pw.loadR ⟨qn y, qd y, zs⟩ rfl inferInstance rfl (by rw [Int.toNat_natCast]; exact hsi) (by kernel_rfl) rfl rfl ?_)
    refine Pw.re (d := 42) (v' := qt y zs) rfl rfl ?_
    repeat (first | (with_reducible first | refine Pw.seq ?_ | refine Pw.region ?_ | refine Pw.nil ?_ | refine Pw.then_ ?_ | refine Pw.skip ?_ | refine Pw.block ?_ | refine Pw.exit ?_ | refine Pw.inX ?_ | refine Pw.inN ?_ | refine Pw.inR ?_ | refine Pw.thenX ?_ | refine Pw.thenR ?_ | refine Pw.ret ?_) | refine Pw.list (Pw.pure rfl rfl rfl ?_) | refine Pw.inY rfl ?_ | refine Pw.list (Pw.off rfl rfl ?_) | refine Pw.condT rfl ?_ | refine Pw.condF rfl ?_ | refine Pw.list (Pw.box rfl rfl rfl rfl (fun _ => ?_)) | refine Pw.list (Pw.alloc rfl rfl rfl rfl rfl (fun _ => ?_)) | refine Pw.list (Pw.build rfl rfl rfl rfl ?_) | refine Pw.list (Pw.ld rfl inferInstance rfl rfl rfl ?_) | refine Pw.list (Pw.sto rfl rfl inferInstance rfl rfl rfl rfl rfl inferInstance rfl ?_))
    refine freeHead ?_
    repeat (first | (with_reducible first | refine Pw.seq ?_ | refine Pw.region ?_ | refine Pw.nil ?_ | refine Pw.then_ ?_ | refine Pw.skip ?_ | refine Pw.block ?_ | refine Pw.exit ?_ | refine Pw.inX ?_ | refine Pw.inN ?_ | refine Pw.inR ?_ | refine Pw.thenX ?_ | refine Pw.thenR ?_ | refine Pw.ret ?_) | refine Pw.list (Pw.pure rfl rfl rfl ?_) | refine Pw.inY rfl ?_ | refine Pw.list (Pw.off rfl rfl ?_) | refine Pw.condT rfl ?_ | refine Pw.condF rfl ?_ | refine Pw.list (Pw.box rfl rfl rfl rfl (fun _ => ?_)) | refine Pw.list (Pw.alloc rfl rfl rfl rfl rfl (fun _ => ?_)) | refine Pw.list (Pw.build rfl rfl rfl rfl ?_) | refine Pw.list (Pw.ld rfl inferInstance rfl rfl rfl ?_) | refine Pw.list (Pw.sto rfl rfl inferInstance rfl rfl rfl rfl rfl inferInstance rfl ?_))
    refine Pw.list (Pw.call (qAdd_ct hS hy z7 zs (by omega)) rfl rfl rfl (by kernel_rfl) rfl rfl (fun w h => ⟨(hv w h), (hv w h : heldR ⟨qn y, qd y, zs⟩ w)⟩) ?_)
    intro z7' _
    rw [← eS1]
    repeat (first | (with_reducible first | refine Pw.seq ?_ | refine Pw.region ?_ | refine Pw.nil ?_ | refine Pw.then_ ?_ | refine Pw.skip ?_ | refine Pw.block ?_ | refine Pw.exit ?_ | refine Pw.inX ?_ | refine Pw.inN ?_ | refine Pw.inR ?_ | refine Pw.thenX ?_ | refine Pw.thenR ?_ | refine Pw.ret ?_) | refine Pw.list (Pw.pure rfl rfl rfl ?_) | refine Pw.inY rfl ?_ | refine Pw.list (Pw.off rfl rfl ?_) | refine Pw.condT rfl ?_ | refine Pw.condF rfl ?_ | refine Pw.list (Pw.box rfl rfl rfl rfl (fun _ => ?_)) | refine Pw.list (Pw.alloc rfl rfl rfl rfl rfl (fun _ => ?_)) | refine Pw.list (Pw.build rfl rfl rfl rfl ?_) | refine Pw.list (Pw.ld rfl inferInstance rfl rfl rfl ?_) | refine Pw.list (Pw.sto rfl rfl inferInstance rfl rfl rfl rfl rfl inferInstance rfl ?_))
    refine Pw.list (Pw.call (qFloor_ct hy zs (by omega)) rfl rfl rfl (by kernel_rfl) rfl rfl (fun w h => (hv w h : heldR ⟨qn y, qd y, zs⟩ w)) ?_)
    intro zf _
    repeat (first | (with_reducible first | refine Pw.seq ?_ | refine Pw.region ?_ | refine Pw.nil ?_ | refine Pw.then_ ?_ | refine Pw.skip ?_ | refine Pw.block ?_ | refine Pw.exit ?_ | refine Pw.inX ?_ | refine Pw.inN ?_ | refine Pw.inR ?_ | refine Pw.thenX ?_ | refine Pw.thenR ?_ | refine Pw.ret ?_) | refine Pw.list (Pw.pure rfl rfl rfl ?_) | refine Pw.inY rfl ?_ | refine Pw.list (Pw.off rfl rfl ?_) | refine Pw.condT rfl ?_ | refine Pw.condF rfl ?_ | refine Pw.list (Pw.box rfl rfl rfl rfl (fun _ => ?_)) | refine Pw.list (Pw.alloc rfl rfl rfl rfl rfl (fun _ => ?_)) | refine Pw.list (Pw.build rfl rfl rfl rfl ?_) | refine Pw.list (Pw.ld rfl inferInstance rfl rfl rfl ?_) | refine Pw.list (Pw.sto rfl rfl inferInstance rfl rfl rfl rfl rfl inferInstance rfl ?_))
    have hfl : Sz K ((y.floor : Int) : Rat) := sz_int (floor_nn hy.p) (sz_floor hy) (by omega)
    have hsub := qSub_ct hy hfl zs (zf, zu) (by omega) (Rat.floor_le y)
    rw [show qt ((y.floor : Int) : Rat) (zf, zu) = rt (natL y.floor) [1] (zf, zu) by unfold qt; rw [qn_int, qd_int], show QW ((y.floor : Int) : Rat) (zf, zu) = R2 (natL y.floor) [1] (zf, zu) by unfold QW; rw [qn_int, qd_int]] at hsub
    refine Pw.list (Pw.call hsub rfl rfl rfl (by kernel_rfl) rfl rfl (fun w h => ⟨(hv w h : heldR ⟨qn y, qd y, zs⟩ w), (hv w h), (hv w h)⟩) ?_)
    intro zr _
    rw [show y - (y.floor : Rat) = fr y from rfl]
    repeat (first | (with_reducible first | refine Pw.seq ?_ | refine Pw.region ?_ | refine Pw.nil ?_ | refine Pw.then_ ?_ | refine Pw.skip ?_ | refine Pw.block ?_ | refine Pw.exit ?_ | refine Pw.inX ?_ | refine Pw.inN ?_ | refine Pw.inR ?_ | refine Pw.thenX ?_ | refine Pw.thenR ?_ | refine Pw.ret ?_) | refine Pw.list (Pw.pure rfl rfl rfl ?_) | refine Pw.inY rfl ?_ | refine Pw.list (Pw.off rfl rfl ?_) | refine Pw.condT rfl ?_ | refine Pw.condF rfl ?_ | refine Pw.list (Pw.box rfl rfl rfl rfl (fun _ => ?_)) | refine Pw.list (Pw.alloc rfl rfl rfl rfl rfl (fun _ => ?_)) | refine Pw.list (Pw.build rfl rfl rfl rfl ?_) | refine Pw.list (Pw.ld rfl inferInstance rfl rfl rfl ?_) | refine Pw.list (Pw.sto rfl rfl inferInstance rfl rfl rfl rfl rfl inferInstance rfl ?_))
    refine freeHead ?_
    repeat (first | (with_reducible first | refine Pw.seq ?_ | refine Pw.region ?_ | refine Pw.nil ?_ | refine Pw.then_ ?_ | refine Pw.skip ?_ | refine Pw.block ?_ | refine Pw.exit ?_ | refine Pw.inX ?_ | refine Pw.inN ?_ | refine Pw.inR ?_ | refine Pw.thenX ?_ | refine Pw.thenR ?_ | refine Pw.ret ?_) | refine Pw.list (Pw.pure rfl rfl rfl ?_) | refine Pw.inY rfl ?_ | refine Pw.list (Pw.off rfl rfl ?_) | refine Pw.condT rfl ?_ | refine Pw.condF rfl ?_ | refine Pw.list (Pw.box rfl rfl rfl rfl (fun _ => ?_)) | refine Pw.list (Pw.alloc rfl rfl rfl rfl rfl (fun _ => ?_)) | refine Pw.list (Pw.build rfl rfl rfl rfl ?_) | refine Pw.list (Pw.ld rfl inferInstance rfl rfl rfl ?_) | refine Pw.list (Pw.sto rfl rfl inferInstance rfl rfl rfl rfl rfl inferInstance rfl ?_))
    refine Pw.list (Pw.call (qAdd_ct hL (sz_fr hy) z9 zr (by omega)) rfl rfl rfl (by kernel_rfl) rfl rfl (fun w h => ⟨(hv w h), (hv w h)⟩) ?_)
    intro z9' _
    rw [← eL1]
    repeat (first | (with_reducible first | refine Pw.seq ?_ | refine Pw.region ?_ | refine Pw.nil ?_ | refine Pw.then_ ?_ | refine Pw.skip ?_ | refine Pw.block ?_ | refine Pw.exit ?_ | refine Pw.inX ?_ | refine Pw.inN ?_ | refine Pw.inR ?_ | refine Pw.thenX ?_ | refine Pw.thenR ?_ | refine Pw.ret ?_) | refine Pw.list (Pw.pure rfl rfl rfl ?_) | refine Pw.inY rfl ?_ | refine Pw.list (Pw.off rfl rfl ?_) | refine Pw.condT rfl ?_ | refine Pw.condF rfl ?_ | refine Pw.list (Pw.box rfl rfl rfl rfl (fun _ => ?_)) | refine Pw.list (Pw.alloc rfl rfl rfl rfl rfl (fun _ => ?_)) | refine Pw.list (Pw.build rfl rfl rfl rfl ?_) | refine Pw.list (Pw.ld rfl inferInstance rfl rfl rfl ?_) | refine Pw.list (Pw.sto rfl rfl inferInstance rfl rfl rfl rfl rfl inferInstance rfl ?_))
    refine Pw.drawnG mixed rfl rfl ?_
    refine Pw.takeP 0 (nb 12 1) rfl rfl rfl rfl (by kernel_rfl) np sf ?_
    refine Pw.takeP 1 (nb 12 3) rfl rfl rfl rfl (by kernel_rfl) np sf ?_
    refine Pw.takeP 4 (nb 12 19) rfl rfl rfl rfl (by kernel_rfl) np sf ?_
    refine Pw.takeP 5 (nb 12 51) rfl rfl rfl rfl (by kernel_rfl) np sf ?_
    refine Pw.takeF 6 (nb 12 115) rfl rfl inferInstance rfl rfl rfl (by kernel_rfl) np sf ?_
    refine Pw.takeBuild 7 (nb 12 243) rfl rfl rfl rfl rfl (by kernel_rfl) np sf ?_
    refine Pw.two 2 8 (nb 12 247) (nb 12 499) rfl rfl (by kernel_rfl) ?_ ?_
    · skip
      refine Pw.lit1 rfl rfl rfl rfl rfl rfl rfl rfl rfl (fun g1 => freeHead ?_)
      refine Pw.held sf ?_
      refine Pw.two 3 8 (nb 12 255) (nb 12 503) rfl rfl (by kernel_rfl) ?_ ?_
      · skip
        refine Pw.perm permRd1 ?_
        refine Pw.push (s := q1) (m := i) (cells := cellsN ns) (news := encN (natL y.floor, zf)) rfl rfl rfl rfl rfl rfl rfl hq1 rfl (fun u hu => by rw [List.mem_singleton.1 hu]; rfl) (fun w hs j u hu => by
          have h1 : w.heap[g1]? = some (row (encN (natL y.floor, zf)) 37) := by first | exact fact0 hs.all | exact fact1 hs.all | exact fact2 hs.all
          rw [add_none, cell_of_blk h1]
          simpa using hu) (by omega) (by simp only [maxLen]; omega) (by show (i + 1) * 24 ≤ _; omega) rfl rfl (fun q1' hq1' => ?_)
        rw [← cellsN_snoc] at hq1' ⊢
        refine Pw.perm permRd1.symm ?_
        refine Pw.held sf ?_
        refine Pw.one 8 (nb 12 511) rfl (by kernel_rfl) ?_
        refine Pw.lit13 rfl rfl rfl rfl rfl rfl rfl rfl rfl (fun g2 => freeHead ?_)
        refine Pw.held sf ?_
        refine Pw.one 9 (nb 12 1023) rfl (by kernel_rfl) ?_
        refine Pw.perm (permRd1.trans permRd2) ?_
        refine Pw.push (s := q2) (m := i) (cells := cellsO os) (news := encO ⟨(i : Int), qn (fr y), qd (fr y), zr⟩) rfl rfl rfl rfl rfl rfl rfl hq2 rfl (encO_one _) (fun w hs j u hu => by
          have h1 : w.heap[g2]? = some (row (encO ⟨(i : Int), qn (fr y), qd (fr y), zr⟩) 90) := by first | exact fact0 hs.all | exact fact1 hs.all | exact fact2 hs.all
          rw [add_none, cell_of_blk h1]
          simpa using hu) (by omega) (by simp only [maxLen]; omega) (by show (i + 1) * 56 ≤ _; omega) rfl rfl (fun q2' hq2' => ?_)
        rw [← cellsO_snoc] at hq2' ⊢
        refine Pw.perm permRd3 ?_
        refine Pw.held sf ?_
        refine Pw.takeP 10 (nb 12 2047) rfl rfl rfl rfl (by kernel_rfl) np sf ?_
        refine Pw.takeP 11 (nb 12 4095) rfl rfl rfl rfl (by kernel_rfl) np sf ?_
        refine Pw.done (by kernel_rfl) ?_
        repeat (first | (with_reducible first | refine Pw.seq ?_ | refine Pw.region ?_ | refine Pw.nil ?_ | refine Pw.then_ ?_ | refine Pw.skip ?_ | refine Pw.block ?_ | refine Pw.exit ?_ | refine Pw.inX ?_ | refine Pw.inN ?_ | refine Pw.inR ?_ | refine Pw.thenX ?_ | refine Pw.thenR ?_ | refine Pw.ret ?_) | refine Pw.list (Pw.pure rfl rfl rfl ?_) | refine Pw.inY rfl ?_ | refine Pw.list (Pw.off rfl rfl ?_) | refine Pw.condT rfl ?_ | refine Pw.condF rfl ?_ | refine Pw.list (Pw.box rfl rfl rfl rfl (fun _ => ?_)) | refine Pw.list (Pw.alloc rfl rfl rfl rfl rfl (fun _ => ?_)) | refine Pw.list (Pw.build rfl rfl rfl rfl ?_) | refine Pw.list (Pw.ld rfl inferInstance rfl rfl rfl ?_) | refine Pw.list (Pw.sto rfl rfl inferInstance rfl rfl rfl rfl rfl inferInstance rfl ?_))
        refine Pw.re (d := 38) (v' := .int .i64 ((i + 1 : Nat) : Int)) rfl (congrArg (Value.int .i64) (i64s (n := 100000) (by omega) (by omega))) ?_
        exact Pw.again (i + 1, ns ++ [(natL y.floor, zf)], os ++ [⟨(i : Int), qn (fr y), qd (fr y), zr⟩], q1', q2', z7', z9') ⟨by omega, by rw [em, List.map_append, hns]; unfold flL; rw [List.map_append]; rfl, by
          rw [em]; have := OsOk_snoc hos y zr; rwa [List.length_map, List.length_take, Nat.min_eq_left hi] at this, hq1', hq2'⟩ (by show l.length - (i + 1) < l.length - i; omega) ⟨rfl, rfl, rfl, rfl, rfl, rfl, rfl, rfl, trivial⟩ rfl (fun w h => allCons (hv w h) (allCons (hv w h) (allCons (hv w h) (allCons (hv w h) (allCons (fun p hp => by
          rcases List.mem_append.1 hp with hp | hp
          · exact (hv w h : AllN ns w) p hp
          · rw [List.mem_singleton.1 hp]; exact (hv w h : S1 (natL y.floor) zf w)) (allCons (fun p hp => by
          rcases List.mem_append.1 hp with hp | hp
          · exact (hv w h : AllO os w) p hp
          · rw [List.mem_singleton.1 hp]; exact (hv w h : QW (fr y) zr w)) allNil))))))
      · skip
        refine Pw.lit13 rfl rfl rfl rfl rfl rfl rfl rfl rfl (fun g2 => freeHead ?_)
        refine Pw.held sf ?_
        refine Pw.one 3 (nb 12 511) rfl (by kernel_rfl) ?_
        refine Pw.perm permRd1 ?_
        refine Pw.push (s := q1) (m := i) (cells := cellsN ns) (news := encN (natL y.floor, zf)) rfl rfl rfl rfl rfl rfl rfl hq1 rfl (fun u hu => by rw [List.mem_singleton.1 hu]; rfl) (fun w hs j u hu => by
          have h1 : w.heap[g1]? = some (row (encN (natL y.floor, zf)) 37) := by first | exact fact0 hs.all | exact fact1 hs.all | exact fact2 hs.all
          rw [add_none, cell_of_blk h1]
          simpa using hu) (by omega) (by simp only [maxLen]; omega) (by show (i + 1) * 24 ≤ _; omega) rfl rfl (fun q1' hq1' => ?_)
        rw [← cellsN_snoc] at hq1' ⊢
        refine Pw.perm permRd1.symm ?_
        refine Pw.held sf ?_
        refine Pw.one 9 (nb 12 1023) rfl (by kernel_rfl) ?_
        refine Pw.perm (permRd1.trans permRd2) ?_
        refine Pw.push (s := q2) (m := i) (cells := cellsO os) (news := encO ⟨(i : Int), qn (fr y), qd (fr y), zr⟩) rfl rfl rfl rfl rfl rfl rfl hq2 rfl (encO_one _) (fun w hs j u hu => by
          have h1 : w.heap[g2]? = some (row (encO ⟨(i : Int), qn (fr y), qd (fr y), zr⟩) 90) := by first | exact fact0 hs.all | exact fact1 hs.all | exact fact2 hs.all
          rw [add_none, cell_of_blk h1]
          simpa using hu) (by omega) (by simp only [maxLen]; omega) (by show (i + 1) * 56 ≤ _; omega) rfl rfl (fun q2' hq2' => ?_)
        rw [← cellsO_snoc] at hq2' ⊢
        refine Pw.perm permRd3 ?_
        refine Pw.held sf ?_
        refine Pw.takeP 10 (nb 12 2047) rfl rfl rfl rfl (by kernel_rfl) np sf ?_
        refine Pw.takeP 11 (nb 12 4095) rfl rfl rfl rfl (by kernel_rfl) np sf ?_
        refine Pw.done (by kernel_rfl) ?_
        repeat (first | (with_reducible first | refine Pw.seq ?_ | refine Pw.region ?_ | refine Pw.nil ?_ | refine Pw.then_ ?_ | refine Pw.skip ?_ | refine Pw.block ?_ | refine Pw.exit ?_ | refine Pw.inX ?_ | refine Pw.inN ?_ | refine Pw.inR ?_ | refine Pw.thenX ?_ | refine Pw.thenR ?_ | refine Pw.ret ?_) | refine Pw.list (Pw.pure rfl rfl rfl ?_) | refine Pw.inY rfl ?_ | refine Pw.list (Pw.off rfl rfl ?_) | refine Pw.condT rfl ?_ | refine Pw.condF rfl ?_ | refine Pw.list (Pw.box rfl rfl rfl rfl (fun _ => ?_)) | refine Pw.list (Pw.alloc rfl rfl rfl rfl rfl (fun _ => ?_)) | refine Pw.list (Pw.build rfl rfl rfl rfl ?_) | refine Pw.list (Pw.ld rfl inferInstance rfl rfl rfl ?_) | refine Pw.list (Pw.sto rfl rfl inferInstance rfl rfl rfl rfl rfl inferInstance rfl ?_))
        refine Pw.re (d := 38) (v' := .int .i64 ((i + 1 : Nat) : Int)) rfl (congrArg (Value.int .i64) (i64s (n := 100000) (by omega) (by omega))) ?_
        exact Pw.again (i + 1, ns ++ [(natL y.floor, zf)], os ++ [⟨(i : Int), qn (fr y), qd (fr y), zr⟩], q1', q2', z7', z9') ⟨by omega, by rw [em, List.map_append, hns]; unfold flL; rw [List.map_append]; rfl, by
          rw [em]; have := OsOk_snoc hos y zr; rwa [List.length_map, List.length_take, Nat.min_eq_left hi] at this, hq1', hq2'⟩ (by show l.length - (i + 1) < l.length - i; omega) ⟨rfl, rfl, rfl, rfl, rfl, rfl, rfl, rfl, trivial⟩ rfl (fun w h => allCons (hv w h) (allCons (hv w h) (allCons (hv w h) (allCons (hv w h) (allCons (fun p hp => by
          rcases List.mem_append.1 hp with hp | hp
          · exact (hv w h : AllN ns w) p hp
          · rw [List.mem_singleton.1 hp]; exact (hv w h : S1 (natL y.floor) zf w)) (allCons (fun p hp => by
          rcases List.mem_append.1 hp with hp | hp
          · exact (hv w h : AllO os w) p hp
          · rw [List.mem_singleton.1 hp]; exact (hv w h : QW (fr y) zr w)) allNil))))))
    · skip
      refine Pw.lit13 rfl rfl rfl rfl rfl rfl rfl rfl rfl (fun g2 => freeHead ?_)
      refine Pw.held sf ?_
      refine Pw.one 2 (nb 12 503) rfl (by kernel_rfl) ?_
      refine Pw.lit1 rfl rfl rfl rfl rfl rfl rfl rfl rfl (fun g1 => freeHead ?_)
      refine Pw.held sf ?_
      refine Pw.one 3 (nb 12 511) rfl (by kernel_rfl) ?_
      refine Pw.perm permRd1 ?_
      refine Pw.push (s := q1) (m := i) (cells := cellsN ns) (news := encN (natL y.floor, zf)) rfl rfl rfl rfl rfl rfl rfl hq1 rfl (fun u hu => by rw [List.mem_singleton.1 hu]; rfl) (fun w hs j u hu => by
        have h1 : w.heap[g1]? = some (row (encN (natL y.floor, zf)) 37) := by first | exact fact0 hs.all | exact fact1 hs.all | exact fact2 hs.all
        rw [add_none, cell_of_blk h1]
        simpa using hu) (by omega) (by simp only [maxLen]; omega) (by show (i + 1) * 24 ≤ _; omega) rfl rfl (fun q1' hq1' => ?_)
      rw [← cellsN_snoc] at hq1' ⊢
      refine Pw.perm permRd1.symm ?_
      refine Pw.held sf ?_
      refine Pw.one 9 (nb 12 1023) rfl (by kernel_rfl) ?_
      refine Pw.perm (permRd1.trans permRd2) ?_
      refine Pw.push (s := q2) (m := i) (cells := cellsO os) (news := encO ⟨(i : Int), qn (fr y), qd (fr y), zr⟩) rfl rfl rfl rfl rfl rfl rfl hq2 rfl (encO_one _) (fun w hs j u hu => by
        have h1 : w.heap[g2]? = some (row (encO ⟨(i : Int), qn (fr y), qd (fr y), zr⟩) 90) := by first | exact fact0 hs.all | exact fact1 hs.all | exact fact2 hs.all
        rw [add_none, cell_of_blk h1]
        simpa using hu) (by omega) (by simp only [maxLen]; omega) (by show (i + 1) * 56 ≤ _; omega) rfl rfl (fun q2' hq2' => ?_)
      rw [← cellsO_snoc] at hq2' ⊢
      refine Pw.perm permRd3 ?_
      refine Pw.held sf ?_
      refine Pw.takeP 10 (nb 12 2047) rfl rfl rfl rfl (by kernel_rfl) np sf ?_
      refine Pw.takeP 11 (nb 12 4095) rfl rfl rfl rfl (by kernel_rfl) np sf ?_
      refine Pw.done (by kernel_rfl) ?_
      repeat (first | (with_reducible first | refine Pw.seq ?_ | refine Pw.region ?_ | refine Pw.nil ?_ | refine Pw.then_ ?_ | refine Pw.skip ?_ | refine Pw.block ?_ | refine Pw.exit ?_ | refine Pw.inX ?_ | refine Pw.inN ?_ | refine Pw.inR ?_ | refine Pw.thenX ?_ | refine Pw.thenR ?_ | refine Pw.ret ?_) | refine Pw.list (Pw.pure rfl rfl rfl ?_) | refine Pw.inY rfl ?_ | refine Pw.list (Pw.off rfl rfl ?_) | refine Pw.condT rfl ?_ | refine Pw.condF rfl ?_ | refine Pw.list (Pw.box rfl rfl rfl rfl (fun _ => ?_)) | refine Pw.list (Pw.alloc rfl rfl rfl rfl rfl (fun _ => ?_)) | refine Pw.list (Pw.build rfl rfl rfl rfl ?_) | refine Pw.list (Pw.ld rfl inferInstance rfl rfl rfl ?_) | refine Pw.list (Pw.sto rfl rfl inferInstance rfl rfl rfl rfl rfl inferInstance rfl ?_))
      refine Pw.re (d := 38) (v' := .int .i64 ((i + 1 : Nat) : Int)) rfl (congrArg (Value.int .i64) (i64s (n := 100000) (by omega) (by omega))) ?_
      exact Pw.again (i + 1, ns ++ [(natL y.floor, zf)], os ++ [⟨(i : Int), qn (fr y), qd (fr y), zr⟩], q1', q2', z7', z9') ⟨by omega, by rw [em, List.map_append, hns]; unfold flL; rw [List.map_append]; rfl, by
        rw [em]; have := OsOk_snoc hos y zr; rwa [List.length_map, List.length_take, Nat.min_eq_left hi] at this, hq1', hq2'⟩ (by show l.length - (i + 1) < l.length - i; omega) ⟨rfl, rfl, rfl, rfl, rfl, rfl, rfl, rfl, trivial⟩ rfl (fun w h => allCons (hv w h) (allCons (hv w h) (allCons (hv w h) (allCons (hv w h) (allCons (fun p hp => by
        rcases List.mem_append.1 hp with hp | hp
        · exact (hv w h : AllN ns w) p hp
        · rw [List.mem_singleton.1 hp]; exact (hv w h : S1 (natL y.floor) zf w)) (allCons (fun p hp => by
        rcases List.mem_append.1 hp with hp | hp
        · exact (hv w h : AllO os w) p hp
        · rw [List.mem_singleton.1 hp]; exact (hv w h : QW (fr y) zr w)) allNil))))))
  · obtain rfl : i = l.length := by omega
    rw [List.take_length] at hns hos
    have hol : os.length = l.length := by rw [hos.1, List.length_map]
    obtain _ | ⟨g2, cap2, ex2⟩ := q2
    · have := hq2.1; omega
    obtain _ | ⟨g1, cap1, ex1⟩ := q1
    · have := hq1.1; omega
    repeat (first | (with_reducible first | refine Pw.seq ?_ | refine Pw.region ?_ | refine Pw.nil ?_ | refine Pw.then_ ?_ | refine Pw.skip ?_ | refine Pw.block ?_ | refine Pw.exit ?_ | refine Pw.inX ?_ | refine Pw.inN ?_ | refine Pw.inR ?_ | refine Pw.thenX ?_ | refine Pw.thenR ?_ | refine Pw.ret ?_) | refine Pw.list (Pw.pure rfl rfl rfl ?_) | refine Pw.inY rfl ?_ | refine Pw.list (Pw.off rfl rfl ?_) | refine Pw.condT rfl ?_ | refine Pw.condF rfl ?_ | refine Pw.list (Pw.box rfl rfl rfl rfl (fun _ => ?_)) | refine Pw.list (Pw.alloc rfl rfl rfl rfl rfl (fun _ => ?_)) | refine Pw.list (Pw.build rfl rfl rfl rfl ?_) | refine Pw.list (Pw.ld rfl inferInstance rfl rfl rfl ?_) | refine Pw.list (Pw.sto rfl rfl inferInstance rfl rfl rfl rfl rfl inferInstance rfl ?_))
    refine Pw.re (d := 85) (v' := .slice (some ⟨g2, 0, none⟩) os.length cap2) rfl (by rw [hol]; rfl) ?_
    refine Pw.perm (permRd1.trans permRd2) ?_
    have honq := hos.onq hz
    refine Pw.list (Pw.call1 (SortStable_ct os ex2 g2 cap2 (fun p hp => by
      obtain ⟨k1, k2, k3⟩ := honq p hp
      have h1 := k3.ln; have h2 := k3.ld
      exact ⟨⟨by rw [k1]; exact qn_lm _, by rw [k2]; exact qd_lm _⟩, by rw [k1]; omega, by rw [k2]; omega⟩) (by omega)) rfl rfl rfl (by kernel_rfl) rfl rfl (fun w h => (hv w h)) (.head _) (fun _ => .head) ?_)
    intro _ _
    have hso := ord_uniq (sorted_ord (by omega) hos hz) ho
    obtain ⟨so, hsod⟩ : ∃ so, so = insO os.length os := ⟨_, rfl⟩
    have hsp : so.Perm os := by rw [hsod]; exact insO_perm _ _
    rw [← hsod] at hso ⊢
    have hsl : so.length = l.length := by rw [hsp.length_eq, hol]
    refine freeHead (g := g2) (o := row (so.flatMap encO ++ ex2) 90) ?_
    refine Pw.facts (G' := [S1 [1] zu, QW (LO l l.length) z9, AllN ns, Rows (RR encO heldO) 3 so (some ⟨g2, 0, none⟩) cap2]) (fun w h => allCons (hv w h) (allCons (hv w h) (allCons (hv w h) (allCons (rows_of_row (fact0 h) (fun _ _ => rfl) (fun p hp => (hv w h : AllO os w) p (hsp.mem_iff.1 hp)) (by have := hq2.2.1; omega) (by rw [hsl]; simp only [maxLen]; omega) (by omega)) allNil)))) ?_
    refine Pw.perm (L' := [⟨g9, row [sl (qn (LO l l.length)) z9.1, sl (qd (LO l l.length)) z9.2] 39⟩, ⟨g7, row [sl (qn (SO l l.length)) z7.1, sl (qd (SO l l.length)) z7.2] 39⟩, ⟨g1, row (cellsN ns ++ ex1) 37⟩]) (List.perm_append_comm (l₁ := gL (some (g1, cap1, ex1)) (cellsN ns) 37)) ?_
    repeat (first | (with_reducible first | refine Pw.seq ?_ | refine Pw.region ?_ | refine Pw.nil ?_ | refine Pw.then_ ?_ | refine Pw.skip ?_ | refine Pw.block ?_ | refine Pw.exit ?_ | refine Pw.inX ?_ | refine Pw.inN ?_ | refine Pw.inR ?_ | refine Pw.thenX ?_ | refine Pw.thenR ?_ | refine Pw.ret ?_) | refine Pw.list (Pw.pure rfl rfl rfl ?_) | refine Pw.inY rfl ?_ | refine Pw.list (Pw.off rfl rfl ?_) | refine Pw.condT rfl ?_ | refine Pw.condF rfl ?_ | refine Pw.list (Pw.box rfl rfl rfl rfl (fun _ => ?_)) | refine Pw.list (Pw.alloc rfl rfl rfl rfl rfl (fun _ => ?_)) | refine Pw.list (Pw.build rfl rfl rfl rfl ?_) | refine Pw.list (Pw.ld rfl inferInstance rfl rfl rfl ?_) | refine Pw.list (Pw.sto rfl rfl inferInstance rfl rfl rfl rfl rfl inferInstance rfl ?_))
    have hLs := LO_sz hz l.length (Nat.le_refl _)
    have hib : l.length * (K + 1) ≤ 20 * 18 := Nat.mul_le_mul (by omega) (by omega)
    refine Pw.list (Pw.call (qFloor_ct hLs z9 (by omega)) rfl rfl rfl (by kernel_rfl) rfl rfl (fun w h => (hv w h)) ?_)
    intro zm _
    have hLe : (LO l l.length).floor = ((manyQ (l.map rq) : Nat) : Int) := by rw [manyQ_eq]; unfold LO; rw [List.take_length]
    have hMl := manyQ_le (l.map rq)
    rw [List.length_map] at hMl
    obtain ⟨M, hM⟩ : ∃ M, M = manyQ (l.map rq) := ⟨_, rfl⟩
    rw [hLe]
    have eW : wholeQ (l.map rq) o = bumps (flL (l.map rq)) (o.take M) := by rw [hM]; rfl
    rw [← hM] at hMl ⊢
    have hMn := natL_len_le (n := 1) (show 0 ≤ ((M : Nat) : Int) by omega) (by show _ < (4294967296 : Int); omega)
    repeat (first | (with_reducible first | refine Pw.seq ?_ | refine Pw.region ?_ | refine Pw.nil ?_ | refine Pw.then_ ?_ | refine Pw.skip ?_ | refine Pw.block ?_ | refine Pw.exit ?_ | refine Pw.inX ?_ | refine Pw.inN ?_ | refine Pw.inR ?_ | refine Pw.thenX ?_ | refine Pw.thenR ?_ | refine Pw.ret ?_) | refine Pw.list (Pw.pure rfl rfl rfl ?_) | refine Pw.inY rfl ?_ | refine Pw.list (Pw.off rfl rfl ?_) | refine Pw.condT rfl ?_ | refine Pw.condF rfl ?_ | refine Pw.list (Pw.box rfl rfl rfl rfl (fun _ => ?_)) | refine Pw.list (Pw.alloc rfl rfl rfl rfl rfl (fun _ => ?_)) | refine Pw.list (Pw.build rfl rfl rfl rfl ?_) | refine Pw.list (Pw.ld rfl inferInstance rfl rfl rfl ?_) | refine Pw.list (Pw.sto rfl rfl inferInstance rfl rfl rfl rfl rfl inferInstance rfl ?_))
    refine Pw.list (Pw.call (Low_ct (natL ((M : Nat) : Int)) zm (natL_fm _).1 (by omega)) rfl rfl rfl (by kernel_rfl) rfl rfl (fun w h => (hv w h)) ?_)
    intro _ _
    rw [show lowN (natL ((M : Nat) : Int)) = (((M : Nat) : Int), true) by unfold lowN; rw [if_pos ⟨fmB_natL (by omega), by omega⟩, val_natL (by omega)]]
    repeat (first | (with_reducible first | refine Pw.seq ?_ | refine Pw.region ?_ | refine Pw.nil ?_ | refine Pw.then_ ?_ | refine Pw.skip ?_ | refine Pw.block ?_ | refine Pw.exit ?_ | refine Pw.inX ?_ | refine Pw.inN ?_ | refine Pw.inR ?_ | refine Pw.thenX ?_ | refine Pw.thenR ?_ | refine Pw.ret ?_) | refine Pw.list (Pw.pure rfl rfl rfl ?_) | refine Pw.inY rfl ?_ | refine Pw.list (Pw.off rfl rfl ?_) | refine Pw.condT rfl ?_ | refine Pw.condF rfl ?_ | refine Pw.list (Pw.box rfl rfl rfl rfl (fun _ => ?_)) | refine Pw.list (Pw.alloc rfl rfl rfl rfl rfl (fun _ => ?_)) | refine Pw.list (Pw.build rfl rfl rfl rfl ?_) | refine Pw.list (Pw.ld rfl inferInstance rfl rfl rfl ?_) | refine Pw.list (Pw.sto rfl rfl inferInstance rfl rfl rfl rfl rfl inferInstance rfl ?_))
    refine Pw.list (Pw.cutTo rfl rfl rfl rfl (show (0 : Int) ≤ ((M : Nat) : Int) by omega) (by have := hq2.2.1; omega) rfl rfl ?_)
    refine Pw.re (d := 99) (v' := .slice (some ⟨g2, 0, none⟩) M cap2) rfl (by rw [Int.toNat_natCast]) ?_
    refine Pw.drop (Pw.drop ?_)
    repeat (first | (with_reducible first | refine Pw.seq ?_ | refine Pw.region ?_ | refine Pw.nil ?_ | refine Pw.then_ ?_ | refine Pw.skip ?_ | refine Pw.block ?_ | refine Pw.exit ?_ | refine Pw.inX ?_ | refine Pw.inN ?_ | refine Pw.inR ?_ | refine Pw.thenX ?_ | refine Pw.thenR ?_ | refine Pw.ret ?_) | refine Pw.list (Pw.pure rfl rfl rfl ?_) | refine Pw.inY rfl ?_ | refine Pw.list (Pw.off rfl rfl ?_) | refine Pw.condT rfl ?_ | refine Pw.condF rfl ?_ | refine Pw.list (Pw.box rfl rfl rfl rfl (fun _ => ?_)) | refine Pw.list (Pw.alloc rfl rfl rfl rfl rfl (fun _ => ?_)) | refine Pw.list (Pw.build rfl rfl rfl rfl ?_) | refine Pw.list (Pw.ld rfl inferInstance rfl rfl rfl ?_) | refine Pw.list (Pw.sto rfl rfl inferInstance rfl rfl rfl rfl rfl inferInstance rfl ?_))
    have hns0 : ns.map Prod.fst = bumps (flL (l.map rq)) (o.take 0) := by rw [hns]; rfl
    refine Pw.facts (G' := [S1 [1] zu, AllN ns, Rows (RR encO heldO) 3 so (some ⟨g2, 0, none⟩) cap2]) (fun w h => allCons (hv w h) (allCons (hv w h) (allCons (hv w h) allNil))) ?_
    have h1l : ns.length = l.length := by have := congrArg List.length hns; rw [List.length_map] at this; rw [this]; simp [flL]
    refine Pw.loopJ (σ := Nat × List Nt) (fun t => t.1 ≤ M ∧ t.2.map Prod.fst = bumps (flL (l.map rq)) (o.take t.1) ∧ t.2.length = l.length) (fun t => ⟨[(4, gv (some (g1, cap1, ex1)) l.length), (6, sl [1] zu), (99, .slice (some ⟨g2, 0, none⟩) M cap2), (100, .int .i64 M), (101, .int .i64 t.1)], [⟨g1, row (cellsN t.2 ++ ex1) 37⟩], [S1 [1] zu, AllN t.2, Rows (RR encO heldO) 3 so (some ⟨g2, 0, none⟩) cap2]⟩) (fun t => M - t.1) (0, ns) ⟨Nat.zero_le _, hns0, h1l⟩ (Pw.enter ⟨rfl, rfl, rfl, rfl, rfl, trivial⟩ (fun w h => h)) ?_
    have hq1c := hq1.2.1
    have hq1e := hq1.2.2
    rw [List.length_append, cellsN_len, h1l] at hq1e
    clear hq1 hq2 hns hns0 h1l
    clear ns
    rintro ⟨k, ns⟩ ⟨hk, hns, hnl⟩
    dsimp only at hk hns hnl ⊢
    repeat (first | (with_reducible first | refine Pw.seq ?_ | refine Pw.region ?_ | refine Pw.nil ?_ | refine Pw.then_ ?_ | refine Pw.skip ?_ | refine Pw.block ?_ | refine Pw.exit ?_ | refine Pw.inX ?_ | refine Pw.inN ?_ | refine Pw.inR ?_ | refine Pw.thenX ?_ | refine Pw.thenR ?_ | refine Pw.ret ?_) | refine Pw.list (Pw.pure rfl rfl rfl ?_) | refine Pw.inY rfl ?_ | refine Pw.list (Pw.off rfl rfl ?_) | refine Pw.condT rfl ?_ | refine Pw.condF rfl ?_ | refine Pw.list (Pw.box rfl rfl rfl rfl (fun _ => ?_)) | refine Pw.list (Pw.alloc rfl rfl rfl rfl rfl (fun _ => ?_)) | refine Pw.list (Pw.build rfl rfl rfl rfl ?_) | refine Pw.list (Pw.ld rfl inferInstance rfl rfl rfl ?_) | refine Pw.list (Pw.sto rfl rfl inferInstance rfl rfl rfl rfl rfl inferInstance rfl ?_))
    refine Pw.condD rfl (fun c4 => ?_) (fun c4 => ?_)
    · obtain ⟨p, hp, hpm⟩ := get_at (show k < so.length by omega)
      have hpo := hos.key (hsp.mem_iff.1 hpm)
      rw [List.length_map] at hpo
      have hok : o[k]? = some p.at_.toNat := by rw [← hso, List.getElem?_map, hp]; rfl
      obtain ⟨hpa0, hpa1, _⟩ := hpo
      have hpa2 : p.at_ < (l.length : Int) := by omega
      obtain ⟨yy, hyy, hyym⟩ := get_at (show p.at_.toNat < (l.map rq).length by rw [List.length_map]; exact hpa1)
      have hyz := hz yy hyym
      have hab := at_bumps ho hok
      have hst := bumps_step ho hok (by rw [qAt_get hyy]; exact floor_nn hyz.p)
      rw [qAt_get hyy, ← hns] at hab hst
      obtain ⟨⟨f, zf⟩, hnf, hnfm⟩ := get_at (show p.at_.toNat < ns.length by omega)
      have hf : f = natL yy.floor := by rw [List.getElem?_map, hnf] at hab; injection hab
      subst hf
      repeat (first | (with_reducible first | refine Pw.seq ?_ | refine Pw.region ?_ | refine Pw.nil ?_ | refine Pw.then_ ?_ | refine Pw.skip ?_ | refine Pw.block ?_ | refine Pw.exit ?_ | refine Pw.inX ?_ | refine Pw.inN ?_ | refine Pw.inR ?_ | refine Pw.thenX ?_ | refine Pw.thenR ?_ | refine Pw.ret ?_) | refine Pw.list (Pw.pure rfl rfl rfl ?_) | refine Pw.inY rfl ?_ | refine Pw.list (Pw.off rfl rfl ?_) | refine Pw.condT rfl ?_ | refine Pw.condF rfl ?_ | refine Pw.list (Pw.box rfl rfl rfl rfl (fun _ => ?_)) | refine Pw.list (Pw.alloc rfl rfl rfl rfl rfl (fun _ => ?_)) | refine Pw.list (Pw.build rfl rfl rfl rfl ?_) | refine Pw.list (Pw.ld rfl inferInstance rfl rfl rfl ?_) | refine Pw.list (Pw.sto rfl rfl inferInstance rfl rfl rfl rfl rfl inferInstance rfl ?_))
      refine Pw.list (Pw.indexS rfl rfl rfl rfl (Int.natCast_nonneg k) c4 rfl rfl ?_)
      refine Pw.list (Pw.loadR p rfl inferInstance rfl (by rw [Int.toNat_natCast]; exact hp) (by kernel_rfl) rfl rfl ?_)
      refine Pw.re (d := 104) (v' := onV p) rfl rfl ?_
      repeat (first | (with_reducible first | refine Pw.seq ?_ | refine Pw.region ?_ | refine Pw.nil ?_ | refine Pw.then_ ?_ | refine Pw.skip ?_ | refine Pw.block ?_ | refine Pw.exit ?_ | refine Pw.inX ?_ | refine Pw.inN ?_ | refine Pw.inR ?_ | refine Pw.thenX ?_ | refine Pw.thenR ?_ | refine Pw.ret ?_) | refine Pw.list (Pw.pure rfl rfl rfl ?_) | refine Pw.inY rfl ?_ | refine Pw.list (Pw.off rfl rfl ?_) | refine Pw.condT rfl ?_ | refine Pw.condF rfl ?_ | refine Pw.list (Pw.box rfl rfl rfl rfl (fun _ => ?_)) | refine Pw.list (Pw.alloc rfl rfl rfl rfl rfl (fun _ => ?_)) | refine Pw.list (Pw.build rfl rfl rfl rfl ?_) | refine Pw.list (Pw.ld rfl inferInstance rfl rfl rfl ?_) | refine Pw.list (Pw.sto rfl rfl inferInstance rfl rfl rfl rfl rfl inferInstance rfl ?_))
      refine freeHead ?_
      have hadd := qAddN_ct (a := yy.floor) (b := 1) zf zu (floor_nn hyz.p) (by omega) (m := K) (sz_floor hyz) (by have := pw_le hK.1; have e : pw 1 = 4294967296 := rfl; omega) (by omega)
      rw [natL_one] at hadd
      refine Pw.drawnG mixed rfl rfl ?_
      refine Pw.takeP 0 (nb 15 1) rfl rfl rfl rfl (by kernel_rfl) np sf ?_
      refine Pw.takeP 1 (nb 15 3) rfl rfl rfl rfl (by kernel_rfl) np sf ?_
      refine Pw.takeF 2 (nb 15 7) rfl rfl inferInstance rfl rfl rfl (by kernel_rfl) np sf ?_
      refine Pw.takeP 3 (nb 15 15) rfl rfl rfl rfl (by kernel_rfl) np sf ?_
      refine Pw.takeP 4 (nb 15 31) rfl rfl rfl rfl (by kernel_rfl) np sf ?_
      refine Pw.takeF 5 (nb 15 63) rfl rfl inferInstance rfl rfl rfl (by kernel_rfl) np sf ?_
      refine Pw.takeIx 6 (nb 15 127) rfl rfl rfl rfl rfl (by first | assumption | omega) (by first | assumption | omega) rfl rfl (by kernel_rfl) np sf ?_
      refine Pw.takeP 8 (nb 15 383) rfl rfl rfl rfl (by kernel_rfl) np sf ?_
      refine Pw.one 7 (nb 15 511) rfl (by kernel_rfl) ?_
      refine Pw.load1 (v := sl (natL yy.floor) zf) rfl rfl (fun w hs => by
        have hb : w.heap[g1]? = some (row (cellsN ns ++ ex1) 37) := hs.own _ (.head _)
        show w.cell? (Addr.add ⟨g1, 0, none⟩ (p.at_.toNat * 1)) = _
        rw [Nat.mul_one, add_none, Nat.zero_add, cell_of_blk hb, List.getElem?_append_left (by rw [cellsN_len]; omega), cellsN_map, List.getElem?_map, hnf]; rfl) rfl rfl ?_
      refine Pw.held sf ?_
      refine Pw.one 9 (nb 15 1023) rfl (by kernel_rfl) ?_
      refine Pw.call hadd rfl rfl rfl (by kernel_rfl) rfl rfl (fun w h => ⟨(hv w h : AllN ns w) _ hnfm, (hv w h)⟩) ?_
      intro z' _
      refine Pw.held sf ?_
      refine Pw.takeP 10 (nb 15 2047) rfl rfl rfl rfl (by kernel_rfl) np sf ?_
      refine Pw.takeP 11 (nb 15 4095) rfl rfl rfl rfl (by kernel_rfl) np sf ?_
      refine Pw.takeP 12 (nb 15 8191) rfl rfl rfl rfl (by kernel_rfl) np sf ?_
      refine Pw.takeIx 13 (nb 15 16383) rfl rfl rfl rfl rfl (by first | assumption | omega) (by first | assumption | omega) rfl rfl (by kernel_rfl) np sf ?_
      refine Pw.one 14 (nb 15 32767) rfl (by kernel_rfl) ?_
      refine Pw.re (d := 118) (v' := .pointer (some ⟨g1, p.at_.toNat, none⟩)) rfl (by show Value.pointer (some (Addr.add ⟨g1, 0, none⟩ (p.at_.toNat * 1))) = _; rw [Nat.mul_one, add_none, Nat.zero_add]) ?_
      refine Pw.re (d := 116) (v' := sl (natL (yy.floor + 1)) z') rfl rfl ?_
      refine Pw.storeO (cs := cellsN ns ++ ex1) (cs' := cellsN (ns.set p.at_.toNat (natL (yy.floor + 1), z')) ++ ex1) rfl rfl rfl rfl rfl (by rw [List.length_append, cellsN_len]; omega) (by rw [List.set_append_left _ _ (by rw [cellsN_len]; omega)]; simp only [cellsN_map, List.map_set]) .head rfl ?_
      refine Pw.held sf ?_
      refine Pw.done (by kernel_rfl) ?_
      repeat (first | (with_reducible first | refine Pw.seq ?_ | refine Pw.region ?_ | refine Pw.nil ?_ | refine Pw.then_ ?_ | refine Pw.skip ?_ | refine Pw.block ?_ | refine Pw.exit ?_ | refine Pw.inX ?_ | refine Pw.inN ?_ | refine Pw.inR ?_ | refine Pw.thenX ?_ | refine Pw.thenR ?_ | refine Pw.ret ?_) | refine Pw.list (Pw.pure rfl rfl rfl ?_) | refine Pw.inY rfl ?_ | refine Pw.list (Pw.off rfl rfl ?_) | refine Pw.condT rfl ?_ | refine Pw.condF rfl ?_ | refine Pw.list (Pw.box rfl rfl rfl rfl (fun _ => ?_)) | refine Pw.list (Pw.alloc rfl rfl rfl rfl rfl (fun _ => ?_)) | refine Pw.list (Pw.build rfl rfl rfl rfl ?_) | refine Pw.list (Pw.ld rfl inferInstance rfl rfl rfl ?_) | refine Pw.list (Pw.sto rfl rfl inferInstance rfl rfl rfl rfl rfl inferInstance rfl ?_))
      refine Pw.re (d := 101) (v' := .int .i64 ((k + 1 : Nat) : Int)) rfl (congrArg (Value.int .i64) (i64s (n := 100000) (by omega) (by omega))) ?_
      exact Pw.again (k + 1, ns.set p.at_.toNat (natL (yy.floor + 1), z')) ⟨by omega, by rw [List.map_set]; exact hst.symm, by rw [List.length_set]; exact hnl⟩ (by show M - (k + 1) < M - k; omega) ⟨rfl, rfl, rfl, rfl, rfl, trivial⟩ rfl (fun w h => allCons (hv w h) (allCons (fun r hr => by
        rcases List.mem_or_eq_of_mem_set hr with hr | rfl
        · exact (hv w h : AllN ns w) r hr
        · exact (hv w h : S1 (natL (yy.floor + 1)) z' w)) (allCons (hv w h) allNil)))
    · obtain rfl : k = M := by omega
      have hwl := wholeQ_len (l.map rq) o
      rw [List.length_map] at hwl
      repeat (first | (with_reducible first | refine Pw.seq ?_ | refine Pw.region ?_ | refine Pw.nil ?_ | refine Pw.then_ ?_ | refine Pw.skip ?_ | refine Pw.block ?_ | refine Pw.exit ?_ | refine Pw.inX ?_ | refine Pw.inN ?_ | refine Pw.inR ?_ | refine Pw.thenX ?_ | refine Pw.thenR ?_ | refine Pw.ret ?_) | refine Pw.list (Pw.pure rfl rfl rfl ?_) | refine Pw.inY rfl ?_ | refine Pw.list (Pw.off rfl rfl ?_) | refine Pw.condT rfl ?_ | refine Pw.condF rfl ?_ | refine Pw.list (Pw.box rfl rfl rfl rfl (fun _ => ?_)) | refine Pw.list (Pw.alloc rfl rfl rfl rfl rfl (fun _ => ?_)) | refine Pw.list (Pw.build rfl rfl rfl rfl ?_) | refine Pw.list (Pw.ld rfl inferInstance rfl rfl rfl ?_) | refine Pw.list (Pw.sto rfl rfl inferInstance rfl rfl rfl rfl rfl inferInstance rfl ?_))
      refine freeHead ?_
      exact Pw.ret_ (x := (ns, (some ⟨g1, 0, none⟩, cap1))) (.tmp rfl (.tmp rfl .nil)) (by rw [hwl]; rfl) (by rw [eW]; exact hns) (fun w h => rows_of_row (ex := ex1) (fact0 h) (fun _ _ => rfl) (fun y hy => (hv w h : AllN ns w) y hy) (by rw [hnl]; exact hq1c) (by rw [hnl]; simp only [maxLen]; omega) (by omega))
end Go.Proofs.Wk
/- The reference's sums and differences of naturals. -/
namespace Go.Proofs.Wk
open Go.RowKit
set_option maxRecDepth 100000
set_option maxHeartbeats 1000000
attribute [local irreducible] Pw OpG
set_option linter.unusedVariables false
set_option linter.unusedSimpArgs false
theorem rAddN_ct {a b : Int} (u v : Option Addr × Nat) (ha : 0 ≤ a) (hb : 0 ≤ b) {m : Nat} (la : a < pw m) (lb : b < pw m) (hm : m < 400) : Ct Try.prog 45 #[sl (natL a) u, sl (natL b) v] (fun W => S1 (natL a) u W ∧ S1 (natL b) v W) (fun z : Option Addr × Nat => .tuple #[sl (natL (a + b)) z, .int .i64 0]) Tt (fun z => S1 (natL (a + b)) z) := by
  have l1 := natL_len_le ha la; have l2 := natL_len_le hb lb
  have l3 := natL_len_le (show 0 ≤ a + b by omega) (add_lt_pw la lb)
  have hc := radd_ct (natL a) (natL b) u v (natL_fm a).1 (natL_fm b).1 (by omega) (by omega)
  rw [val_natL ha, val_natL hb] at hc
  have f1 := rFormed_ct (natL a) u (by omega)
  have f2 := rFormed_ct (natL b) v (by omega)
  rw [fmB_natL (by omega)] at f1 f2
  refine Ct.start Try.func45 rfl rfl (slots_of rfl slots2) (fun D w0 => Pw.facts (G' := [S1 (natL a) u, S1 (natL b) v]) (fun w h => allCons (fact0 h).1 (allCons (fact0 h).2 allNil)) ?_)
  repeat (first | (with_reducible first | refine Pw.seq ?_ | refine Pw.region ?_ | refine Pw.nil ?_ | refine Pw.then_ ?_ | refine Pw.skip ?_ | refine Pw.block ?_ | refine Pw.exit ?_ | refine Pw.inX ?_ | refine Pw.inN ?_ | refine Pw.inR ?_ | refine Pw.thenX ?_ | refine Pw.thenR ?_ | refine Pw.ret ?_) | refine Pw.list (Pw.pure rfl rfl rfl ?_) | refine Pw.inY rfl ?_ | refine Pw.list (Pw.off rfl rfl ?_) | refine Pw.condT rfl ?_ | refine Pw.condF rfl ?_ | refine Pw.list (Pw.box rfl rfl rfl rfl (fun _ => ?_)) | refine Pw.list (Pw.alloc rfl rfl rfl rfl rfl (fun _ => ?_)) | refine Pw.list (Pw.build rfl rfl rfl rfl ?_) | refine Pw.list (Pw.ld rfl inferInstance rfl rfl rfl ?_) | refine Pw.list (Pw.sto rfl rfl inferInstance rfl rfl rfl rfl rfl inferInstance rfl ?_))
  refine Pw.list (Pw.call f1 rfl rfl rfl (by kernel_rfl) rfl rfl (fun w h => (hv w h)) ?_)
  intro _ _
  repeat (first | (with_reducible first | refine Pw.seq ?_ | refine Pw.region ?_ | refine Pw.nil ?_ | refine Pw.then_ ?_ | refine Pw.skip ?_ | refine Pw.block ?_ | refine Pw.exit ?_ | refine Pw.inX ?_ | refine Pw.inN ?_ | refine Pw.inR ?_ | refine Pw.thenX ?_ | refine Pw.thenR ?_ | refine Pw.ret ?_) | refine Pw.list (Pw.pure rfl rfl rfl ?_) | refine Pw.inY rfl ?_ | refine Pw.list (Pw.off rfl rfl ?_) | refine Pw.condT rfl ?_ | refine Pw.condF rfl ?_ | refine Pw.list (Pw.box rfl rfl rfl rfl (fun _ => ?_)) | refine Pw.list (Pw.alloc rfl rfl rfl rfl rfl (fun _ => ?_)) | refine Pw.list (Pw.build rfl rfl rfl rfl ?_) | refine Pw.list (Pw.ld rfl inferInstance rfl rfl rfl ?_) | refine Pw.list (Pw.sto rfl rfl inferInstance rfl rfl rfl rfl rfl inferInstance rfl ?_))
  refine Pw.list (Pw.call f2 rfl rfl rfl (by kernel_rfl) rfl rfl (fun w h => (hv w h)) ?_)
  intro _ _
  repeat (first | (with_reducible first | refine Pw.seq ?_ | refine Pw.region ?_ | refine Pw.nil ?_ | refine Pw.then_ ?_ | refine Pw.skip ?_ | refine Pw.block ?_ | refine Pw.exit ?_ | refine Pw.inX ?_ | refine Pw.inN ?_ | refine Pw.inR ?_ | refine Pw.thenX ?_ | refine Pw.thenR ?_ | refine Pw.ret ?_) | refine Pw.list (Pw.pure rfl rfl rfl ?_) | refine Pw.inY rfl ?_ | refine Pw.list (Pw.off rfl rfl ?_) | refine Pw.condT rfl ?_ | refine Pw.condF rfl ?_ | refine Pw.list (Pw.box rfl rfl rfl rfl (fun _ => ?_)) | refine Pw.list (Pw.alloc rfl rfl rfl rfl rfl (fun _ => ?_)) | refine Pw.list (Pw.build rfl rfl rfl rfl ?_) | refine Pw.list (Pw.ld rfl inferInstance rfl rfl rfl ?_) | refine Pw.list (Pw.sto rfl rfl inferInstance rfl rfl rfl rfl rfl inferInstance rfl ?_))
  refine Pw.list (Pw.call hc rfl rfl rfl (by kernel_rfl) rfl rfl (fun w h => ⟨(hv w h), (hv w h)⟩) ?_)
  intro z1 _
  repeat (first | (with_reducible first | refine Pw.seq ?_ | refine Pw.region ?_ | refine Pw.nil ?_ | refine Pw.then_ ?_ | refine Pw.skip ?_ | refine Pw.block ?_ | refine Pw.exit ?_ | refine Pw.inX ?_ | refine Pw.inN ?_ | refine Pw.inR ?_ | refine Pw.thenX ?_ | refine Pw.thenR ?_ | refine Pw.ret ?_) | refine Pw.list (Pw.pure rfl rfl rfl ?_) | refine Pw.inY rfl ?_ | refine Pw.list (Pw.off rfl rfl ?_) | refine Pw.condT rfl ?_ | refine Pw.condF rfl ?_ | refine Pw.list (Pw.box rfl rfl rfl rfl (fun _ => ?_)) | refine Pw.list (Pw.alloc rfl rfl rfl rfl rfl (fun _ => ?_)) | refine Pw.list (Pw.build rfl rfl rfl rfl ?_) | refine Pw.list (Pw.ld rfl inferInstance rfl rfl rfl ?_) | refine Pw.list (Pw.sto rfl rfl inferInstance rfl rfl rfl rfl rfl inferInstance rfl ?_))
  have hbd := rbounded_ct (natL (a + b)) z1
  rw [bd_ok (by omega)] at hbd
  refine Pw.list (Pw.call hbd rfl rfl rfl (by kernel_rfl) rfl rfl (fun w h => (hv w h)) ?_)
  intro z2 _
  repeat (first | (with_reducible first | refine Pw.seq ?_ | refine Pw.region ?_ | refine Pw.nil ?_ | refine Pw.then_ ?_ | refine Pw.skip ?_ | refine Pw.block ?_ | refine Pw.exit ?_ | refine Pw.inX ?_ | refine Pw.inN ?_ | refine Pw.inR ?_ | refine Pw.thenX ?_ | refine Pw.thenR ?_ | refine Pw.ret ?_) | refine Pw.list (Pw.pure rfl rfl rfl ?_) | refine Pw.inY rfl ?_ | refine Pw.list (Pw.off rfl rfl ?_) | refine Pw.condT rfl ?_ | refine Pw.condF rfl ?_ | refine Pw.list (Pw.box rfl rfl rfl rfl (fun _ => ?_)) | refine Pw.list (Pw.alloc rfl rfl rfl rfl rfl (fun _ => ?_)) | refine Pw.list (Pw.build rfl rfl rfl rfl ?_) | refine Pw.list (Pw.ld rfl inferInstance rfl rfl rfl ?_) | refine Pw.list (Pw.sto rfl rfl inferInstance rfl rfl rfl rfl rfl inferInstance rfl ?_))
  exact Pw.ret_ (x := z2) (.tmp rfl (.tmp rfl .nil)) rfl trivial (fun w h => (hv w h))
theorem rSubN_ct {a b : Int} (u v : Option Addr × Nat) (hb : 0 ≤ b) (hle : b ≤ a) {m : Nat} (la : a < pw m) (hm : m < 400) : Ct Try.prog 46 #[sl (natL a) u, sl (natL b) v] (fun W => S1 (natL a) u W ∧ S1 (natL b) v W) (fun z : Option Addr × Nat => .tuple #[sl (natL (a - b)) z, .int .i64 0]) Tt (fun z => S1 (natL (a - b)) z) := by
  have ha : 0 ≤ a := by omega
  have l1 := natL_len_le ha la; have l2 := natL_len_le (n := m) hb (by omega)
  have l3 := natL_len_le (n := (natL a).length) hb (by have := val_lt_pw (natL_fm a).1; rw [val_natL ha] at this; omega)
  have hc := rsub_ct (natL a) (natL b) u v (natL_fm a).1 (natL_fm b).1 (by rw [val_natL ha, val_natL hb]; exact hle) l3 (by omega)
  rw [val_natL ha, val_natL hb] at hc
  have f1 := rFormed_ct (natL a) u (by omega)
  have f2 := rFormed_ct (natL b) v (by omega)
  have f3 := rcmp_ct (natL a) (natL b) u v (natL_fm a) (natL_fm b) (by omega) (by omega)
  rw [fmB_natL (by omega)] at f1 f2
  rw [val_natL ha, val_natL hb] at f3
  refine Ct.start Try.func46 rfl rfl (slots_of rfl slots2) (fun D w0 => Pw.facts (G' := [S1 (natL a) u, S1 (natL b) v]) (fun w h => allCons (fact0 h).1 (allCons (fact0 h).2 allNil)) ?_)
  repeat (first | (with_reducible first | refine Pw.seq ?_ | refine Pw.region ?_ | refine Pw.nil ?_ | refine Pw.then_ ?_ | refine Pw.skip ?_ | refine Pw.block ?_ | refine Pw.exit ?_ | refine Pw.inX ?_ | refine Pw.inN ?_ | refine Pw.inR ?_ | refine Pw.thenX ?_ | refine Pw.thenR ?_ | refine Pw.ret ?_) | refine Pw.list (Pw.pure rfl rfl rfl ?_) | refine Pw.inY rfl ?_ | refine Pw.list (Pw.off rfl rfl ?_) | refine Pw.condT rfl ?_ | refine Pw.condF rfl ?_ | refine Pw.list (Pw.box rfl rfl rfl rfl (fun _ => ?_)) | refine Pw.list (Pw.alloc rfl rfl rfl rfl rfl (fun _ => ?_)) | refine Pw.list (Pw.build rfl rfl rfl rfl ?_) | refine Pw.list (Pw.ld rfl inferInstance rfl rfl rfl ?_) | refine Pw.list (Pw.sto rfl rfl inferInstance rfl rfl rfl rfl rfl inferInstance rfl ?_))
  refine Pw.list (Pw.call f1 rfl rfl rfl (by kernel_rfl) rfl rfl (fun w h => (hv w h)) ?_)
  intro _ _
  repeat (first | (with_reducible first | refine Pw.seq ?_ | refine Pw.region ?_ | refine Pw.nil ?_ | refine Pw.then_ ?_ | refine Pw.skip ?_ | refine Pw.block ?_ | refine Pw.exit ?_ | refine Pw.inX ?_ | refine Pw.inN ?_ | refine Pw.inR ?_ | refine Pw.thenX ?_ | refine Pw.thenR ?_ | refine Pw.ret ?_) | refine Pw.list (Pw.pure rfl rfl rfl ?_) | refine Pw.inY rfl ?_ | refine Pw.list (Pw.off rfl rfl ?_) | refine Pw.condT rfl ?_ | refine Pw.condF rfl ?_ | refine Pw.list (Pw.box rfl rfl rfl rfl (fun _ => ?_)) | refine Pw.list (Pw.alloc rfl rfl rfl rfl rfl (fun _ => ?_)) | refine Pw.list (Pw.build rfl rfl rfl rfl ?_) | refine Pw.list (Pw.ld rfl inferInstance rfl rfl rfl ?_) | refine Pw.list (Pw.sto rfl rfl inferInstance rfl rfl rfl rfl rfl inferInstance rfl ?_))
  refine Pw.list (Pw.call f2 rfl rfl rfl (by kernel_rfl) rfl rfl (fun w h => (hv w h)) ?_)
  intro _ _
  repeat (first | (with_reducible first | refine Pw.seq ?_ | refine Pw.region ?_ | refine Pw.nil ?_ | refine Pw.then_ ?_ | refine Pw.skip ?_ | refine Pw.block ?_ | refine Pw.exit ?_ | refine Pw.inX ?_ | refine Pw.inN ?_ | refine Pw.inR ?_ | refine Pw.thenX ?_ | refine Pw.thenR ?_ | refine Pw.ret ?_) | refine Pw.list (Pw.pure rfl rfl rfl ?_) | refine Pw.inY rfl ?_ | refine Pw.list (Pw.off rfl rfl ?_) | refine Pw.condT rfl ?_ | refine Pw.condF rfl ?_ | refine Pw.list (Pw.box rfl rfl rfl rfl (fun _ => ?_)) | refine Pw.list (Pw.alloc rfl rfl rfl rfl rfl (fun _ => ?_)) | refine Pw.list (Pw.build rfl rfl rfl rfl ?_) | refine Pw.list (Pw.ld rfl inferInstance rfl rfl rfl ?_) | refine Pw.list (Pw.sto rfl rfl inferInstance rfl rfl rfl rfl rfl inferInstance rfl ?_))
  refine Pw.list (Pw.call f3 rfl rfl rfl (by kernel_rfl) rfl rfl (fun w h => ⟨(hv w h), (hv w h)⟩) ?_)
  intro _ _
  repeat (first | (with_reducible first | refine Pw.seq ?_ | refine Pw.region ?_ | refine Pw.nil ?_ | refine Pw.then_ ?_ | refine Pw.skip ?_ | refine Pw.block ?_ | refine Pw.exit ?_ | refine Pw.inX ?_ | refine Pw.inN ?_ | refine Pw.inR ?_ | refine Pw.thenX ?_ | refine Pw.thenR ?_ | refine Pw.ret ?_) | refine Pw.list (Pw.pure rfl rfl rfl ?_) | refine Pw.inY rfl ?_ | refine Pw.list (Pw.off rfl rfl ?_) | refine Pw.condT rfl ?_ | refine Pw.condF rfl ?_ | refine Pw.list (Pw.box rfl rfl rfl rfl (fun _ => ?_)) | refine Pw.list (Pw.alloc rfl rfl rfl rfl rfl (fun _ => ?_)) | refine Pw.list (Pw.build rfl rfl rfl rfl ?_) | refine Pw.list (Pw.ld rfl inferInstance rfl rfl rfl ?_) | refine Pw.list (Pw.sto rfl rfl inferInstance rfl rfl rfl rfl rfl inferInstance rfl ?_))
  refine Pw.condD rfl (fun c0 => ?_) (fun c0 => ?_)
  · exfalso; unfold cmpS at c0; rw [if_neg (by omega)] at c0; split at c0 <;> omega
  repeat (first | (with_reducible first | refine Pw.seq ?_ | refine Pw.region ?_ | refine Pw.nil ?_ | refine Pw.then_ ?_ | refine Pw.skip ?_ | refine Pw.block ?_ | refine Pw.exit ?_ | refine Pw.inX ?_ | refine Pw.inN ?_ | refine Pw.inR ?_ | refine Pw.thenX ?_ | refine Pw.thenR ?_ | refine Pw.ret ?_) | refine Pw.list (Pw.pure rfl rfl rfl ?_) | refine Pw.inY rfl ?_ | refine Pw.list (Pw.off rfl rfl ?_) | refine Pw.condT rfl ?_ | refine Pw.condF rfl ?_ | refine Pw.list (Pw.box rfl rfl rfl rfl (fun _ => ?_)) | refine Pw.list (Pw.alloc rfl rfl rfl rfl rfl (fun _ => ?_)) | refine Pw.list (Pw.build rfl rfl rfl rfl ?_) | refine Pw.list (Pw.ld rfl inferInstance rfl rfl rfl ?_) | refine Pw.list (Pw.sto rfl rfl inferInstance rfl rfl rfl rfl rfl inferInstance rfl ?_))
  refine Pw.list (Pw.call hc rfl rfl rfl (by kernel_rfl) rfl rfl (fun w h => ⟨(hv w h), (hv w h)⟩) ?_)
  intro z2 _
  repeat (first | (with_reducible first | refine Pw.seq ?_ | refine Pw.region ?_ | refine Pw.nil ?_ | refine Pw.then_ ?_ | refine Pw.skip ?_ | refine Pw.block ?_ | refine Pw.exit ?_ | refine Pw.inX ?_ | refine Pw.inN ?_ | refine Pw.inR ?_ | refine Pw.thenX ?_ | refine Pw.thenR ?_ | refine Pw.ret ?_) | refine Pw.list (Pw.pure rfl rfl rfl ?_) | refine Pw.inY rfl ?_ | refine Pw.list (Pw.off rfl rfl ?_) | refine Pw.condT rfl ?_ | refine Pw.condF rfl ?_ | refine Pw.list (Pw.box rfl rfl rfl rfl (fun _ => ?_)) | refine Pw.list (Pw.alloc rfl rfl rfl rfl rfl (fun _ => ?_)) | refine Pw.list (Pw.build rfl rfl rfl rfl ?_) | refine Pw.list (Pw.ld rfl inferInstance rfl rfl rfl ?_) | refine Pw.list (Pw.sto rfl rfl inferInstance rfl rfl rfl rfl rfl inferInstance rfl ?_))
  exact Pw.ret_ (x := z2) (.tmp rfl (.tmp rfl .nil)) rfl trivial (fun w h => (hv w h))
end Go.Proofs.Wk
/- Weights made whole: no weights; the document's Round walked. -/
namespace Go.Proofs.Wk
open Go.RowKit
set_option maxRecDepth 100000
set_option maxHeartbeats 4000000
attribute [local irreducible] Pw OpG
set_option linter.unusedVariables false
set_option linter.unusedSimpArgs false
theorem flo0 : (((0 : Int) : Rat)).floor = 0 := Rat.floor_intCast 0
theorem rwhole0_ct : Ct Try.prog 31 #[.int .u64 0] (fun _ => True) (fun z : Z2 => qt 0 z) Tt (fun z => QW 0 z) := by
  unfold qt QW; rw [qn_0, qd_0]; exact rwhole_ct
theorem pRoundNil_ct (x : Option Addr × Nat) :
    Ct Try.prog 14 #[rsV [] x] (RS [] x) (fun r : List Nt × (Option Addr × Nat) => .tuple #[.slice r.2.1 0 r.2.2, .int .i64 0]) (fun r => r.1.map Prod.fst = []) (fun r => NS r.1 r.2) := by
  obtain ⟨A, c⟩ := x
  refine Ct.start Try.func14 rfl rfl (slots_of rfl slots1) (fun D w0 => ?_)
  repeat (first | (with_reducible first | refine Pw.seq ?_ | refine Pw.region ?_ | refine Pw.nil ?_ | refine Pw.then_ ?_ | refine Pw.skip ?_ | refine Pw.block ?_ | refine Pw.exit ?_ | refine Pw.inX ?_ | refine Pw.inN ?_ | refine Pw.inR ?_ | refine Pw.thenX ?_ | refine Pw.thenR ?_ | refine Pw.ret ?_) | refine Pw.list (Pw.pure rfl rfl rfl ?_) | refine Pw.inY rfl ?_ | refine Pw.list (Pw.off rfl rfl ?_) | refine Pw.condT rfl ?_ | refine Pw.condF rfl ?_ | refine Pw.list (Pw.box rfl rfl rfl rfl (fun _ => ?_)) | refine Pw.list (Pw.alloc rfl rfl rfl rfl rfl (fun _ => ?_)) | refine Pw.list (Pw.build rfl rfl rfl rfl ?_) | refine Pw.list (Pw.ld rfl inferInstance rfl rfl rfl ?_) | refine Pw.list (Pw.sto rfl rfl inferInstance rfl rfl rfl rfl rfl inferInstance rfl ?_))
  refine Pw.list (Pw.call (Of_ct 1) rfl rfl rfl (by kernel_rfl) rfl rfl (fun w h => trivial) ?_)
  intro zu _
  rw [ofN_1]
  repeat (first | (with_reducible first | refine Pw.seq ?_ | refine Pw.region ?_ | refine Pw.nil ?_ | refine Pw.then_ ?_ | refine Pw.skip ?_ | refine Pw.block ?_ | refine Pw.exit ?_ | refine Pw.inX ?_ | refine Pw.inN ?_ | refine Pw.inR ?_ | refine Pw.thenX ?_ | refine Pw.thenR ?_ | refine Pw.ret ?_) | refine Pw.list (Pw.pure rfl rfl rfl ?_) | refine Pw.inY rfl ?_ | refine Pw.list (Pw.off rfl rfl ?_) | refine Pw.condT rfl ?_ | refine Pw.condF rfl ?_ | refine Pw.list (Pw.box rfl rfl rfl rfl (fun _ => ?_)) | refine Pw.list (Pw.alloc rfl rfl rfl rfl rfl (fun _ => ?_)) | refine Pw.list (Pw.build rfl rfl rfl rfl ?_) | refine Pw.list (Pw.ld rfl inferInstance rfl rfl rfl ?_) | refine Pw.list (Pw.sto rfl rfl inferInstance rfl rfl rfl rfl rfl inferInstance rfl ?_))
  refine Pw.list (Pw.call (qOf_ct (n := 0) (by omega) (by omega)) rfl rfl rfl (by kernel_rfl) rfl rfl (fun w h => trivial) ?_)
  intro z7 _
  repeat (first | (with_reducible first | refine Pw.seq ?_ | refine Pw.region ?_ | refine Pw.nil ?_ | refine Pw.then_ ?_ | refine Pw.skip ?_ | refine Pw.block ?_ | refine Pw.exit ?_ | refine Pw.inX ?_ | refine Pw.inN ?_ | refine Pw.inR ?_ | refine Pw.thenX ?_ | refine Pw.thenR ?_ | refine Pw.ret ?_) | refine Pw.list (Pw.pure rfl rfl rfl ?_) | refine Pw.inY rfl ?_ | refine Pw.list (Pw.off rfl rfl ?_) | refine Pw.condT rfl ?_ | refine Pw.condF rfl ?_ | refine Pw.list (Pw.box rfl rfl rfl rfl (fun _ => ?_)) | refine Pw.list (Pw.alloc rfl rfl rfl rfl rfl (fun _ => ?_)) | refine Pw.list (Pw.build rfl rfl rfl rfl ?_) | refine Pw.list (Pw.ld rfl inferInstance rfl rfl rfl ?_) | refine Pw.list (Pw.sto rfl rfl inferInstance rfl rfl rfl rfl rfl inferInstance rfl ?_))
  refine Pw.list (Pw.call (qOf_ct (n := 0) (by omega) (by omega)) rfl rfl rfl (by kernel_rfl) rfl rfl (fun w h => trivial) ?_)
  intro z9 _
  repeat (first | (with_reducible first | refine Pw.seq ?_ | refine Pw.region ?_ | refine Pw.nil ?_ | refine Pw.then_ ?_ | refine Pw.skip ?_ | refine Pw.block ?_ | refine Pw.exit ?_ | refine Pw.inX ?_ | refine Pw.inN ?_ | refine Pw.inR ?_ | refine Pw.thenX ?_ | refine Pw.thenR ?_ | refine Pw.ret ?_) | refine Pw.list (Pw.pure rfl rfl rfl ?_) | refine Pw.inY rfl ?_ | refine Pw.list (Pw.off rfl rfl ?_) | refine Pw.condT rfl ?_ | refine Pw.condF rfl ?_ | refine Pw.list (Pw.box rfl rfl rfl rfl (fun _ => ?_)) | refine Pw.list (Pw.alloc rfl rfl rfl rfl rfl (fun _ => ?_)) | refine Pw.list (Pw.build rfl rfl rfl rfl ?_) | refine Pw.list (Pw.ld rfl inferInstance rfl rfl rfl ?_) | refine Pw.list (Pw.sto rfl rfl inferInstance rfl rfl rfl rfl rfl inferInstance rfl ?_))
  refine Pw.list (Pw.call (ContainsR_ct [] (A, c) 36 (fun s => !formedR s.a s.b) (fun s hs => by cases hs) (by kernel_rfl)) rfl rfl rfl (by kernel_rfl) rfl rfl (fun w h => (hv w h)) ?_)
  intro _ _
  repeat (first | (with_reducible first | refine Pw.seq ?_ | refine Pw.region ?_ | refine Pw.nil ?_ | refine Pw.then_ ?_ | refine Pw.skip ?_ | refine Pw.block ?_ | refine Pw.exit ?_ | refine Pw.inX ?_ | refine Pw.inN ?_ | refine Pw.inR ?_ | refine Pw.thenX ?_ | refine Pw.thenR ?_ | refine Pw.ret ?_) | refine Pw.list (Pw.pure rfl rfl rfl ?_) | refine Pw.inY rfl ?_ | refine Pw.list (Pw.off rfl rfl ?_) | refine Pw.condT rfl ?_ | refine Pw.condF rfl ?_ | refine Pw.list (Pw.box rfl rfl rfl rfl (fun _ => ?_)) | refine Pw.list (Pw.alloc rfl rfl rfl rfl rfl (fun _ => ?_)) | refine Pw.list (Pw.build rfl rfl rfl rfl ?_) | refine Pw.list (Pw.ld rfl inferInstance rfl rfl rfl ?_) | refine Pw.list (Pw.sto rfl rfl inferInstance rfl rfl rfl rfl rfl inferInstance rfl ?_))
  refine Pw.rounds 2 (Pw.round ?_)
  repeat (first | (with_reducible first | refine Pw.seq ?_ | refine Pw.region ?_ | refine Pw.nil ?_ | refine Pw.then_ ?_ | refine Pw.skip ?_ | refine Pw.block ?_ | refine Pw.exit ?_ | refine Pw.inX ?_ | refine Pw.inN ?_ | refine Pw.inR ?_ | refine Pw.thenX ?_ | refine Pw.thenR ?_ | refine Pw.ret ?_) | refine Pw.list (Pw.pure rfl rfl rfl ?_) | refine Pw.inY rfl ?_ | refine Pw.list (Pw.off rfl rfl ?_) | refine Pw.condT rfl ?_ | refine Pw.condF rfl ?_ | refine Pw.list (Pw.box rfl rfl rfl rfl (fun _ => ?_)) | refine Pw.list (Pw.alloc rfl rfl rfl rfl rfl (fun _ => ?_)) | refine Pw.list (Pw.build rfl rfl rfl rfl ?_) | refine Pw.list (Pw.ld rfl inferInstance rfl rfl rfl ?_) | refine Pw.list (Pw.sto rfl rfl inferInstance rfl rfl rfl rfl rfl inferInstance rfl ?_))
  refine Pw.list (Pw.call SortNil_ct rfl rfl rfl (by kernel_rfl) rfl rfl (fun w h => trivial) ?_)
  intro _ _
  repeat (first | (with_reducible first | refine Pw.seq ?_ | refine Pw.region ?_ | refine Pw.nil ?_ | refine Pw.then_ ?_ | refine Pw.skip ?_ | refine Pw.block ?_ | refine Pw.exit ?_ | refine Pw.inX ?_ | refine Pw.inN ?_ | refine Pw.inR ?_ | refine Pw.thenX ?_ | refine Pw.thenR ?_ | refine Pw.ret ?_) | refine Pw.list (Pw.pure rfl rfl rfl ?_) | refine Pw.inY rfl ?_ | refine Pw.list (Pw.off rfl rfl ?_) | refine Pw.condT rfl ?_ | refine Pw.condF rfl ?_ | refine Pw.list (Pw.box rfl rfl rfl rfl (fun _ => ?_)) | refine Pw.list (Pw.alloc rfl rfl rfl rfl rfl (fun _ => ?_)) | refine Pw.list (Pw.build rfl rfl rfl rfl ?_) | refine Pw.list (Pw.ld rfl inferInstance rfl rfl rfl ?_) | refine Pw.list (Pw.sto rfl rfl inferInstance rfl rfl rfl rfl rfl inferInstance rfl ?_))
  refine Pw.list (Pw.call (qFloor_ct (sz_0 1 (by omega)) z9 (by omega)) rfl rfl rfl (by kernel_rfl) rfl rfl (fun w h => (hv w h)) ?_)
  intro zm _
  rw [show (0 : Rat).floor = 0 from flo0, natL_zero]
  repeat (first | (with_reducible first | refine Pw.seq ?_ | refine Pw.region ?_ | refine Pw.nil ?_ | refine Pw.then_ ?_ | refine Pw.skip ?_ | refine Pw.block ?_ | refine Pw.exit ?_ | refine Pw.inX ?_ | refine Pw.inN ?_ | refine Pw.inR ?_ | refine Pw.thenX ?_ | refine Pw.thenR ?_ | refine Pw.ret ?_) | refine Pw.list (Pw.pure rfl rfl rfl ?_) | refine Pw.inY rfl ?_ | refine Pw.list (Pw.off rfl rfl ?_) | refine Pw.condT rfl ?_ | refine Pw.condF rfl ?_ | refine Pw.list (Pw.box rfl rfl rfl rfl (fun _ => ?_)) | refine Pw.list (Pw.alloc rfl rfl rfl rfl rfl (fun _ => ?_)) | refine Pw.list (Pw.build rfl rfl rfl rfl ?_) | refine Pw.list (Pw.ld rfl inferInstance rfl rfl rfl ?_) | refine Pw.list (Pw.sto rfl rfl inferInstance rfl rfl rfl rfl rfl inferInstance rfl ?_))
  refine Pw.list (Pw.call (Low_ct [] zm (fun x hx => by cases hx) (by simp)) rfl rfl rfl (by kernel_rfl) rfl rfl (fun w h => (hv w h)) ?_)
  intro _ _
  repeat (first | (with_reducible first | refine Pw.seq ?_ | refine Pw.region ?_ | refine Pw.nil ?_ | refine Pw.then_ ?_ | refine Pw.skip ?_ | refine Pw.block ?_ | refine Pw.exit ?_ | refine Pw.inX ?_ | refine Pw.inN ?_ | refine Pw.inR ?_ | refine Pw.thenX ?_ | refine Pw.thenR ?_ | refine Pw.ret ?_) | refine Pw.list (Pw.pure rfl rfl rfl ?_) | refine Pw.inY rfl ?_ | refine Pw.list (Pw.off rfl rfl ?_) | refine Pw.condT rfl ?_ | refine Pw.condF rfl ?_ | refine Pw.list (Pw.box rfl rfl rfl rfl (fun _ => ?_)) | refine Pw.list (Pw.alloc rfl rfl rfl rfl rfl (fun _ => ?_)) | refine Pw.list (Pw.build rfl rfl rfl rfl ?_) | refine Pw.list (Pw.ld rfl inferInstance rfl rfl rfl ?_) | refine Pw.list (Pw.sto rfl rfl inferInstance rfl rfl rfl rfl rfl inferInstance rfl ?_))
  refine Pw.list (Pw.cutTo rfl rfl rfl rfl (show (0 : Int) ≤ 0 by omega) (show (0 : Int) ≤ ((0 : Nat) : Int) by omega) rfl rfl ?_)
  repeat (first | (with_reducible first | refine Pw.seq ?_ | refine Pw.region ?_ | refine Pw.nil ?_ | refine Pw.then_ ?_ | refine Pw.skip ?_ | refine Pw.block ?_ | refine Pw.exit ?_ | refine Pw.inX ?_ | refine Pw.inN ?_ | refine Pw.inR ?_ | refine Pw.thenX ?_ | refine Pw.thenR ?_ | refine Pw.ret ?_) | refine Pw.list (Pw.pure rfl rfl rfl ?_) | refine Pw.inY rfl ?_ | refine Pw.list (Pw.off rfl rfl ?_) | refine Pw.condT rfl ?_ | refine Pw.condF rfl ?_ | refine Pw.list (Pw.box rfl rfl rfl rfl (fun _ => ?_)) | refine Pw.list (Pw.alloc rfl rfl rfl rfl rfl (fun _ => ?_)) | refine Pw.list (Pw.build rfl rfl rfl rfl ?_) | refine Pw.list (Pw.ld rfl inferInstance rfl rfl rfl ?_) | refine Pw.list (Pw.sto rfl rfl inferInstance rfl rfl rfl rfl rfl inferInstance rfl ?_))
  refine Pw.rounds 2 (Pw.round ?_)
  repeat (first | (with_reducible first | refine Pw.seq ?_ | refine Pw.region ?_ | refine Pw.nil ?_ | refine Pw.then_ ?_ | refine Pw.skip ?_ | refine Pw.block ?_ | refine Pw.exit ?_ | refine Pw.inX ?_ | refine Pw.inN ?_ | refine Pw.inR ?_ | refine Pw.thenX ?_ | refine Pw.thenR ?_ | refine Pw.ret ?_) | refine Pw.list (Pw.pure rfl rfl rfl ?_) | refine Pw.inY rfl ?_ | refine Pw.list (Pw.off rfl rfl ?_) | refine Pw.condT rfl ?_ | refine Pw.condF rfl ?_ | refine Pw.list (Pw.box rfl rfl rfl rfl (fun _ => ?_)) | refine Pw.list (Pw.alloc rfl rfl rfl rfl rfl (fun _ => ?_)) | refine Pw.list (Pw.build rfl rfl rfl rfl ?_) | refine Pw.list (Pw.ld rfl inferInstance rfl rfl rfl ?_) | refine Pw.list (Pw.sto rfl rfl inferInstance rfl rfl rfl rfl rfl inferInstance rfl ?_))
  exact Pw.ret_ (x := ([], (none, 0))) (.tmp rfl (.tmp rfl .nil)) rfl rfl (fun w h => Rows.nil _ _ _ _ _)
theorem rRoundNil_ct (x : Option Addr × Nat) :
    Ct Try.prog 16 #[rsV [] x] (RS [] x) (fun r : List Nt × (Option Addr × Nat) => .tuple #[.slice r.2.1 0 r.2.2, .int .i64 0]) (fun r => r.1.map Prod.fst = []) (fun r => NS r.1 r.2) := by
  obtain ⟨A, c⟩ := x
  refine Ct.start Try.func16 rfl rfl (slots_of rfl slots1) (fun D w0 => ?_)
  repeat (first | (with_reducible first | refine Pw.seq ?_ | refine Pw.region ?_ | refine Pw.nil ?_ | refine Pw.then_ ?_ | refine Pw.skip ?_ | refine Pw.block ?_ | refine Pw.exit ?_ | refine Pw.inX ?_ | refine Pw.inN ?_ | refine Pw.inR ?_ | refine Pw.thenX ?_ | refine Pw.thenR ?_ | refine Pw.ret ?_) | refine Pw.list (Pw.pure rfl rfl rfl ?_) | refine Pw.inY rfl ?_ | refine Pw.list (Pw.off rfl rfl ?_) | refine Pw.condT rfl ?_ | refine Pw.condF rfl ?_ | refine Pw.list (Pw.box rfl rfl rfl rfl (fun _ => ?_)) | refine Pw.list (Pw.alloc rfl rfl rfl rfl rfl (fun _ => ?_)) | refine Pw.list (Pw.build rfl rfl rfl rfl ?_) | refine Pw.list (Pw.ld rfl inferInstance rfl rfl rfl ?_) | refine Pw.list (Pw.sto rfl rfl inferInstance rfl rfl rfl rfl rfl inferInstance rfl ?_))
  refine Pw.list (Pw.call rwhole0_ct rfl rfl rfl (by kernel_rfl) rfl rfl (fun w h => trivial) ?_)
  intro z4 _
  repeat (first | (with_reducible first | refine Pw.seq ?_ | refine Pw.region ?_ | refine Pw.nil ?_ | refine Pw.then_ ?_ | refine Pw.skip ?_ | refine Pw.block ?_ | refine Pw.exit ?_ | refine Pw.inX ?_ | refine Pw.inN ?_ | refine Pw.inR ?_ | refine Pw.thenX ?_ | refine Pw.thenR ?_ | refine Pw.ret ?_) | refine Pw.list (Pw.pure rfl rfl rfl ?_) | refine Pw.inY rfl ?_ | refine Pw.list (Pw.off rfl rfl ?_) | refine Pw.condT rfl ?_ | refine Pw.condF rfl ?_ | refine Pw.list (Pw.box rfl rfl rfl rfl (fun _ => ?_)) | refine Pw.list (Pw.alloc rfl rfl rfl rfl rfl (fun _ => ?_)) | refine Pw.list (Pw.build rfl rfl rfl rfl ?_) | refine Pw.list (Pw.ld rfl inferInstance rfl rfl rfl ?_) | refine Pw.list (Pw.sto rfl rfl inferInstance rfl rfl rfl rfl rfl inferInstance rfl ?_))
  refine Pw.rounds 2 (Pw.round ?_)
  repeat (first | (with_reducible first | refine Pw.seq ?_ | refine Pw.region ?_ | refine Pw.nil ?_ | refine Pw.then_ ?_ | refine Pw.skip ?_ | refine Pw.block ?_ | refine Pw.exit ?_ | refine Pw.inX ?_ | refine Pw.inN ?_ | refine Pw.inR ?_ | refine Pw.thenX ?_ | refine Pw.thenR ?_ | refine Pw.ret ?_) | refine Pw.list (Pw.pure rfl rfl rfl ?_) | refine Pw.inY rfl ?_ | refine Pw.list (Pw.off rfl rfl ?_) | refine Pw.condT rfl ?_ | refine Pw.condF rfl ?_ | refine Pw.list (Pw.box rfl rfl rfl rfl (fun _ => ?_)) | refine Pw.list (Pw.alloc rfl rfl rfl rfl rfl (fun _ => ?_)) | refine Pw.list (Pw.build rfl rfl rfl rfl ?_) | refine Pw.list (Pw.ld rfl inferInstance rfl rfl rfl ?_) | refine Pw.list (Pw.sto rfl rfl inferInstance rfl rfl rfl rfl rfl inferInstance rfl ?_))
  refine Pw.list (Pw.call (rOf_ct 0) rfl rfl rfl (by kernel_rfl) rfl rfl (fun w h => trivial) ?_)
  intro z8 _
  rw [ofN_0]
  repeat (first | (with_reducible first | refine Pw.seq ?_ | refine Pw.region ?_ | refine Pw.nil ?_ | refine Pw.then_ ?_ | refine Pw.skip ?_ | refine Pw.block ?_ | refine Pw.exit ?_ | refine Pw.inX ?_ | refine Pw.inN ?_ | refine Pw.inR ?_ | refine Pw.thenX ?_ | refine Pw.thenR ?_ | refine Pw.ret ?_) | refine Pw.list (Pw.pure rfl rfl rfl ?_) | refine Pw.inY rfl ?_ | refine Pw.list (Pw.off rfl rfl ?_) | refine Pw.condT rfl ?_ | refine Pw.condF rfl ?_ | refine Pw.list (Pw.box rfl rfl rfl rfl (fun _ => ?_)) | refine Pw.list (Pw.alloc rfl rfl rfl rfl rfl (fun _ => ?_)) | refine Pw.list (Pw.build rfl rfl rfl rfl ?_) | refine Pw.list (Pw.ld rfl inferInstance rfl rfl rfl ?_) | refine Pw.list (Pw.sto rfl rfl inferInstance rfl rfl rfl rfl rfl inferInstance rfl ?_))
  refine Pw.rounds 2 (Pw.round ?_)
  repeat (first | (with_reducible first | refine Pw.seq ?_ | refine Pw.region ?_ | refine Pw.nil ?_ | refine Pw.then_ ?_ | refine Pw.skip ?_ | refine Pw.block ?_ | refine Pw.exit ?_ | refine Pw.inX ?_ | refine Pw.inN ?_ | refine Pw.inR ?_ | refine Pw.thenX ?_ | refine Pw.thenR ?_ | refine Pw.ret ?_) | refine Pw.list (Pw.pure rfl rfl rfl ?_) | refine Pw.inY rfl ?_ | refine Pw.list (Pw.off rfl rfl ?_) | refine Pw.condT rfl ?_ | refine Pw.condF rfl ?_ | refine Pw.list (Pw.box rfl rfl rfl rfl (fun _ => ?_)) | refine Pw.list (Pw.alloc rfl rfl rfl rfl rfl (fun _ => ?_)) | refine Pw.list (Pw.build rfl rfl rfl rfl ?_) | refine Pw.list (Pw.ld rfl inferInstance rfl rfl rfl ?_) | refine Pw.list (Pw.sto rfl rfl inferInstance rfl rfl rfl rfl rfl inferInstance rfl ?_))
  refine Pw.list (Pw.call (rqFloor_ct (sz_0 1 (by omega)) z4 (by omega)) rfl rfl rfl (by kernel_rfl) rfl rfl (fun w h => (hv w h)) ?_)
  intro zm _
  rw [show (0 : Rat).floor = 0 from flo0, natL_zero]
  repeat (first | (with_reducible first | refine Pw.seq ?_ | refine Pw.region ?_ | refine Pw.nil ?_ | refine Pw.then_ ?_ | refine Pw.skip ?_ | refine Pw.block ?_ | refine Pw.exit ?_ | refine Pw.inX ?_ | refine Pw.inN ?_ | refine Pw.inR ?_ | refine Pw.thenX ?_ | refine Pw.thenR ?_ | refine Pw.ret ?_) | refine Pw.list (Pw.pure rfl rfl rfl ?_) | refine Pw.inY rfl ?_ | refine Pw.list (Pw.off rfl rfl ?_) | refine Pw.condT rfl ?_ | refine Pw.condF rfl ?_ | refine Pw.list (Pw.box rfl rfl rfl rfl (fun _ => ?_)) | refine Pw.list (Pw.alloc rfl rfl rfl rfl rfl (fun _ => ?_)) | refine Pw.list (Pw.build rfl rfl rfl rfl ?_) | refine Pw.list (Pw.ld rfl inferInstance rfl rfl rfl ?_) | refine Pw.list (Pw.sto rfl rfl inferInstance rfl rfl rfl rfl rfl inferInstance rfl ?_))
  have hs := rSubN_ct (a := 0) (b := 0) zm z8 (by omega) (by omega) (m := 1) (by show (0 : Int) < 4294967296; omega) (by omega)
  rw [natL_zero, show (0 : Int) - 0 = 0 by omega, natL_zero] at hs
  refine Pw.list (Pw.call hs rfl rfl rfl (by kernel_rfl) rfl rfl (fun w h => ⟨(hv w h), (hv w h)⟩) ?_)
  intro zs _
  repeat (first | (with_reducible first | refine Pw.seq ?_ | refine Pw.region ?_ | refine Pw.nil ?_ | refine Pw.then_ ?_ | refine Pw.skip ?_ | refine Pw.block ?_ | refine Pw.exit ?_ | refine Pw.inX ?_ | refine Pw.inN ?_ | refine Pw.inR ?_ | refine Pw.thenX ?_ | refine Pw.thenR ?_ | refine Pw.ret ?_) | refine Pw.list (Pw.pure rfl rfl rfl ?_) | refine Pw.inY rfl ?_ | refine Pw.list (Pw.off rfl rfl ?_) | refine Pw.condT rfl ?_ | refine Pw.condF rfl ?_ | refine Pw.list (Pw.box rfl rfl rfl rfl (fun _ => ?_)) | refine Pw.list (Pw.alloc rfl rfl rfl rfl rfl (fun _ => ?_)) | refine Pw.list (Pw.build rfl rfl rfl rfl ?_) | refine Pw.list (Pw.ld rfl inferInstance rfl rfl rfl ?_) | refine Pw.list (Pw.sto rfl rfl inferInstance rfl rfl rfl rfl rfl inferInstance rfl ?_))
  refine Pw.list (Pw.call (rLow_ct [] zs (fun x hx => by cases hx) (by simp)) rfl rfl rfl (by kernel_rfl) rfl rfl (fun w h => (hv w h)) ?_)
  intro _ _
  repeat (first | (with_reducible first | refine Pw.seq ?_ | refine Pw.region ?_ | refine Pw.nil ?_ | refine Pw.then_ ?_ | refine Pw.skip ?_ | refine Pw.block ?_ | refine Pw.exit ?_ | refine Pw.inX ?_ | refine Pw.inN ?_ | refine Pw.inR ?_ | refine Pw.thenX ?_ | refine Pw.thenR ?_ | refine Pw.ret ?_) | refine Pw.list (Pw.pure rfl rfl rfl ?_) | refine Pw.inY rfl ?_ | refine Pw.list (Pw.off rfl rfl ?_) | refine Pw.condT rfl ?_ | refine Pw.condF rfl ?_ | refine Pw.list (Pw.box rfl rfl rfl rfl (fun _ => ?_)) | refine Pw.list (Pw.alloc rfl rfl rfl rfl rfl (fun _ => ?_)) | refine Pw.list (Pw.build rfl rfl rfl rfl ?_) | refine Pw.list (Pw.ld rfl inferInstance rfl rfl rfl ?_) | refine Pw.list (Pw.sto rfl rfl inferInstance rfl rfl rfl rfl rfl inferInstance rfl ?_))
  refine Pw.list (Pw.make (m := 0) (z := .bool false) rfl rfl rfl rfl rfl rfl (by omega) (by simp only [maxLen]; omega) rfl rfl (fun g20 => ?_))
  repeat (first | (with_reducible first | refine Pw.seq ?_ | refine Pw.region ?_ | refine Pw.nil ?_ | refine Pw.then_ ?_ | refine Pw.skip ?_ | refine Pw.block ?_ | refine Pw.exit ?_ | refine Pw.inX ?_ | refine Pw.inN ?_ | refine Pw.inR ?_ | refine Pw.thenX ?_ | refine Pw.thenR ?_ | refine Pw.ret ?_) | refine Pw.list (Pw.pure rfl rfl rfl ?_) | refine Pw.inY rfl ?_ | refine Pw.list (Pw.off rfl rfl ?_) | refine Pw.condT rfl ?_ | refine Pw.condF rfl ?_ | refine Pw.list (Pw.box rfl rfl rfl rfl (fun _ => ?_)) | refine Pw.list (Pw.alloc rfl rfl rfl rfl rfl (fun _ => ?_)) | refine Pw.list (Pw.build rfl rfl rfl rfl ?_) | refine Pw.list (Pw.ld rfl inferInstance rfl rfl rfl ?_) | refine Pw.list (Pw.sto rfl rfl inferInstance rfl rfl rfl rfl rfl inferInstance rfl ?_))
  refine Pw.rounds 2 (Pw.round ?_)
  repeat (first | (with_reducible first | refine Pw.seq ?_ | refine Pw.region ?_ | refine Pw.nil ?_ | refine Pw.then_ ?_ | refine Pw.skip ?_ | refine Pw.block ?_ | refine Pw.exit ?_ | refine Pw.inX ?_ | refine Pw.inN ?_ | refine Pw.inR ?_ | refine Pw.thenX ?_ | refine Pw.thenR ?_ | refine Pw.ret ?_) | refine Pw.list (Pw.pure rfl rfl rfl ?_) | refine Pw.inY rfl ?_ | refine Pw.list (Pw.off rfl rfl ?_) | refine Pw.condT rfl ?_ | refine Pw.condF rfl ?_ | refine Pw.list (Pw.box rfl rfl rfl rfl (fun _ => ?_)) | refine Pw.list (Pw.alloc rfl rfl rfl rfl rfl (fun _ => ?_)) | refine Pw.list (Pw.build rfl rfl rfl rfl ?_) | refine Pw.list (Pw.ld rfl inferInstance rfl rfl rfl ?_) | refine Pw.list (Pw.sto rfl rfl inferInstance rfl rfl rfl rfl rfl inferInstance rfl ?_))
  exact Pw.ret_ (x := ([], (none, 0))) (.tmp rfl (.tmp rfl .nil)) rfl rfl (fun w h => Rows.nil _ _ _ _ _)
end Go.Proofs.Wk
/- Weights made whole: the document's choice of those that get one more. -/
namespace Go.Proofs.Wk
open Go.RowKit
set_option maxRecDepth 100000
set_option linter.unusedVariables false
set_option linter.unusedSimpArgs false
/-- The best one of the first i that are not in S. -/
def Bst (ws : List Rat) (S : List Nat) (i : Nat) (b : Int) : Prop := (b = -1 ∧ ∀ j, j < i → j ∈ S) ∨ (∃ m : Nat, b = (m : Int) ∧ m < i ∧ m ∉ S ∧ ∀ j, j < i → j ∉ S → j = m ∨ ahd ws m j)
theorem bst_0 (ws : List Rat) (S : List Nat) : Bst ws S 0 (-1) := .inl ⟨rfl, fun j h => absurd h (Nat.not_lt_zero j)⟩
theorem bst_in {ws : List Rat} {S : List Nat} {i : Nat} {b : Int} (h : Bst ws S i b) (hi : i ∈ S) : Bst ws S (i + 1) b := by
  rcases h with ⟨h1, h2⟩ | ⟨m, h1, h2, h3, h4⟩
  · refine .inl ⟨h1, fun j hj => ?_⟩
    rcases Nat.lt_or_ge j i with h | h
    · exact h2 j h
    · rw [show j = i by omega]; exact hi
  · refine .inr ⟨m, h1, by omega, h3, fun j hj hjs => ?_⟩
    rcases Nat.lt_or_ge j i with h | h
    · exact h4 j h hjs
    · rw [show j = i by omega] at hjs; exact absurd hi hjs
theorem bst_first {ws : List Rat} {S : List Nat} {i : Nat} (h : Bst ws S i (-1)) (hi : i ∉ S) : Bst ws S (i + 1) (i : Int) := by
  rcases h with ⟨h1, h2⟩ | ⟨m, h1, _⟩
  · refine .inr ⟨i, rfl, by omega, hi, fun j hj hjs => ?_⟩
    rcases Nat.lt_or_ge j i with h | h
    · exact absurd (h2 j h) hjs
    · exact .inl (by omega)
  · omega
theorem bst_keep {ws : List Rat} {S : List Nat} {i m : Nat} (h : Bst ws S i (m : Int)) (hi : i ∉ S) (hc : ¬ fr (qAt ws m) < fr (qAt ws i)) : Bst ws S (i + 1) (m : Int) := by
  rcases h with ⟨h1, h2⟩ | ⟨m', h1, h2, h3, h4⟩
  · omega
  · obtain rfl : m = m' := by omega
    refine .inr ⟨m, rfl, by omega, h3, fun j hj hjs => ?_⟩
    rcases Nat.lt_or_ge j i with h | h
    · exact h4 j h hjs
    · obtain rfl : j = i := by omega
      refine .inr ?_
      unfold ahd; grind
theorem bst_new {ws : List Rat} {S : List Nat} {i m : Nat} (h : Bst ws S i (m : Int)) (hi : i ∉ S) (hc : fr (qAt ws m) < fr (qAt ws i)) : Bst ws S (i + 1) (i : Int) := by
  rcases h with ⟨h1, h2⟩ | ⟨m', h1, h2, h3, h4⟩
  · omega
  · obtain rfl : m = m' := by omega
    refine .inr ⟨i, rfl, by omega, hi, fun j hj hjs => ?_⟩
    rcases Nat.lt_or_ge j i with h | h
    · refine .inr ?_
      rcases h4 j h hjs with rfl | h5
      · exact .inl hc
      · unfold ahd at h5 ⊢; grind
    · exact .inl (by omega)
theorem bst_cases {ws : List Rat} {S : List Nat} {i : Nat} {b : Int} (h : Bst ws S i b) : b = -1 ∨ ∃ m : Nat, b = (m : Int) ∧ m < i := by
  rcases h with ⟨h1, h2⟩ | ⟨m', h1, h2, h3, h4⟩
  · exact .inl h1
  · exact .inr ⟨m', h1, h2⟩
theorem bst_end {ws : List Rat} {o : List Nat} {k : Nat} {b : Int} (ho : Ord ws o) (hk : k < ws.length) (h : Bst ws (o.take k) ws.length b) : ∃ a : Nat, o[k]? = some a ∧ b = (a : Int) ∧ a < ws.length := by
  obtain ⟨a, ha, ham⟩ := get_at (show k < o.length by rw [ho.len]; exact hk)
  have hal := ho.lt ham
  have hna : a ∉ o.take k := fun e => by
    have e1 : o.take (k + 1) = o.take k ++ [a] := take_snoc ha
    have h2 : (o.take (k + 1)).Nodup := ho.nodup.sublist (List.take_sublist _ _)
    rw [e1] at h2
    exact (List.nodup_append.1 h2).2.2 a e a (List.mem_singleton_self _) rfl
  rcases h with ⟨h1, h2⟩ | ⟨m, h1, h2, h3, h4⟩
  · exact absurd (h2 a hal) hna
  · refine ⟨a, ha, ?_, hal⟩
    rcases h4 a hal hna with e | e
    · omega
    · have hm : m ∈ o := ho.perm.mem_iff.2 (List.mem_range.2 h2)
      obtain ⟨t, ht⟩ := List.getElem?_of_mem hm
      have htk : k ≤ t := by
        rcases Nat.lt_or_ge t k with h5 | h5
        · exact absurd (List.mem_of_getElem? (show (o.take k)[t]? = some m by rw [List.getElem?_take, if_pos h5]; exact ht)) h3
        · exact h5
      rcases Nat.lt_or_ge k t with h5 | h5
      · have hpw := List.pairwise_iff_getElem.1 ho.pw
        obtain ⟨q1, q2⟩ := List.getElem?_eq_some_iff.1 ha
        obtain ⟨q3, q4⟩ := List.getElem?_eq_some_iff.1 ht
        have := hpw k t q1 q3 h5
        rw [q2, q4] at this
        rw [h1, ahd_anti e this]
      · obtain rfl : t = k := by omega
        rw [ha] at ht; cases ht; exact h1
theorem cmpQ_pos {x y : Rat} : cmpQ x y > 0 ↔ y < x := by
  unfold cmpQ
  by_cases h : x < y
  · rw [if_pos h]; constructor
    · omega
    · intro h'; grind
  · rw [if_neg h]
    by_cases h2 : x = y
    · rw [if_pos h2]; constructor
      · omega
      · intro h'; grind
    · rw [if_neg h2]; constructor
      · intro _; grind
      · omega
/-- Who has got one more, as truth values. -/
def gvn (n : Nat) (S : List Nat) : List Value := (List.range n).map fun j => Value.bool (decide (j ∈ S))
theorem gvn_len (n : Nat) (S : List Nat) : (gvn n S).length = n := by unfold gvn; simp
theorem gvn_get {n j : Nat} (S : List Nat) (h : j < n) : (gvn n S)[j]? = some (.bool (decide (j ∈ S))) := by
  unfold gvn; rw [List.getElem?_map, List.getElem?_range h]; rfl
theorem gvn_0 (n : Nat) : gvn n [] = List.replicate n (.bool false) := by
  unfold gvn
  apply List.ext_getElem?
  intro i
  rw [List.getElem?_map, List.getElem?_replicate]
  by_cases h : i < n
  · rw [List.getElem?_range h, if_pos h]; simp
  · rw [List.getElem?_eq_none (by simp; omega), if_neg h]; rfl
theorem gvn_set {n a : Nat} (S : List Nat) (h : a < n) : (gvn n S).set a (.bool true) = gvn n (S ++ [a]) := by
  apply List.ext_getElem?
  intro i
  rw [List.getElem?_set]
  by_cases hi : i < n
  · rw [gvn_get _ hi, gvn_get _ hi, gvn_len, if_pos h]
    by_cases e : a = i
    · subst e; simp
    · rw [if_neg e]; congr 3; simp [Ne.symm e]
  · rw [List.getElem?_eq_none (by rw [gvn_len]; omega), List.getElem?_eq_none (by rw [gvn_len]; omega), if_neg (by omega)]
/-- The rests as the document makes them. -/
def RsOk (ws : List Rat) (rs : List Rt) : Prop := rs.length = ws.length ∧ ∀ (i : Nat) (r : Rt), rs[i]? = some r → r.a = qn (fr (qAt ws i)) ∧ r.b = qd (fr (qAt ws i))
theorem qAt_snoc {ws : List Rat} {x : Rat} {i : Nat} (h : i < ws.length) : qAt (ws ++ [x]) i = qAt ws i := by
  unfold qAt; rw [List.getD_eq_getElem?_getD, List.getD_eq_getElem?_getD, List.getElem?_append_left h]
theorem RsOk_snoc {ws : List Rat} {rs : List Rt} (h : RsOk ws rs) (x : Rat) (z : Z2) : RsOk (ws ++ [x]) (rs ++ [⟨qn (fr x), qd (fr x), z⟩]) := by
  refine ⟨by rw [List.length_append, List.length_append, h.1]; rfl, fun i r hr => ?_⟩
  rcases Nat.lt_or_ge i rs.length with hi | hi
  · rw [List.getElem?_append_left hi] at hr
    rw [qAt_snoc (by rw [← h.1]; exact hi)]
    exact h.2 i r hr
  · rw [List.getElem?_append_right hi] at hr
    obtain ⟨t, ht⟩ : ∃ t, t = i - rs.length := ⟨_, rfl⟩
    rw [← ht] at hr
    rcases t with _ | t
    · have e0 : i = ws.length := by rw [← h.1]; omega
      subst e0
      simp at hr; subst hr
      have e : qAt (ws ++ [x]) ws.length = x := by unfold qAt; rw [List.getD_eq_getElem?_getD, List.getElem?_append_right (Nat.le_refl _), Nat.sub_self]; rfl
      rw [e]; exact ⟨rfl, rfl⟩
    · simp at hr
def FO (l : List Rt) (i : Nat) : Int := sumI (fls ((l.take i).map rq))
theorem FO_snoc {l : List Rt} {i : Nat} {s : Rt} (h : l[i]? = some s) : FO l (i + 1) = FO l i + (rq s).floor := by
  unfold FO fls; rw [map_take_snoc h, List.map_append, List.map_singleton, sumI_snoc]
theorem FO_nn {l : List Rt} {K : Nat} (hz : ∀ x ∈ l.map rq, Sz K x) (i : Nat) : 0 ≤ FO l i ∧ FO l i ≤ (SO l i).floor := by
  have h1 : ∀ ws : List Rat, (∀ x ∈ ws, 0 ≤ x) → 0 ≤ sumI (fls ws) := by
    refine snoc_ind (fun _ => Int.le_refl _) (fun ws x h hx => ?_)
    unfold fls at *
    rw [List.map_append, List.map_singleton, sumI_snoc]
    have h2 := h (fun y hy => hx y (List.mem_append_left _ hy))
    have h3 := floor_nn (hx x (List.mem_append_right _ (List.mem_singleton_self _)))
    omega
  have h2 := h1 _ (fun x hx => (sz_take hz i x hx).p)
  have h3 := floor_split ((l.take i).map rq)
  have h4 := floor_nn (frs_nn ((l.take i).map rq))
  exact ⟨h2, by show sumI _ ≤ (sumQ _).floor; omega⟩
end Go.Proofs.Wk
/- Weights made whole: the document's Round walked. -/
namespace Go.Proofs.Wk
open Go.RowKit
set_option maxRecDepth 100000
set_option maxHeartbeats 4000000
attribute [local irreducible] Pw OpG
set_option linter.unusedVariables false
set_option linter.unusedSimpArgs false
abbrev gRr (b4 : Blk) (q1 : Gr) (c1 : List Value) (q2 : Gr) (c2 : List Value) : List Blk := b4 :: (gL q1 c1 40 ++ gL q2 c2 42)
theorem permRr1 {a : Blk} {x y : List Blk} : (a :: (x ++ y)).Perm (x ++ (y ++ [a])) := by
  refine (List.perm_append_comm (l₁ := [a]) (l₂ := x ++ y)).trans ?_
  rw [List.append_assoc]
theorem permRr2 {a : Blk} {x y : List Blk} : (x ++ (y ++ [a])).Perm (y ++ (x ++ [a])) := by
  rw [← List.append_assoc, ← List.append_assoc]
  exact List.Perm.append_right _ List.perm_append_comm
structure RrJ (l : List Rt) (i : Nat) (ns : List Nt) (rs : List Rt) (q1 q2 : Gr) : Prop where
  le : i ≤ l.length
  hn : ns.map Prod.fst = flL ((l.take i).map rq)
  ho : RsOk ((l.take i).map rq) rs
  h1 : gOk q1 (cellsN ns) i 1
  h2 : gOk q2 (cellsR rs) i 2
theorem rRound_ct (K : Nat) (l : List Rt) (x : Option Addr × Nat) (o : List Nat) (hw : ∀ s ∈ l, RtW s) (hb : ∀ s ∈ l, s.a.length ≤ K ∧ s.b.length ≤ K) (hl : l.length ≤ 20) (hl0 : 0 < l.length) (hK : 1 ≤ K ∧ K ≤ 17) (ho : Ord (l.map rq) o) :
    Ct Try.prog 16 #[rsV l x] (RS l x) (fun r : List Nt × (Option Addr × Nat) => .tuple #[.slice r.2.1 (rndS l o).1.length r.2.2, .int .i64 (rndS l o).2]) (fun r => r.1.map Prod.fst = (rndS l o).1) (fun r => NS r.1 r.2) := by
  obtain ⟨A, c⟩ := x
  refine Ct.start Try.func16 rfl rfl (slots_of rfl slots1) (fun D w0 => ?_)
  repeat (first | (with_reducible first | refine Pw.seq ?_ | refine Pw.region ?_ | refine Pw.nil ?_ | refine Pw.then_ ?_ | refine Pw.skip ?_ | refine Pw.block ?_ | refine Pw.exit ?_ | refine Pw.inX ?_ | refine Pw.inN ?_ | refine Pw.inR ?_ | refine Pw.thenX ?_ | refine Pw.thenR ?_ | refine Pw.ret ?_) | refine Pw.list (Pw.pure rfl rfl rfl ?_) | refine Pw.inY rfl ?_ | refine Pw.list (Pw.off rfl rfl ?_) | refine Pw.condT rfl ?_ | refine Pw.condF rfl ?_ | refine Pw.list (Pw.box rfl rfl rfl rfl (fun _ => ?_)) | refine Pw.list (Pw.alloc rfl rfl rfl rfl rfl (fun _ => ?_)) | refine Pw.list (Pw.build rfl rfl rfl rfl ?_) | refine Pw.list (Pw.ld rfl inferInstance rfl rfl rfl ?_) | refine Pw.list (Pw.sto rfl rfl inferInstance rfl rfl rfl rfl rfl inferInstance rfl ?_))
  refine Pw.list (Pw.call rwhole0_ct rfl rfl rfl (by kernel_rfl) rfl rfl (fun w h => trivial) ?_)
  intro z4 _
  repeat (first | (with_reducible first | refine Pw.seq ?_ | refine Pw.region ?_ | refine Pw.nil ?_ | refine Pw.then_ ?_ | refine Pw.skip ?_ | refine Pw.block ?_ | refine Pw.exit ?_ | refine Pw.inX ?_ | refine Pw.inN ?_ | refine Pw.inR ?_ | refine Pw.thenX ?_ | refine Pw.thenR ?_ | refine Pw.ret ?_) | refine Pw.list (Pw.pure rfl rfl rfl ?_) | refine Pw.inY rfl ?_ | refine Pw.list (Pw.off rfl rfl ?_) | refine Pw.condT rfl ?_ | refine Pw.condF rfl ?_ | refine Pw.list (Pw.box rfl rfl rfl rfl (fun _ => ?_)) | refine Pw.list (Pw.alloc rfl rfl rfl rfl rfl (fun _ => ?_)) | refine Pw.list (Pw.build rfl rfl rfl rfl ?_) | refine Pw.list (Pw.ld rfl inferInstance rfl rfl rfl ?_) | refine Pw.list (Pw.sto rfl rfl inferInstance rfl rfl rfl rfl rfl inferInstance rfl ?_))
  rename_i g4
  refine Pw.loopJ (σ := Nat) (fun i => i ≤ l.length ∧ ∀ j, j < i → ∀ y, l[j]? = some y → (!formedR y.a y.b) = false) (fun i => ⟨[(0, .slice A l.length c), (4, .pointer (some ⟨g4, 0, none⟩)), (25, .int .i64 l.length), (26, .int .i64 i)], [⟨g4, row [sl (qn 0) z4.1, sl (qd 0) z4.2] 42⟩], [QW 0 z4, RS l (A, c)]⟩) (fun i => l.length - i) 0 ⟨Nat.zero_le _, fun j hj => absurd hj (Nat.not_lt_zero j)⟩ (Pw.enter ⟨rfl, rfl, rfl, rfl, trivial⟩ (fun w h => h)) ?_
  rintro i ⟨hi, hj⟩
  dsimp only at hi hj ⊢
  repeat (first | (with_reducible first | refine Pw.seq ?_ | refine Pw.region ?_ | refine Pw.nil ?_ | refine Pw.then_ ?_ | refine Pw.skip ?_ | refine Pw.block ?_ | refine Pw.exit ?_ | refine Pw.inX ?_ | refine Pw.inN ?_ | refine Pw.inR ?_ | refine Pw.thenX ?_ | refine Pw.thenR ?_ | refine Pw.ret ?_) | refine Pw.list (Pw.pure rfl rfl rfl ?_) | refine Pw.inY rfl ?_ | refine Pw.list (Pw.off rfl rfl ?_) | refine Pw.condT rfl ?_ | refine Pw.condF rfl ?_ | refine Pw.list (Pw.box rfl rfl rfl rfl (fun _ => ?_)) | refine Pw.list (Pw.alloc rfl rfl rfl rfl rfl (fun _ => ?_)) | refine Pw.list (Pw.build rfl rfl rfl rfl ?_) | refine Pw.list (Pw.ld rfl inferInstance rfl rfl rfl ?_) | refine Pw.list (Pw.sto rfl rfl inferInstance rfl rfl rfl rfl rfl inferInstance rfl ?_))
  refine Pw.condD rfl (fun c3 => ?_) (fun c3 => ?_)
  · obtain ⟨s, hsi, hsm⟩ := get_at (show i < l.length by omega)
    repeat (first | (with_reducible first | refine Pw.seq ?_ | refine Pw.region ?_ | refine Pw.nil ?_ | refine Pw.then_ ?_ | refine Pw.skip ?_ | refine Pw.block ?_ | refine Pw.exit ?_ | refine Pw.inX ?_ | refine Pw.inN ?_ | refine Pw.inR ?_ | refine Pw.thenX ?_ | refine Pw.thenR ?_ | refine Pw.ret ?_) | refine Pw.list (Pw.pure rfl rfl rfl ?_) | refine Pw.inY rfl ?_ | refine Pw.list (Pw.off rfl rfl ?_) | refine Pw.condT rfl ?_ | refine Pw.condF rfl ?_ | refine Pw.list (Pw.box rfl rfl rfl rfl (fun _ => ?_)) | refine Pw.list (Pw.alloc rfl rfl rfl rfl rfl (fun _ => ?_)) | refine Pw.list (Pw.build rfl rfl rfl rfl ?_) | refine Pw.list (Pw.ld rfl inferInstance rfl rfl rfl ?_) | refine Pw.list (Pw.sto rfl rfl inferInstance rfl rfl rfl rfl rfl inferInstance rfl ?_))
    refine Pw.list (Pw.index rfl rfl rfl rfl (Int.natCast_nonneg i) c3 (fun w h => (hv w h : RS l (A, c) w).has (Int.natCast_nonneg i) c3) rfl rfl ?_)
    rintro bd rfl
    refine Pw.list (Pw.loadR s rfl inferInstance rfl (by rw [Int.toNat_natCast]; exact hsi) (by kernel_rfl) rfl rfl ?_)
    refine Pw.re (d := 32) (v' := rt s.a s.b s.z) rfl rfl ?_
    repeat (first | (with_reducible first | refine Pw.seq ?_ | refine Pw.region ?_ | refine Pw.nil ?_ | refine Pw.then_ ?_ | refine Pw.skip ?_ | refine Pw.block ?_ | refine Pw.exit ?_ | refine Pw.inX ?_ | refine Pw.inN ?_ | refine Pw.inR ?_ | refine Pw.thenX ?_ | refine Pw.thenR ?_ | refine Pw.ret ?_) | refine Pw.list (Pw.pure rfl rfl rfl ?_) | refine Pw.inY rfl ?_ | refine Pw.list (Pw.off rfl rfl ?_) | refine Pw.condT rfl ?_ | refine Pw.condF rfl ?_ | refine Pw.list (Pw.box rfl rfl rfl rfl (fun _ => ?_)) | refine Pw.list (Pw.alloc rfl rfl rfl rfl rfl (fun _ => ?_)) | refine Pw.list (Pw.build rfl rfl rfl rfl ?_) | refine Pw.list (Pw.ld rfl inferInstance rfl rfl rfl ?_) | refine Pw.list (Pw.sto rfl rfl inferInstance rfl rfl rfl rfl rfl inferInstance rfl ?_))
    refine Pw.list (Pw.call (FormedRatio_ct s.a s.b s.z (hw s hsm).a (hw s hsm).b (by have := hb s hsm; omega) (by have := hb s hsm; omega)) rfl rfl rfl (by kernel_rfl) rfl rfl (fun w h => (hv w h : heldR s w)) ?_)
    intro _ _
    cases hf : formedR s.a s.b
    · have e : rndS l o = ([], 1) := if_pos (List.any_eq_true.2 ⟨s, hsm, by rw [hf]; rfl⟩)
      rw [e]
      repeat (first | (with_reducible first | refine Pw.seq ?_ | refine Pw.region ?_ | refine Pw.nil ?_ | refine Pw.then_ ?_ | refine Pw.skip ?_ | refine Pw.block ?_ | refine Pw.exit ?_ | refine Pw.inX ?_ | refine Pw.inN ?_ | refine Pw.inR ?_ | refine Pw.thenX ?_ | refine Pw.thenR ?_ | refine Pw.ret ?_) | refine Pw.list (Pw.pure rfl rfl rfl ?_) | refine Pw.inY rfl ?_ | refine Pw.list (Pw.off rfl rfl ?_) | refine Pw.condT rfl ?_ | refine Pw.condF rfl ?_ | refine Pw.list (Pw.box rfl rfl rfl rfl (fun _ => ?_)) | refine Pw.list (Pw.alloc rfl rfl rfl rfl rfl (fun _ => ?_)) | refine Pw.list (Pw.build rfl rfl rfl rfl ?_) | refine Pw.list (Pw.ld rfl inferInstance rfl rfl rfl ?_) | refine Pw.list (Pw.sto rfl rfl inferInstance rfl rfl rfl rfl rfl inferInstance rfl ?_))
      exact Pw.ret_ (x := ([], (none, 0))) (.tmp rfl (.tmp rfl .nil)) rfl rfl (fun w h => Rows.nil _ _ _ _ _)
    · repeat (first | (with_reducible first | refine Pw.seq ?_ | refine Pw.region ?_ | refine Pw.nil ?_ | refine Pw.then_ ?_ | refine Pw.skip ?_ | refine Pw.block ?_ | refine Pw.exit ?_ | refine Pw.inX ?_ | refine Pw.inN ?_ | refine Pw.inR ?_ | refine Pw.thenX ?_ | refine Pw.thenR ?_ | refine Pw.ret ?_) | refine Pw.list (Pw.pure rfl rfl rfl ?_) | refine Pw.inY rfl ?_ | refine Pw.list (Pw.off rfl rfl ?_) | refine Pw.condT rfl ?_ | refine Pw.condF rfl ?_ | refine Pw.list (Pw.box rfl rfl rfl rfl (fun _ => ?_)) | refine Pw.list (Pw.alloc rfl rfl rfl rfl rfl (fun _ => ?_)) | refine Pw.list (Pw.build rfl rfl rfl rfl ?_) | refine Pw.list (Pw.ld rfl inferInstance rfl rfl rfl ?_) | refine Pw.list (Pw.sto rfl rfl inferInstance rfl rfl rfl rfl rfl inferInstance rfl ?_))
      refine Pw.re (d := 26) (v' := .int .i64 ((i + 1 : Nat) : Int)) rfl (congrArg (Value.int .i64) (i64s (n := 100000) (by omega) (by omega))) ?_
      exact Pw.again (i + 1) ⟨by omega, below_snoc (p := fun y : Rt => !formedR y.a y.b) hj hsi (by rw [hf]; rfl)⟩ (by show l.length - (i + 1) < l.length - i; omega) ⟨rfl, rfl, rfl, rfl, trivial⟩ rfl (fun w h => allCons (hv w h) (allCons (hv w h) allNil))
  obtain rfl : i = l.length := by omega
  have hF : l.any (fun s => !formedR s.a s.b) = false := by
    rw [List.any_eq_false]
    intro y hy
    obtain ⟨j, hjj⟩ := List.getElem?_of_mem hy
    rw [hj j (List.getElem?_eq_some_iff.1 hjj).1 y hjj]; simp
  have eS : rndS l o = (wholeQ (l.map rq) o, 0) := if_neg (by rw [hF]; simp)
  rw [eS]
  have hfm : ∀ s ∈ l, ∃ (y : Rat) (z : Z2), s = ⟨qn y, qd y, z⟩ ∧ Sz K y ∧ rq s = y := fun s hs => by
    have := List.any_eq_false.1 hF s hs
    exact formed_ex (hw s hs) (by simpa using this) (hb s hs).1 (hb s hs).2
  have hz : ∀ q ∈ l.map rq, Sz K q := fun q hq => by
    obtain ⟨s, hs, rfl⟩ := List.mem_map.1 hq
    obtain ⟨y, z, _, h2, h3⟩ := hfm s hs
    rw [h3]; exact h2
  clear hj
  repeat (first | (with_reducible first | refine Pw.seq ?_ | refine Pw.region ?_ | refine Pw.nil ?_ | refine Pw.then_ ?_ | refine Pw.skip ?_ | refine Pw.block ?_ | refine Pw.exit ?_ | refine Pw.inX ?_ | refine Pw.inN ?_ | refine Pw.inR ?_ | refine Pw.thenX ?_ | refine Pw.thenR ?_ | refine Pw.ret ?_) | refine Pw.list (Pw.pure rfl rfl rfl ?_) | refine Pw.inY rfl ?_ | refine Pw.list (Pw.off rfl rfl ?_) | refine Pw.condT rfl ?_ | refine Pw.condF rfl ?_ | refine Pw.list (Pw.box rfl rfl rfl rfl (fun _ => ?_)) | refine Pw.list (Pw.alloc rfl rfl rfl rfl rfl (fun _ => ?_)) | refine Pw.list (Pw.build rfl rfl rfl rfl ?_) | refine Pw.list (Pw.ld rfl inferInstance rfl rfl rfl ?_) | refine Pw.list (Pw.sto rfl rfl inferInstance rfl rfl rfl rfl rfl inferInstance rfl ?_))
  refine Pw.list (Pw.call (rOf_ct 0) rfl rfl rfl (by kernel_rfl) rfl rfl (fun w h => trivial) ?_)
  intro z8 _
  rw [show ofN 0 = natL (FO l 0) by rw [ofN_natL (by omega) (by omega)]; rfl]
  repeat (first | (with_reducible first | refine Pw.seq ?_ | refine Pw.region ?_ | refine Pw.nil ?_ | refine Pw.then_ ?_ | refine Pw.skip ?_ | refine Pw.block ?_ | refine Pw.exit ?_ | refine Pw.inX ?_ | refine Pw.inN ?_ | refine Pw.inR ?_ | refine Pw.thenX ?_ | refine Pw.thenR ?_ | refine Pw.ret ?_) | refine Pw.list (Pw.pure rfl rfl rfl ?_) | refine Pw.inY rfl ?_ | refine Pw.list (Pw.off rfl rfl ?_) | refine Pw.condT rfl ?_ | refine Pw.condF rfl ?_ | refine Pw.list (Pw.box rfl rfl rfl rfl (fun _ => ?_)) | refine Pw.list (Pw.alloc rfl rfl rfl rfl rfl (fun _ => ?_)) | refine Pw.list (Pw.build rfl rfl rfl rfl ?_) | refine Pw.list (Pw.ld rfl inferInstance rfl rfl rfl ?_) | refine Pw.list (Pw.sto rfl rfl inferInstance rfl rfl rfl rfl rfl inferInstance rfl ?_))
  refine Pw.facts (G' := [QW (SO l 0) z4, S1 (natL (FO l 0)) z8, RS l (A, c), AllN [], AllR []]) (fun w h => allCons (hv w h : QW 0 z4 w) (allCons (hv w h) (allCons (hv w h) (allCons (fun r hr => by cases hr) (allCons (fun r hr => by cases hr) allNil))))) ?_
  refine Pw.eqL (L' := gRr ⟨g4, row [sl (qn (SO l 0)) z4.1, sl (qd (SO l 0)) z4.2] 42⟩ none [] none []) rfl ?_
  refine Pw.loopJ (σ := Nat × List Nt × List Rt × Gr × Gr × Z2 × (Option Addr × Nat)) (fun t => RrJ l t.1 t.2.1 t.2.2.1 t.2.2.2.1 t.2.2.2.2.1) (fun t => ⟨[(0, .slice A l.length c), (4, .pointer (some ⟨g4, 0, none⟩)), (6, gv t.2.2.2.1 t.1), (7, gv t.2.2.2.2.1 t.1), (8, sl (natL (FO l t.1)) t.2.2.2.2.2.2), (38, .int .i64 l.length), (39, .int .i64 t.1)], gRr ⟨g4, row [sl (qn (SO l t.1)) t.2.2.2.2.2.1.1, sl (qd (SO l t.1)) t.2.2.2.2.2.1.2] 42⟩ t.2.2.2.1 (cellsN t.2.1) t.2.2.2.2.1 (cellsR t.2.2.1), [QW (SO l t.1) t.2.2.2.2.2.1, S1 (natL (FO l t.1)) t.2.2.2.2.2.2, RS l (A, c), AllN t.2.1, AllR t.2.2.1]⟩) (fun t => l.length - t.1) (0, [], [], none, none, z4, z8) ⟨Nat.zero_le _, rfl, ⟨rfl, fun i o h => by simp at h⟩, ⟨rfl, rfl⟩, ⟨rfl, rfl⟩⟩ (Pw.enter ⟨rfl, rfl, rfl, rfl, rfl, rfl, rfl, trivial⟩ (fun w h => h)) ?_
  rintro ⟨i, ns, rs, q1, q2, z4, z8⟩ ⟨hi, hns, hrs, hq1, hq2⟩
  dsimp only at hi hns hrs hq1 hq2 ⊢
  repeat (first | (with_reducible first | refine Pw.seq ?_ | refine Pw.region ?_ | refine Pw.nil ?_ | refine Pw.then_ ?_ | refine Pw.skip ?_ | refine Pw.block ?_ | refine Pw.exit ?_ | refine Pw.inX ?_ | refine Pw.inN ?_ | refine Pw.inR ?_ | refine Pw.thenX ?_ | refine Pw.thenR ?_ | refine Pw.ret ?_) | refine Pw.list (Pw.pure rfl rfl rfl ?_) | refine Pw.inY rfl ?_ | refine Pw.list (Pw.off rfl rfl ?_) | refine Pw.condT rfl ?_ | refine Pw.condF rfl ?_ | refine Pw.list (Pw.box rfl rfl rfl rfl (fun _ => ?_)) | refine Pw.list (Pw.alloc rfl rfl rfl rfl rfl (fun _ => ?_)) | refine Pw.list (Pw.build rfl rfl rfl rfl ?_) | refine Pw.list (Pw.ld rfl inferInstance rfl rfl rfl ?_) | refine Pw.list (Pw.sto rfl rfl inferInstance rfl rfl rfl rfl rfl inferInstance rfl ?_))
  refine Pw.condD rfl (fun c3 => ?_) (fun c3 => ?_)
  · obtain ⟨s, hsi, hsm⟩ := get_at (show i < l.length by omega)
    have hS := SO_sz hz i hi
    have hS1 := SO_sz hz (i + 1) (by omega)
    have hF0 := FO_nn hz i
    have hF1 := sz_floor hS
    have eS1 := SO_snoc hsi
    have eF1 := FO_snoc hsi
    have em := map_take_snoc (f := rq) hsi
    obtain ⟨y, zs, rfl, hy, hq⟩ := hfm s hsm
    rw [hq] at eS1 eF1 em
    have hib : i * (K + 1) ≤ 19 * 18 := Nat.mul_le_mul (by omega) (by omega)
    refine Pw.use (p := A.isSome = true) (fun w h => (hv w h : RS l (A, c) w).has (Int.natCast_nonneg i) c3) (fun hA => ?_)
    obtain ⟨ad, rfl⟩ := Option.isSome_iff_exists.1 hA
    repeat (first | (with_reducible first | refine Pw.seq ?_ | refine Pw.region ?_ | refine Pw.nil ?_ | refine Pw.then_ ?_ | refine Pw.skip ?_ | refine Pw.block ?_ | refine Pw.exit ?_ | refine Pw.inX ?_ | refine Pw.inN ?_ | refine Pw.inR ?_ | refine Pw.thenX ?_ | refine Pw.thenR ?_ | refine Pw.ret ?_) | refine Pw.list (Pw.pure rfl rfl rfl ?_) | refine Pw.inY rfl ?_ | refine Pw.list (Pw.off rfl rfl ?_) | refine Pw.condT rfl ?_ | refine Pw.condF rfl ?_ | refine Pw.list (Pw.box rfl rfl rfl rfl (fun _ => ?_)) | refine Pw.list (Pw.alloc rfl rfl rfl rfl rfl (fun _ => ?_)) | refine Pw.list (Pw.build rfl rfl rfl rfl ?_) | refine Pw.list (Pw.ld rfl inferInstance rfl rfl rfl ?_) | refine Pw.list (Pw.sto rfl rfl inferInstance rfl rfl rfl rfl rfl inferInstance rfl ?_))
    refine Pw.join (σ := Nat × Z2) (fun _ => True) (fun t => ⟨[(0, .slice (some ad) l.length c), (4, .pointer (some ⟨g4, 0, none⟩)), (6, gv q1 i), (7, gv q2 i), (8, sl (natL (FO l i)) z8), (9, .int .i64 i), (10, .pointer (some ⟨t.1, 0, none⟩)), (11, .int .i64 0), (38, .int .i64 l.length), (39, .int .i64 i)], ⟨t.1, row [sl (qn (SO l (i + 1))) t.2.1, sl (qd (SO l (i + 1))) t.2.2] 42⟩ :: gRr ⟨g4, row [sl (qn (SO l i)) z4.1, sl (qd (SO l i)) z4.2] 42⟩ q1 (cellsN ns) q2 (cellsR rs), [QW (SO l (i + 1)) t.2, S1 (natL (FO l i)) z8, RS l (some ad, c), AllN ns, AllR rs, heldR ⟨qn y, qd y, zs⟩]⟩) ?_ ?_
    · skip
      refine Pw.drawnG mixed rfl rfl ?_
      refine Pw.takeP 1 (nb 12 2) rfl rfl rfl rfl (by kernel_rfl) np sf ?_
      refine Pw.takeP 2 (nb 12 6) rfl rfl rfl rfl (by kernel_rfl) np sf ?_
      refine Pw.takeIx 3 (nb 12 14) rfl rfl rfl rfl rfl (by first | assumption | omega) (by first | assumption | omega) rfl rfl (by kernel_rfl) np sf ?_
      refine Pw.three 0 4 9 (nb 12 15) (nb 12 30) (nb 12 526) rfl rfl rfl (by kernel_rfl) ?_ ?_ ?_
      · skip
        refine Pw.ld rfl inferInstance rfl rfl rfl ?_
        refine Pw.held sf ?_
        refine Pw.two 4 9 (nb 12 31) (nb 12 527) rfl rfl (by kernel_rfl) ?_ ?_
        · skip
          refine Pw.loadR ⟨qn y, qd y, zs⟩ rfl inferInstance rfl (by rw [Int.toNat_natCast]; exact hsi) (by kernel_rfl) rfl rfl ?_
          refine Pw.re (d := 47) (v' := qt y zs) rfl rfl ?_
          refine Pw.held sf ?_
          refine Pw.two 5 9 (nb 12 63) (nb 12 543) rfl rfl (by kernel_rfl) ?_ ?_
          · skip
            refine Pw.call (rqAdd_ct hS hy z4 zs (by omega)) rfl rfl rfl (by kernel_rfl) rfl rfl (fun w h => ⟨(hv w h), (hv w h : heldR ⟨qn y, qd y, zs⟩ w)⟩) ?_
            intro z10 _
            rw [← eS1]
            refine Pw.held sf ?_
            refine Pw.takeP 6 (nb 12 127) rfl rfl rfl rfl (by kernel_rfl) np sf ?_
            refine Pw.takeP 7 (nb 12 255) rfl rfl rfl rfl (by kernel_rfl) np sf ?_
            refine Pw.takeP 8 (nb 12 511) rfl rfl rfl rfl (by kernel_rfl) np sf ?_
            refine Pw.one 9 (nb 12 1023) rfl (by kernel_rfl) ?_
            refine Pw.alloc rfl rfl rfl rfl rfl (fun g10 => ?_)
            refine Pw.held sf ?_
            refine Pw.one 10 (nb 12 2047) rfl (by kernel_rfl) ?_
            refine Pw.sto rfl rfl inferInstance rfl rfl rfl rfl rfl inferInstance rfl ?_
            refine Pw.held sf ?_
            refine Pw.takeP 11 (nb 12 4095) rfl rfl rfl rfl (by kernel_rfl) np sf ?_
            refine Pw.done (by kernel_rfl) ?_
            exact Pw.then_ (Pw.arrive (g10, z10) trivial ⟨rfl, rfl, rfl, rfl, rfl, rfl, rfl, rfl, rfl, rfl, trivial⟩ rfl (fun w h => allCons (hv w h) (allCons (hv w h) (allCons (hv w h) (allCons (hv w h) (allCons (hv w h) (allCons (hv w h) allNil)))))))
          · skip
            refine Pw.alloc rfl rfl rfl rfl rfl (fun g10 => ?_)
            refine Pw.held sf ?_
            refine Pw.one 5 (nb 12 575) rfl (by kernel_rfl) ?_
            refine Pw.call (rqAdd_ct hS hy z4 zs (by omega)) rfl rfl rfl (by kernel_rfl) rfl rfl (fun w h => ⟨(hv w h), (hv w h : heldR ⟨qn y, qd y, zs⟩ w)⟩) ?_
            intro z10 _
            rw [← eS1]
            refine Pw.held sf ?_
            refine Pw.takeP 6 (nb 12 639) rfl rfl rfl rfl (by kernel_rfl) np sf ?_
            refine Pw.takeP 7 (nb 12 767) rfl rfl rfl rfl (by kernel_rfl) np sf ?_
            refine Pw.takeP 8 (nb 12 1023) rfl rfl rfl rfl (by kernel_rfl) np sf ?_
            refine Pw.one 10 (nb 12 2047) rfl (by kernel_rfl) ?_
            refine Pw.sto rfl rfl inferInstance rfl rfl rfl rfl rfl inferInstance rfl ?_
            refine Pw.held sf ?_
            refine Pw.takeP 11 (nb 12 4095) rfl rfl rfl rfl (by kernel_rfl) np sf ?_
            refine Pw.done (by kernel_rfl) ?_
            exact Pw.then_ (Pw.arrive (g10, z10) trivial ⟨rfl, rfl, rfl, rfl, rfl, rfl, rfl, rfl, rfl, rfl, trivial⟩ rfl (fun w h => allCons (hv w h) (allCons (hv w h) (allCons (hv w h) (allCons (hv w h) (allCons (hv w h) (allCons (hv w h) allNil)))))))
        · skip
          refine Pw.alloc rfl rfl rfl rfl rfl (fun g10 => ?_)
          refine Pw.held sf ?_
          refine Pw.one 4 (nb 12 543) rfl (by kernel_rfl) ?_
          refine Pw.loadR ⟨qn y, qd y, zs⟩ rfl inferInstance rfl (by rw [Int.toNat_natCast]; exact hsi) (by kernel_rfl) rfl rfl ?_
          refine Pw.re (d := 47) (v' := qt y zs) rfl rfl ?_
          refine Pw.held sf ?_
          refine Pw.one 5 (nb 12 575) rfl (by kernel_rfl) ?_
          refine Pw.call (rqAdd_ct hS hy z4 zs (by omega)) rfl rfl rfl (by kernel_rfl) rfl rfl (fun w h => ⟨(hv w h), (hv w h : heldR ⟨qn y, qd y, zs⟩ w)⟩) ?_
          intro z10 _
          rw [← eS1]
          refine Pw.held sf ?_
          refine Pw.takeP 6 (nb 12 639) rfl rfl rfl rfl (by kernel_rfl) np sf ?_
          refine Pw.takeP 7 (nb 12 767) rfl rfl rfl rfl (by kernel_rfl) np sf ?_
          refine Pw.takeP 8 (nb 12 1023) rfl rfl rfl rfl (by kernel_rfl) np sf ?_
          refine Pw.one 10 (nb 12 2047) rfl (by kernel_rfl) ?_
          refine Pw.sto rfl rfl inferInstance rfl rfl rfl rfl rfl inferInstance rfl ?_
          refine Pw.held sf ?_
          refine Pw.takeP 11 (nb 12 4095) rfl rfl rfl rfl (by kernel_rfl) np sf ?_
          refine Pw.done (by kernel_rfl) ?_
          exact Pw.then_ (Pw.arrive (g10, z10) trivial ⟨rfl, rfl, rfl, rfl, rfl, rfl, rfl, rfl, rfl, rfl, trivial⟩ rfl (fun w h => allCons (hv w h) (allCons (hv w h) (allCons (hv w h) (allCons (hv w h) (allCons (hv w h) (allCons (hv w h) allNil)))))))
      · skip
        refine Pw.loadR ⟨qn y, qd y, zs⟩ rfl inferInstance rfl (by rw [Int.toNat_natCast]; exact hsi) (by kernel_rfl) rfl rfl ?_
        refine Pw.re (d := 47) (v' := qt y zs) rfl rfl ?_
        refine Pw.held sf ?_
        refine Pw.two 0 9 (nb 12 31) (nb 12 542) rfl rfl (by kernel_rfl) ?_ ?_
        · skip
          refine Pw.ld rfl inferInstance rfl rfl rfl ?_
          refine Pw.held sf ?_
          refine Pw.two 5 9 (nb 12 63) (nb 12 543) rfl rfl (by kernel_rfl) ?_ ?_
          · skip
            refine Pw.call (rqAdd_ct hS hy z4 zs (by omega)) rfl rfl rfl (by kernel_rfl) rfl rfl (fun w h => ⟨(hv w h), (hv w h : heldR ⟨qn y, qd y, zs⟩ w)⟩) ?_
            intro z10 _
            rw [← eS1]
            refine Pw.held sf ?_
            refine Pw.takeP 6 (nb 12 127) rfl rfl rfl rfl (by kernel_rfl) np sf ?_
            refine Pw.takeP 7 (nb 12 255) rfl rfl rfl rfl (by kernel_rfl) np sf ?_
            refine Pw.takeP 8 (nb 12 511) rfl rfl rfl rfl (by kernel_rfl) np sf ?_
            refine Pw.one 9 (nb 12 1023) rfl (by kernel_rfl) ?_
            refine Pw.alloc rfl rfl rfl rfl rfl (fun g10 => ?_)
            refine Pw.held sf ?_
            refine Pw.one 10 (nb 12 2047) rfl (by kernel_rfl) ?_
            refine Pw.sto rfl rfl inferInstance rfl rfl rfl rfl rfl inferInstance rfl ?_
            refine Pw.held sf ?_
            refine Pw.takeP 11 (nb 12 4095) rfl rfl rfl rfl (by kernel_rfl) np sf ?_
            refine Pw.done (by kernel_rfl) ?_
            exact Pw.then_ (Pw.arrive (g10, z10) trivial ⟨rfl, rfl, rfl, rfl, rfl, rfl, rfl, rfl, rfl, rfl, trivial⟩ rfl (fun w h => allCons (hv w h) (allCons (hv w h) (allCons (hv w h) (allCons (hv w h) (allCons (hv w h) (allCons (hv w h) allNil)))))))
          · skip
            refine Pw.alloc rfl rfl rfl rfl rfl (fun g10 => ?_)
            refine Pw.held sf ?_
            refine Pw.one 5 (nb 12 575) rfl (by kernel_rfl) ?_
            refine Pw.call (rqAdd_ct hS hy z4 zs (by omega)) rfl rfl rfl (by kernel_rfl) rfl rfl (fun w h => ⟨(hv w h), (hv w h : heldR ⟨qn y, qd y, zs⟩ w)⟩) ?_
            intro z10 _
            rw [← eS1]
            refine Pw.held sf ?_
            refine Pw.takeP 6 (nb 12 639) rfl rfl rfl rfl (by kernel_rfl) np sf ?_
            refine Pw.takeP 7 (nb 12 767) rfl rfl rfl rfl (by kernel_rfl) np sf ?_
            refine Pw.takeP 8 (nb 12 1023) rfl rfl rfl rfl (by kernel_rfl) np sf ?_
            refine Pw.one 10 (nb 12 2047) rfl (by kernel_rfl) ?_
            refine Pw.sto rfl rfl inferInstance rfl rfl rfl rfl rfl inferInstance rfl ?_
            refine Pw.held sf ?_
            refine Pw.takeP 11 (nb 12 4095) rfl rfl rfl rfl (by kernel_rfl) np sf ?_
            refine Pw.done (by kernel_rfl) ?_
            exact Pw.then_ (Pw.arrive (g10, z10) trivial ⟨rfl, rfl, rfl, rfl, rfl, rfl, rfl, rfl, rfl, rfl, trivial⟩ rfl (fun w h => allCons (hv w h) (allCons (hv w h) (allCons (hv w h) (allCons (hv w h) (allCons (hv w h) (allCons (hv w h) allNil)))))))
        · skip
          refine Pw.alloc rfl rfl rfl rfl rfl (fun g10 => ?_)
          refine Pw.held sf ?_
          refine Pw.one 0 (nb 12 543) rfl (by kernel_rfl) ?_
          refine Pw.ld rfl inferInstance rfl rfl rfl ?_
          refine Pw.held sf ?_
          refine Pw.one 5 (nb 12 575) rfl (by kernel_rfl) ?_
          refine Pw.call (rqAdd_ct hS hy z4 zs (by omega)) rfl rfl rfl (by kernel_rfl) rfl rfl (fun w h => ⟨(hv w h), (hv w h : heldR ⟨qn y, qd y, zs⟩ w)⟩) ?_
          intro z10 _
          rw [← eS1]
          refine Pw.held sf ?_
          refine Pw.takeP 6 (nb 12 639) rfl rfl rfl rfl (by kernel_rfl) np sf ?_
          refine Pw.takeP 7 (nb 12 767) rfl rfl rfl rfl (by kernel_rfl) np sf ?_
          refine Pw.takeP 8 (nb 12 1023) rfl rfl rfl rfl (by kernel_rfl) np sf ?_
          refine Pw.one 10 (nb 12 2047) rfl (by kernel_rfl) ?_
          refine Pw.sto rfl rfl inferInstance rfl rfl rfl rfl rfl inferInstance rfl ?_
          refine Pw.held sf ?_
          refine Pw.takeP 11 (nb 12 4095) rfl rfl rfl rfl (by kernel_rfl) np sf ?_
          refine Pw.done (by kernel_rfl) ?_
          exact Pw.then_ (Pw.arrive (g10, z10) trivial ⟨rfl, rfl, rfl, rfl, rfl, rfl, rfl, rfl, rfl, rfl, trivial⟩ rfl (fun w h => allCons (hv w h) (allCons (hv w h) (allCons (hv w h) (allCons (hv w h) (allCons (hv w h) (allCons (hv w h) allNil)))))))
      · skip
        refine Pw.alloc rfl rfl rfl rfl rfl (fun g10 => ?_)
        refine Pw.held sf ?_
        refine Pw.two 0 4 (nb 12 527) (nb 12 542) rfl rfl (by kernel_rfl) ?_ ?_
        · skip
          refine Pw.ld rfl inferInstance rfl rfl rfl ?_
          refine Pw.held sf ?_
          refine Pw.one 4 (nb 12 543) rfl (by kernel_rfl) ?_
          refine Pw.loadR ⟨qn y, qd y, zs⟩ rfl inferInstance rfl (by rw [Int.toNat_natCast]; exact hsi) (by kernel_rfl) rfl rfl ?_
          refine Pw.re (d := 47) (v' := qt y zs) rfl rfl ?_
          refine Pw.held sf ?_
          refine Pw.one 5 (nb 12 575) rfl (by kernel_rfl) ?_
          refine Pw.call (rqAdd_ct hS hy z4 zs (by omega)) rfl rfl rfl (by kernel_rfl) rfl rfl (fun w h => ⟨(hv w h), (hv w h : heldR ⟨qn y, qd y, zs⟩ w)⟩) ?_
          intro z10 _
          rw [← eS1]
          refine Pw.held sf ?_
          refine Pw.takeP 6 (nb 12 639) rfl rfl rfl rfl (by kernel_rfl) np sf ?_
          refine Pw.takeP 7 (nb 12 767) rfl rfl rfl rfl (by kernel_rfl) np sf ?_
          refine Pw.takeP 8 (nb 12 1023) rfl rfl rfl rfl (by kernel_rfl) np sf ?_
          refine Pw.one 10 (nb 12 2047) rfl (by kernel_rfl) ?_
          refine Pw.sto rfl rfl inferInstance rfl rfl rfl rfl rfl inferInstance rfl ?_
          refine Pw.held sf ?_
          refine Pw.takeP 11 (nb 12 4095) rfl rfl rfl rfl (by kernel_rfl) np sf ?_
          refine Pw.done (by kernel_rfl) ?_
          exact Pw.then_ (Pw.arrive (g10, z10) trivial ⟨rfl, rfl, rfl, rfl, rfl, rfl, rfl, rfl, rfl, rfl, trivial⟩ rfl (fun w h => allCons (hv w h) (allCons (hv w h) (allCons (hv w h) (allCons (hv w h) (allCons (hv w h) (allCons (hv w h) allNil)))))))
        · skip
          refine Pw.loadR ⟨qn y, qd y, zs⟩ rfl inferInstance rfl (by rw [Int.toNat_natCast]; exact hsi) (by kernel_rfl) rfl rfl ?_
          refine Pw.re (d := 47) (v' := qt y zs) rfl rfl ?_
          refine Pw.held sf ?_
          refine Pw.one 0 (nb 12 543) rfl (by kernel_rfl) ?_
          refine Pw.ld rfl inferInstance rfl rfl rfl ?_
          refine Pw.held sf ?_
          refine Pw.one 5 (nb 12 575) rfl (by kernel_rfl) ?_
          refine Pw.call (rqAdd_ct hS hy z4 zs (by omega)) rfl rfl rfl (by kernel_rfl) rfl rfl (fun w h => ⟨(hv w h), (hv w h : heldR ⟨qn y, qd y, zs⟩ w)⟩) ?_
          intro z10 _
          rw [← eS1]
          refine Pw.held sf ?_
          refine Pw.takeP 6 (nb 12 639) rfl rfl rfl rfl (by kernel_rfl) np sf ?_
          refine Pw.takeP 7 (nb 12 767) rfl rfl rfl rfl (by kernel_rfl) np sf ?_
          refine Pw.takeP 8 (nb 12 1023) rfl rfl rfl rfl (by kernel_rfl) np sf ?_
          refine Pw.one 10 (nb 12 2047) rfl (by kernel_rfl) ?_
          refine Pw.sto rfl rfl inferInstance rfl rfl rfl rfl rfl inferInstance rfl ?_
          refine Pw.held sf ?_
          refine Pw.takeP 11 (nb 12 4095) rfl rfl rfl rfl (by kernel_rfl) np sf ?_
          refine Pw.done (by kernel_rfl) ?_
          exact Pw.then_ (Pw.arrive (g10, z10) trivial ⟨rfl, rfl, rfl, rfl, rfl, rfl, rfl, rfl, rfl, rfl, trivial⟩ rfl (fun w h => allCons (hv w h) (allCons (hv w h) (allCons (hv w h) (allCons (hv w h) (allCons (hv w h) (allCons (hv w h) allNil)))))))
    rintro ⟨g10, z10⟩ _
    dsimp only
    repeat (first | (with_reducible first | refine Pw.seq ?_ | refine Pw.region ?_ | refine Pw.nil ?_ | refine Pw.then_ ?_ | refine Pw.skip ?_ | refine Pw.block ?_ | refine Pw.exit ?_ | refine Pw.inX ?_ | refine Pw.inN ?_ | refine Pw.inR ?_ | refine Pw.thenX ?_ | refine Pw.thenR ?_ | refine Pw.ret ?_) | refine Pw.list (Pw.pure rfl rfl rfl ?_) | refine Pw.inY rfl ?_ | refine Pw.list (Pw.off rfl rfl ?_) | refine Pw.condT rfl ?_ | refine Pw.condF rfl ?_ | refine Pw.list (Pw.box rfl rfl rfl rfl (fun _ => ?_)) | refine Pw.list (Pw.alloc rfl rfl rfl rfl rfl (fun _ => ?_)) | refine Pw.list (Pw.build rfl rfl rfl rfl ?_) | refine Pw.list (Pw.ld rfl inferInstance rfl rfl rfl ?_) | refine Pw.list (Pw.sto rfl rfl inferInstance rfl rfl rfl rfl rfl inferInstance rfl ?_))
    refine Pw.drop ?_
    refine Pw.list (Pw.indexS rfl rfl rfl rfl (Int.natCast_nonneg i) c3 rfl rfl ?_)
    refine Pw.list (Pw.loadR ⟨qn y, qd y, zs⟩ rfl inferInstance rfl (by rw [Int.toNat_natCast]; exact hsi) (by kernel_rfl) rfl rfl ?_)
    refine Pw.re (d := 59) (v' := qt y zs) rfl rfl ?_
    refine Pw.list (Pw.call (rqFloor_ct hy zs (by omega)) rfl rfl rfl (by kernel_rfl) rfl rfl (fun w h => (hv w h : heldR ⟨qn y, qd y, zs⟩ w)) ?_)
    intro zf _
    repeat (first | (with_reducible first | refine Pw.seq ?_ | refine Pw.region ?_ | refine Pw.nil ?_ | refine Pw.then_ ?_ | refine Pw.skip ?_ | refine Pw.block ?_ | refine Pw.exit ?_ | refine Pw.inX ?_ | refine Pw.inN ?_ | refine Pw.inR ?_ | refine Pw.thenX ?_ | refine Pw.thenR ?_ | refine Pw.ret ?_) | refine Pw.list (Pw.pure rfl rfl rfl ?_) | refine Pw.inY rfl ?_ | refine Pw.list (Pw.off rfl rfl ?_) | refine Pw.condT rfl ?_ | refine Pw.condF rfl ?_ | refine Pw.list (Pw.box rfl rfl rfl rfl (fun _ => ?_)) | refine Pw.list (Pw.alloc rfl rfl rfl rfl rfl (fun _ => ?_)) | refine Pw.list (Pw.build rfl rfl rfl rfl ?_) | refine Pw.list (Pw.ld rfl inferInstance rfl rfl rfl ?_) | refine Pw.list (Pw.sto rfl rfl inferInstance rfl rfl rfl rfl rfl inferInstance rfl ?_))
    refine Pw.list (Pw.lit1 rfl rfl rfl rfl rfl rfl rfl rfl rfl (fun g1 => freeHead ?_))
    refine Pw.perm permRr1 ?_
    refine Pw.list (Pw.push (s := q1) (m := i) (cells := cellsN ns) (news := encN (natL y.floor, zf)) rfl rfl rfl rfl rfl rfl rfl hq1 rfl (fun u hu => by rw [List.mem_singleton.1 hu]; rfl) (fun w hs j u hu => by
       have h1 : w.heap[g1]? = some (row (encN (natL y.floor, zf)) 40) := fact0 hs.all
       rw [add_none, cell_of_blk h1]
       simpa using hu) (by omega) (by simp only [maxLen]; omega) (by show (i + 1) * 24 ≤ _; omega) rfl rfl (fun q1' hq1' => ?_))
    rw [← cellsN_snoc] at hq1' ⊢
    refine Pw.perm permRr1.symm ?_
    repeat (first | (with_reducible first | refine Pw.seq ?_ | refine Pw.region ?_ | refine Pw.nil ?_ | refine Pw.then_ ?_ | refine Pw.skip ?_ | refine Pw.block ?_ | refine Pw.exit ?_ | refine Pw.inX ?_ | refine Pw.inN ?_ | refine Pw.inR ?_ | refine Pw.thenX ?_ | refine Pw.thenR ?_ | refine Pw.ret ?_) | refine Pw.list (Pw.pure rfl rfl rfl ?_) | refine Pw.inY rfl ?_ | refine Pw.list (Pw.off rfl rfl ?_) | refine Pw.condT rfl ?_ | refine Pw.condF rfl ?_ | refine Pw.list (Pw.box rfl rfl rfl rfl (fun _ => ?_)) | refine Pw.list (Pw.alloc rfl rfl rfl rfl rfl (fun _ => ?_)) | refine Pw.list (Pw.build rfl rfl rfl rfl ?_) | refine Pw.list (Pw.ld rfl inferInstance rfl rfl rfl ?_) | refine Pw.list (Pw.sto rfl rfl inferInstance rfl rfl rfl rfl rfl inferInstance rfl ?_))
    have hfl : Sz K ((y.floor : Int) : Rat) := sz_int (floor_nn hy.p) (sz_floor hy) (by omega)
    refine Pw.drawnG mixed rfl rfl ?_
    refine Pw.takeP 0 (nb 12 1) rfl rfl rfl rfl (by kernel_rfl) np sf ?_
    refine Pw.takeP 1 (nb 12 3) rfl rfl rfl rfl (by kernel_rfl) np sf ?_
    refine Pw.takeP 2 (nb 12 7) rfl rfl rfl rfl (by kernel_rfl) np sf ?_
    refine Pw.takeIx 3 (nb 12 15) rfl rfl rfl rfl rfl (by first | assumption | omega) (by first | assumption | omega) rfl rfl (by kernel_rfl) np sf ?_
    refine Pw.takeLA ⟨qn y,qd y,zs⟩ 4 (nb 12 31) rfl rfl inferInstance rfl (by first | assumption | (rw [Int.toNat_natCast]; assumption)) (by kernel_rfl) rfl rfl (by kernel_rfl) np sf ?_
    refine Pw.takeP 5 (nb 12 63) rfl rfl rfl rfl (by kernel_rfl) np sf ?_
    refine Pw.one 6 (nb 12 127) rfl (by kernel_rfl) ?_
    -- call Op.call { callee := Callee.value (Operand.func 42), args := #[Operand.const (Value.int IntKind.u64 1)], argTypes := #[55] }
    refine Pw.call (rOf_ct 1) rfl rfl rfl (by kernel_rfl) rfl rfl (fun w h => trivial) ?_
    intro zu _
    rw [ofN_1]
    refine Pw.held sf ?_
    have hmin := rqMinus_ct hy hfl zs (zf, zu) (by omega) (Rat.floor_le y)
    rw [show qt ((y.floor : Int) : Rat) (zf, zu) = rt (natL y.floor) [1] (zf, zu) by unfold qt; rw [qn_int, qd_int], show QW ((y.floor : Int) : Rat) (zf, zu) = R2 (natL y.floor) [1] (zf, zu) by unfold QW; rw [qn_int, qd_int]] at hmin
    refine Pw.takeBuild 7 (nb 12 255) rfl rfl rfl rfl rfl (by kernel_rfl) np sf ?_
    refine Pw.one 8 (nb 12 511) rfl (by kernel_rfl) ?_
    -- call Op.call { callee := Callee.value (Operand.func 44), args := #[Operand.tmp 71, Operand.tmp 74], argTypes := #[42, 42] }
    refine Pw.call hmin rfl rfl rfl (by kernel_rfl) rfl rfl (fun w h => ⟨(hv w h : heldR ⟨qn y, qd y, zs⟩ w), (hv w h), (hv w h)⟩) ?_
    intro zr _
    rw [show y - (y.floor : Rat) = fr y from rfl]
    refine Pw.held sf ?_
    refine Pw.one 9 (nb 12 1023) rfl (by kernel_rfl) ?_
    -- eff Op.buildSlice 32 1 #[(0, Operand.tmp 75)]
    refine Pw.lit12 rfl rfl rfl rfl rfl rfl rfl rfl rfl (fun g2 => freeHead ?_)
    refine Pw.held sf ?_
    refine Pw.one 10 (nb 12 2047) rfl (by kernel_rfl) ?_
    -- call Op.call { callee := Callee.builtin Builtin.append, args := #[Operand.tmp 67, Operand.tmp 76], argTypes := #[32, 32] }
    refine Pw.perm (permRr1.trans permRr2) ?_
    refine Pw.push (s := q2) (m := i) (cells := cellsR rs) (news := encR ⟨qn (fr y), qd (fr y), zr⟩) rfl rfl rfl rfl rfl rfl rfl hq2 rfl (encR_one _) (fun w hs j u hu => by
       have h1 : w.heap[g2]? = some (row (encR ⟨qn (fr y), qd (fr y), zr⟩) 42) := fact0 hs.all
       rw [add_none, cell_of_blk h1]
       simpa using hu) (by omega) (by simp only [maxLen]; omega) (by show (i + 1) * 48 ≤ _; omega) rfl rfl (fun q2' hq2' => ?_)
    rw [← cellsR_snoc] at hq2' ⊢
    refine Pw.perm (permRr2.trans permRr1.symm) ?_
    refine Pw.held sf ?_
    refine Pw.takeP 11 (nb 12 4095) rfl rfl rfl rfl (by kernel_rfl) np sf ?_
    refine Pw.done (by kernel_rfl) ?_
    repeat (first | (with_reducible first | refine Pw.seq ?_ | refine Pw.region ?_ | refine Pw.nil ?_ | refine Pw.then_ ?_ | refine Pw.skip ?_ | refine Pw.block ?_ | refine Pw.exit ?_ | refine Pw.inX ?_ | refine Pw.inN ?_ | refine Pw.inR ?_ | refine Pw.thenX ?_ | refine Pw.thenR ?_ | refine Pw.ret ?_) | refine Pw.list (Pw.pure rfl rfl rfl ?_) | refine Pw.inY rfl ?_ | refine Pw.list (Pw.off rfl rfl ?_) | refine Pw.condT rfl ?_ | refine Pw.condF rfl ?_ | refine Pw.list (Pw.box rfl rfl rfl rfl (fun _ => ?_)) | refine Pw.list (Pw.alloc rfl rfl rfl rfl rfl (fun _ => ?_)) | refine Pw.list (Pw.build rfl rfl rfl rfl ?_) | refine Pw.list (Pw.ld rfl inferInstance rfl rfl rfl ?_) | refine Pw.list (Pw.sto rfl rfl inferInstance rfl rfl rfl rfl rfl inferInstance rfl ?_))
    have hfK : y.floor < pw (i * (K + 1) + 1 + K) := by have h1 := sz_floor hy; have h2 := pw_le (show K ≤ i * (K + 1) + 1 + K by omega); omega
    have hFK : FO l i < pw (i * (K + 1) + 1 + K) := by have h2 := pw_le (show i * (K + 1) + 1 ≤ i * (K + 1) + 1 + K by omega); omega
    have hadd := rAddN_ct (a := FO l i) (b := y.floor) z8 zf hF0.1 (floor_nn hy.p) hFK hfK (by omega)
    rw [← eF1] at hadd
    refine Pw.list (Pw.call hadd rfl rfl rfl (by kernel_rfl) rfl rfl (fun w h => ⟨(hv w h), (hv w h)⟩) ?_)
    intro z8' _
    repeat (first | (with_reducible first | refine Pw.seq ?_ | refine Pw.region ?_ | refine Pw.nil ?_ | refine Pw.then_ ?_ | refine Pw.skip ?_ | refine Pw.block ?_ | refine Pw.exit ?_ | refine Pw.inX ?_ | refine Pw.inN ?_ | refine Pw.inR ?_ | refine Pw.thenX ?_ | refine Pw.thenR ?_ | refine Pw.ret ?_) | refine Pw.list (Pw.pure rfl rfl rfl ?_) | refine Pw.inY rfl ?_ | refine Pw.list (Pw.off rfl rfl ?_) | refine Pw.condT rfl ?_ | refine Pw.condF rfl ?_ | refine Pw.list (Pw.box rfl rfl rfl rfl (fun _ => ?_)) | refine Pw.list (Pw.alloc rfl rfl rfl rfl rfl (fun _ => ?_)) | refine Pw.list (Pw.build rfl rfl rfl rfl ?_) | refine Pw.list (Pw.ld rfl inferInstance rfl rfl rfl ?_) | refine Pw.list (Pw.sto rfl rfl inferInstance rfl rfl rfl rfl rfl inferInstance rfl ?_))
    refine Pw.re (d := 39) (v' := .int .i64 ((i + 1 : Nat) : Int)) rfl (congrArg (Value.int .i64) (i64s (n := 100000) (by omega) (by omega))) ?_
    exact Pw.again (i + 1, ns ++ [(natL y.floor, zf)], rs ++ [⟨qn (fr y), qd (fr y), zr⟩], q1', q2', z10, z8') ⟨by omega, by rw [em, List.map_append, hns]; unfold flL; rw [List.map_append]; rfl, by
         rw [em]; exact RsOk_snoc hrs y zr, hq1', hq2'⟩ (by show l.length - (i + 1) < l.length - i; omega) ⟨rfl, rfl, rfl, rfl, rfl, rfl, rfl, trivial⟩ rfl (fun w h => allCons (hv w h) (allCons (hv w h) (allCons (hv w h) (allCons (fun p hp => by
         rcases List.mem_append.1 hp with hp | hp
         · exact (hv w h : AllN ns w) p hp
         · rw [List.mem_singleton.1 hp]; exact (hv w h : S1 (natL y.floor) zf w)) (allCons (fun p hp => by
         rcases List.mem_append.1 hp with hp | hp
         · exact (hv w h : AllR rs w) p hp
         · rw [List.mem_singleton.1 hp]; exact (hv w h : QW (fr y) zr w)) allNil)))))
  · obtain rfl : i = l.length := by omega
    rw [List.take_length] at hns hrs
    have hrl : rs.length = l.length := by rw [hrs.1, List.length_map]
    obtain _ | ⟨g2, cap2, ex2⟩ := q2
    · have := hq2.1; omega
    obtain _ | ⟨g1, cap1, ex1⟩ := q1
    · have := hq1.1; omega
    have hSz := SO_sz hz l.length (Nat.le_refl _)
    have hF0 := FO_nn hz l.length
    have hib : l.length * (K + 1) ≤ 20 * 18 := Nat.mul_le_mul (by omega) (by omega)
    have hSe : (SO l l.length).floor = ((manyQ (l.map rq) : Nat) : Int) + FO l l.length := by
      rw [manyQ_eq]; unfold SO FO; rw [List.take_length]; exact floor_split _
    have hMl := manyQ_le (l.map rq)
    rw [List.length_map] at hMl
    obtain ⟨M, hM⟩ : ∃ M, M = manyQ (l.map rq) := ⟨_, rfl⟩
    have eW : wholeQ (l.map rq) o = bumps (flL (l.map rq)) (o.take M) := by rw [hM]; rfl
    rw [← hM] at hMl hSe
    have hMn := natL_len_le (n := 1) (show 0 ≤ ((M : Nat) : Int) by omega) (by show _ < (4294967296 : Int); omega)
    repeat (first | (with_reducible first | refine Pw.seq ?_ | refine Pw.region ?_ | refine Pw.nil ?_ | refine Pw.then_ ?_ | refine Pw.skip ?_ | refine Pw.block ?_ | refine Pw.exit ?_ | refine Pw.inX ?_ | refine Pw.inN ?_ | refine Pw.inR ?_ | refine Pw.thenX ?_ | refine Pw.thenR ?_ | refine Pw.ret ?_) | refine Pw.list (Pw.pure rfl rfl rfl ?_) | refine Pw.inY rfl ?_ | refine Pw.list (Pw.off rfl rfl ?_) | refine Pw.condT rfl ?_ | refine Pw.condF rfl ?_ | refine Pw.list (Pw.box rfl rfl rfl rfl (fun _ => ?_)) | refine Pw.list (Pw.alloc rfl rfl rfl rfl rfl (fun _ => ?_)) | refine Pw.list (Pw.build rfl rfl rfl rfl ?_) | refine Pw.list (Pw.ld rfl inferInstance rfl rfl rfl ?_) | refine Pw.list (Pw.sto rfl rfl inferInstance rfl rfl rfl rfl rfl inferInstance rfl ?_))
    refine Pw.list (Pw.call (rqFloor_ct hSz z4 (by omega)) rfl rfl rfl (by kernel_rfl) rfl rfl (fun w h => (hv w h)) ?_)
    intro zm _
    repeat (first | (with_reducible first | refine Pw.seq ?_ | refine Pw.region ?_ | refine Pw.nil ?_ | refine Pw.then_ ?_ | refine Pw.skip ?_ | refine Pw.block ?_ | refine Pw.exit ?_ | refine Pw.inX ?_ | refine Pw.inN ?_ | refine Pw.inR ?_ | refine Pw.thenX ?_ | refine Pw.thenR ?_ | refine Pw.ret ?_) | refine Pw.list (Pw.pure rfl rfl rfl ?_) | refine Pw.inY rfl ?_ | refine Pw.list (Pw.off rfl rfl ?_) | refine Pw.condT rfl ?_ | refine Pw.condF rfl ?_ | refine Pw.list (Pw.box rfl rfl rfl rfl (fun _ => ?_)) | refine Pw.list (Pw.alloc rfl rfl rfl rfl rfl (fun _ => ?_)) | refine Pw.list (Pw.build rfl rfl rfl rfl ?_) | refine Pw.list (Pw.ld rfl inferInstance rfl rfl rfl ?_) | refine Pw.list (Pw.sto rfl rfl inferInstance rfl rfl rfl rfl rfl inferInstance rfl ?_))
    have hsub := rSubN_ct (a := (SO l l.length).floor) (b := FO l l.length) zm z8 hF0.1 hF0.2 (sz_floor hSz) (by omega)
    rw [show (SO l l.length).floor - FO l l.length = ((M : Nat) : Int) by omega] at hsub
    refine Pw.list (Pw.call hsub rfl rfl rfl (by kernel_rfl) rfl rfl (fun w h => ⟨(hv w h), (hv w h)⟩) ?_)
    intro zn _
    repeat (first | (with_reducible first | refine Pw.seq ?_ | refine Pw.region ?_ | refine Pw.nil ?_ | refine Pw.then_ ?_ | refine Pw.skip ?_ | refine Pw.block ?_ | refine Pw.exit ?_ | refine Pw.inX ?_ | refine Pw.inN ?_ | refine Pw.inR ?_ | refine Pw.thenX ?_ | refine Pw.thenR ?_ | refine Pw.ret ?_) | refine Pw.list (Pw.pure rfl rfl rfl ?_) | refine Pw.inY rfl ?_ | refine Pw.list (Pw.off rfl rfl ?_) | refine Pw.condT rfl ?_ | refine Pw.condF rfl ?_ | refine Pw.list (Pw.box rfl rfl rfl rfl (fun _ => ?_)) | refine Pw.list (Pw.alloc rfl rfl rfl rfl rfl (fun _ => ?_)) | refine Pw.list (Pw.build rfl rfl rfl rfl ?_) | refine Pw.list (Pw.ld rfl inferInstance rfl rfl rfl ?_) | refine Pw.list (Pw.sto rfl rfl inferInstance rfl rfl rfl rfl rfl inferInstance rfl ?_))
    refine Pw.list (Pw.call (rLow_ct (natL ((M : Nat) : Int)) zn (natL_fm _).1 (by omega)) rfl rfl rfl (by kernel_rfl) rfl rfl (fun w h => (hv w h)) ?_)
    intro _ _
    rw [show lowN (natL ((M : Nat) : Int)) = (((M : Nat) : Int), true) by unfold lowN; rw [if_pos ⟨fmB_natL (by omega), by omega⟩, val_natL (by omega)]]
    repeat (first | (with_reducible first | refine Pw.seq ?_ | refine Pw.region ?_ | refine Pw.nil ?_ | refine Pw.then_ ?_ | refine Pw.skip ?_ | refine Pw.block ?_ | refine Pw.exit ?_ | refine Pw.inX ?_ | refine Pw.inN ?_ | refine Pw.inR ?_ | refine Pw.thenX ?_ | refine Pw.thenR ?_ | refine Pw.ret ?_) | refine Pw.list (Pw.pure rfl rfl rfl ?_) | refine Pw.inY rfl ?_ | refine Pw.list (Pw.off rfl rfl ?_) | refine Pw.condT rfl ?_ | refine Pw.condF rfl ?_ | refine Pw.list (Pw.box rfl rfl rfl rfl (fun _ => ?_)) | refine Pw.list (Pw.alloc rfl rfl rfl rfl rfl (fun _ => ?_)) | refine Pw.list (Pw.build rfl rfl rfl rfl ?_) | refine Pw.list (Pw.ld rfl inferInstance rfl rfl rfl ?_) | refine Pw.list (Pw.sto rfl rfl inferInstance rfl rfl rfl rfl rfl inferInstance rfl ?_))
    refine Pw.perm (permRr1.trans permRr2) ?_
    refine freeHead (g := g2) (o := row (cellsR rs ++ ex2) 42) ?_
    refine Pw.list (Pw.make (m := l.length) (z := .bool false) rfl rfl rfl rfl rfl rfl (by show 1 * l.length ≤ _; omega) (by simp only [maxLen]; omega) rfl rfl (fun g20 => ?_))
    rw [← gvn_0]
    refine Pw.facts (G' := [RS rs (some ⟨g2, 0, none⟩, cap2), AllN ns]) (fun w h => allCons (rows_of_row (fact0 h) (fun _ _ => rfl) (fun p hp => (hv w h : AllR rs w) p hp) (by rw [hrl]; exact hq2.2.1) (by rw [hrl]; simp only [maxLen]; omega) (by omega)) (allCons (hv w h) allNil)) ?_
    refine Pw.perm (L' := [⟨g4, row [sl (qn (SO l l.length)) z4.1, sl (qd (SO l l.length)) z4.2] 42⟩, ⟨g20, row (gvn l.length []) 4⟩, ⟨g1, row (cellsN ns ++ ex1) 40⟩]) ?_ ?_
    · exact List.perm_append_comm (l₁ := [_, _]) (l₂ := [_])
    refine Pw.drop ?_
    repeat (first | (with_reducible first | refine Pw.seq ?_ | refine Pw.region ?_ | refine Pw.nil ?_ | refine Pw.then_ ?_ | refine Pw.skip ?_ | refine Pw.block ?_ | refine Pw.exit ?_ | refine Pw.inX ?_ | refine Pw.inN ?_ | refine Pw.inR ?_ | refine Pw.thenX ?_ | refine Pw.thenR ?_ | refine Pw.ret ?_) | refine Pw.list (Pw.pure rfl rfl rfl ?_) | refine Pw.inY rfl ?_ | refine Pw.list (Pw.off rfl rfl ?_) | refine Pw.condT rfl ?_ | refine Pw.condF rfl ?_ | refine Pw.list (Pw.box rfl rfl rfl rfl (fun _ => ?_)) | refine Pw.list (Pw.alloc rfl rfl rfl rfl rfl (fun _ => ?_)) | refine Pw.list (Pw.build rfl rfl rfl rfl ?_) | refine Pw.list (Pw.ld rfl inferInstance rfl rfl rfl ?_) | refine Pw.list (Pw.sto rfl rfl inferInstance rfl rfl rfl rfl rfl inferInstance rfl ?_))
    have h1l : ns.length = l.length := by have := congrArg List.length hns; rw [List.length_map] at this; rw [this]; simp [flL]
    have hns0 : ns.map Prod.fst = bumps (flL (l.map rq)) (o.take 0) := by rw [hns]; rfl
    have hq1c := hq1.2.1
    have hq1e := hq1.2.2
    rw [List.length_append, cellsN_len, h1l] at hq1e
    have hwl : (l.map rq).length = l.length := List.length_map ..
    have hw9 : wholeQ (l.map rq) o = bumps (flL (l.map rq)) (o.take M) := eW
    have hqz : ∀ j, j < l.length → Sz K (fr (qAt (l.map rq) j)) := fun j hj => by
      obtain ⟨q, hq, hqm⟩ := get_at (show j < (l.map rq).length by omega)
      rw [qAt_get hq]; exact sz_fr (hz q hqm)
    refine Pw.re (d := 7) (v' := rsV rs (some ⟨g2, 0, none⟩, cap2)) rfl (by show Value.slice _ l.length _ = Value.slice _ rs.length _; rw [hrl]) ?_
    refine Pw.loopJ (σ := Nat × List Nt) (fun t => t.1 ≤ M ∧ t.2.map Prod.fst = bumps (flL (l.map rq)) (o.take t.1) ∧ t.2.length = l.length) (fun t => ⟨[(6, gv (some (g1, cap1, ex1)) l.length), (7, rsV rs (some ⟨g2, 0, none⟩, cap2)), (20, .slice (some ⟨g20, 0, none⟩) l.length l.length), (107, .int .u64 M), (108, .int .u64 t.1)], [⟨g20, row (gvn l.length (o.take t.1)) 4⟩, ⟨g1, row (cellsN t.2 ++ ex1) 40⟩], [RS rs (some ⟨g2, 0, none⟩, cap2), AllN t.2]⟩) (fun t => M - t.1) (0, ns) ⟨Nat.zero_le _, hns0, h1l⟩ (Pw.enter ⟨rfl, rfl, rfl, rfl, rfl, trivial⟩ (fun w h => h)) ?_
    clear hq1 hq2 hns hns0 h1l
    clear ns
    rintro ⟨k, ns⟩ ⟨hk, hns, hnl⟩
    dsimp only at hk hns hnl ⊢
    repeat (first | (with_reducible first | refine Pw.seq ?_ | refine Pw.region ?_ | refine Pw.nil ?_ | refine Pw.then_ ?_ | refine Pw.skip ?_ | refine Pw.block ?_ | refine Pw.exit ?_ | refine Pw.inX ?_ | refine Pw.inN ?_ | refine Pw.inR ?_ | refine Pw.thenX ?_ | refine Pw.thenR ?_ | refine Pw.ret ?_) | refine Pw.list (Pw.pure rfl rfl rfl ?_) | refine Pw.inY rfl ?_ | refine Pw.list (Pw.off rfl rfl ?_) | refine Pw.condT rfl ?_ | refine Pw.condF rfl ?_ | refine Pw.list (Pw.box rfl rfl rfl rfl (fun _ => ?_)) | refine Pw.list (Pw.alloc rfl rfl rfl rfl rfl (fun _ => ?_)) | refine Pw.list (Pw.build rfl rfl rfl rfl ?_) | refine Pw.list (Pw.ld rfl inferInstance rfl rfl rfl ?_) | refine Pw.list (Pw.sto rfl rfl inferInstance rfl rfl rfl rfl rfl inferInstance rfl ?_))
    refine Pw.condD rfl (fun c4 => ?_) (fun c4 => ?_)
    · repeat (first | (with_reducible first | refine Pw.seq ?_ | refine Pw.region ?_ | refine Pw.nil ?_ | refine Pw.then_ ?_ | refine Pw.skip ?_ | refine Pw.block ?_ | refine Pw.exit ?_ | refine Pw.inX ?_ | refine Pw.inN ?_ | refine Pw.inR ?_ | refine Pw.thenX ?_ | refine Pw.thenR ?_ | refine Pw.ret ?_) | refine Pw.list (Pw.pure rfl rfl rfl ?_) | refine Pw.inY rfl ?_ | refine Pw.list (Pw.off rfl rfl ?_) | refine Pw.condT rfl ?_ | refine Pw.condF rfl ?_ | refine Pw.list (Pw.box rfl rfl rfl rfl (fun _ => ?_)) | refine Pw.list (Pw.alloc rfl rfl rfl rfl rfl (fun _ => ?_)) | refine Pw.list (Pw.build rfl rfl rfl rfl ?_) | refine Pw.list (Pw.ld rfl inferInstance rfl rfl rfl ?_) | refine Pw.list (Pw.sto rfl rfl inferInstance rfl rfl rfl rfl rfl inferInstance rfl ?_))
      refine Pw.re (d := 111) (v' := .int .i64 l.length) rfl (by rw [hrl]) ?_
      refine Pw.loopJ (σ := Nat × Int) (fun t => t.1 ≤ l.length ∧ Bst (l.map rq) (o.take k) t.1 t.2) (fun t => ⟨[(6, gv (some (g1, cap1, ex1)) l.length), (7, rsV rs (some ⟨g2, 0, none⟩, cap2)), (20, .slice (some ⟨g20, 0, none⟩) l.length l.length), (21, .int .i64 t.2), (107, .int .u64 M), (108, .int .u64 k), (111, .int .i64 l.length), (112, .int .i64 t.1)], [⟨g20, row (gvn l.length (o.take k)) 4⟩, ⟨g1, row (cellsN ns ++ ex1) 40⟩], [RS rs (some ⟨g2, 0, none⟩, cap2), AllN ns]⟩) (fun t => l.length - t.1) (0, -1) ⟨Nat.zero_le _, bst_0 _ _⟩ (Pw.enter ⟨rfl, rfl, rfl, rfl, rfl, rfl, rfl, rfl, trivial⟩ (fun w h => h)) ?_
      rintro ⟨i, b⟩ ⟨hi2, hbst⟩
      dsimp only at hi2 hbst ⊢
      repeat (first | (with_reducible first | refine Pw.seq ?_ | refine Pw.region ?_ | refine Pw.nil ?_ | refine Pw.then_ ?_ | refine Pw.skip ?_ | refine Pw.block ?_ | refine Pw.exit ?_ | refine Pw.inX ?_ | refine Pw.inN ?_ | refine Pw.inR ?_ | refine Pw.thenX ?_ | refine Pw.thenR ?_ | refine Pw.ret ?_) | refine Pw.list (Pw.pure rfl rfl rfl ?_) | refine Pw.inY rfl ?_ | refine Pw.list (Pw.off rfl rfl ?_) | refine Pw.condT rfl ?_ | refine Pw.condF rfl ?_ | refine Pw.list (Pw.box rfl rfl rfl rfl (fun _ => ?_)) | refine Pw.list (Pw.alloc rfl rfl rfl rfl rfl (fun _ => ?_)) | refine Pw.list (Pw.build rfl rfl rfl rfl ?_) | refine Pw.list (Pw.ld rfl inferInstance rfl rfl rfl ?_) | refine Pw.list (Pw.sto rfl rfl inferInstance rfl rfl rfl rfl rfl inferInstance rfl ?_))
      refine Pw.condD rfl (fun c5 => ?_) (fun c5 => ?_)
      · have hil : i < l.length := by omega
        have hi0 : 0 ≤ (i : Int) := Int.natCast_nonneg i
        obtain ⟨r, hri, hrm⟩ := get_at (show i < rs.length by omega)
        have hro := hrs.2 i r hri
        have hirs : (i : Int) < (rs.length : Int) := by omega
        repeat (first | (with_reducible first | refine Pw.seq ?_ | refine Pw.region ?_ | refine Pw.nil ?_ | refine Pw.then_ ?_ | refine Pw.skip ?_ | refine Pw.block ?_ | refine Pw.exit ?_ | refine Pw.inX ?_ | refine Pw.inN ?_ | refine Pw.inR ?_ | refine Pw.thenX ?_ | refine Pw.thenR ?_ | refine Pw.ret ?_) | refine Pw.list (Pw.pure rfl rfl rfl ?_) | refine Pw.inY rfl ?_ | refine Pw.list (Pw.off rfl rfl ?_) | refine Pw.condT rfl ?_ | refine Pw.condF rfl ?_ | refine Pw.list (Pw.box rfl rfl rfl rfl (fun _ => ?_)) | refine Pw.list (Pw.alloc rfl rfl rfl rfl rfl (fun _ => ?_)) | refine Pw.list (Pw.build rfl rfl rfl rfl ?_) | refine Pw.list (Pw.ld rfl inferInstance rfl rfl rfl ?_) | refine Pw.list (Pw.sto rfl rfl inferInstance rfl rfl rfl rfl rfl inferInstance rfl ?_))
        refine Pw.drawnG mixed rfl rfl ?_
        refine Pw.takeP 0 (nb 21 1) rfl rfl rfl rfl (by kernel_rfl) np sf ?_
        refine Pw.takeP 1 (nb 21 3) rfl rfl rfl rfl (by kernel_rfl) np sf ?_
        refine Pw.takeIx 2 (nb 21 7) rfl rfl rfl rfl rfl (by first | assumption | omega) (by first | assumption | omega) rfl rfl (by kernel_rfl) np sf ?_
        refine Pw.one 3 (nb 21 15) rfl (by kernel_rfl) ?_
        -- load Op.load 4 (Operand.tmp 117)
        refine Pw.load1 (v := .bool (decide (i ∈ o.take k))) rfl rfl (fun w hs => by
          have hb : w.heap[g20]? = some (row (gvn l.length (o.take k)) 4) := hs.own _ (.head _)
          show w.cell? (Addr.add ⟨g20, 0, none⟩ ((i : Int).toNat * 1)) = _
          rw [Int.toNat_natCast, Nat.mul_one, add_none, Nat.zero_add, cell_of_blk hb, gvn_get _ hil]) rfl rfl ?_
        refine Pw.held sf ?_
        by_cases hin : i ∈ o.take k
        · refine Pw.re (d := 118) (v' := .bool true) rfl (by rw [decide_eq_true hin]) ?_
          refine Pw.takeP 4 (nb 21 31) rfl rfl rfl rfl (by kernel_rfl) np sf ?_
          refine Pw.takeP 5 (nb 21 63) rfl rfl rfl rfl (by kernel_rfl) np sf ?_
          refine Pw.takeO 6 (nb 21 127) rfl rfl rfl (by kernel_rfl) np sf ?_
          refine Pw.takeO 7 (nb 21 255) rfl rfl rfl (by kernel_rfl) np sf ?_
          refine Pw.takeO 8 (nb 21 511) rfl rfl rfl (by kernel_rfl) np sf ?_
          refine Pw.takeO 9 (nb 21 1023) rfl rfl rfl (by kernel_rfl) np sf ?_
          refine Pw.takeO 10 (nb 21 2047) rfl rfl rfl (by kernel_rfl) np sf ?_
          refine Pw.takeO 11 (nb 21 4095) rfl rfl rfl (by kernel_rfl) np sf ?_
          refine Pw.takeO 12 (nb 21 8191) rfl rfl rfl (by kernel_rfl) np sf ?_
          refine Pw.takeO 13 (nb 21 16383) rfl rfl rfl (by kernel_rfl) np sf ?_
          refine Pw.takeO 14 (nb 21 32767) rfl rfl rfl (by kernel_rfl) np sf ?_
          refine Pw.takeO 15 (nb 21 65535) rfl rfl rfl (by kernel_rfl) np sf ?_
          refine Pw.takeO 16 (nb 21 131071) rfl rfl rfl (by kernel_rfl) np sf ?_
          refine Pw.takeO 17 (nb 21 262143) rfl rfl rfl (by kernel_rfl) np sf ?_
          refine Pw.takeO 18 (nb 21 524287) rfl rfl rfl (by kernel_rfl) np sf ?_
          refine Pw.takeO 19 (nb 21 1048575) rfl rfl rfl (by kernel_rfl) np sf ?_
          refine Pw.takeP 20 (nb 21 2097151) rfl rfl rfl rfl (by kernel_rfl) np sf ?_
          refine Pw.done (by kernel_rfl) ?_
          repeat (first | (with_reducible first | refine Pw.seq ?_ | refine Pw.region ?_ | refine Pw.nil ?_ | refine Pw.then_ ?_ | refine Pw.skip ?_ | refine Pw.block ?_ | refine Pw.exit ?_ | refine Pw.inX ?_ | refine Pw.inN ?_ | refine Pw.inR ?_ | refine Pw.thenX ?_ | refine Pw.thenR ?_ | refine Pw.ret ?_) | refine Pw.list (Pw.pure rfl rfl rfl ?_) | refine Pw.inY rfl ?_ | refine Pw.list (Pw.off rfl rfl ?_) | refine Pw.condT rfl ?_ | refine Pw.condF rfl ?_ | refine Pw.list (Pw.box rfl rfl rfl rfl (fun _ => ?_)) | refine Pw.list (Pw.alloc rfl rfl rfl rfl rfl (fun _ => ?_)) | refine Pw.list (Pw.build rfl rfl rfl rfl ?_) | refine Pw.list (Pw.ld rfl inferInstance rfl rfl rfl ?_) | refine Pw.list (Pw.sto rfl rfl inferInstance rfl rfl rfl rfl rfl inferInstance rfl ?_))
          refine Pw.re (d := 112) (v' := .int .i64 ((i + 1 : Nat) : Int)) rfl (congrArg (Value.int .i64) (i64s (n := 100000) (by omega) (by omega))) ?_
          exact Pw.again (i + 1, b) ⟨by omega, bst_in hbst hin⟩ (by show l.length - (i + 1) < l.length - i; omega) ⟨rfl, rfl, rfl, rfl, rfl, rfl, rfl, rfl, trivial⟩ rfl (fun w h => allCons (hv w h) (allCons (hv w h) allNil))
        refine Pw.re (d := 118) (v' := .bool false) rfl (by rw [decide_eq_false hin]) ?_
        rcases bst_cases hbst with rfl | ⟨m, rfl, hm⟩
        · skip
          refine Pw.takeP 4 (nb 21 31) rfl rfl rfl rfl (by kernel_rfl) np sf ?_
          refine Pw.takeP 5 (nb 21 63) rfl rfl rfl rfl (by kernel_rfl) np sf ?_
          refine Pw.takeP 6 (nb 21 127) rfl rfl rfl rfl (by kernel_rfl) np sf ?_
          refine Pw.takeP 7 (nb 21 255) rfl rfl rfl rfl (by kernel_rfl) np sf ?_
          refine Pw.takeP 8 (nb 21 511) rfl rfl rfl rfl (by kernel_rfl) np sf ?_
          refine Pw.takeO 9 (nb 21 1023) rfl rfl rfl (by kernel_rfl) np sf ?_
          refine Pw.takeO 10 (nb 21 2047) rfl rfl rfl (by kernel_rfl) np sf ?_
          refine Pw.takeO 11 (nb 21 4095) rfl rfl rfl (by kernel_rfl) np sf ?_
          refine Pw.takeO 12 (nb 21 8191) rfl rfl rfl (by kernel_rfl) np sf ?_
          refine Pw.takeO 13 (nb 21 16383) rfl rfl rfl (by kernel_rfl) np sf ?_
          refine Pw.takeO 14 (nb 21 32767) rfl rfl rfl (by kernel_rfl) np sf ?_
          refine Pw.takeO 15 (nb 21 65535) rfl rfl rfl (by kernel_rfl) np sf ?_
          refine Pw.takeO 16 (nb 21 131071) rfl rfl rfl (by kernel_rfl) np sf ?_
          refine Pw.takeO 17 (nb 21 262143) rfl rfl rfl (by kernel_rfl) np sf ?_
          refine Pw.takeO 18 (nb 21 524287) rfl rfl rfl (by kernel_rfl) np sf ?_
          refine Pw.takeP 19 (nb 21 1048575) rfl rfl rfl rfl (by kernel_rfl) np sf ?_
          refine Pw.takeP 20 (nb 21 2097151) rfl rfl rfl rfl (by kernel_rfl) np sf ?_
          refine Pw.done (by kernel_rfl) ?_
          repeat (first | (with_reducible first | refine Pw.seq ?_ | refine Pw.region ?_ | refine Pw.nil ?_ | refine Pw.then_ ?_ | refine Pw.skip ?_ | refine Pw.block ?_ | refine Pw.exit ?_ | refine Pw.inX ?_ | refine Pw.inN ?_ | refine Pw.inR ?_ | refine Pw.thenX ?_ | refine Pw.thenR ?_ | refine Pw.ret ?_) | refine Pw.list (Pw.pure rfl rfl rfl ?_) | refine Pw.inY rfl ?_ | refine Pw.list (Pw.off rfl rfl ?_) | refine Pw.condT rfl ?_ | refine Pw.condF rfl ?_ | refine Pw.list (Pw.box rfl rfl rfl rfl (fun _ => ?_)) | refine Pw.list (Pw.alloc rfl rfl rfl rfl rfl (fun _ => ?_)) | refine Pw.list (Pw.build rfl rfl rfl rfl ?_) | refine Pw.list (Pw.ld rfl inferInstance rfl rfl rfl ?_) | refine Pw.list (Pw.sto rfl rfl inferInstance rfl rfl rfl rfl rfl inferInstance rfl ?_))
          refine Pw.re (d := 112) (v' := .int .i64 ((i + 1 : Nat) : Int)) rfl (congrArg (Value.int .i64) (i64s (n := 100000) (by omega) (by omega))) ?_
          exact Pw.again (i + 1, (i : Int)) ⟨by omega, bst_first hbst hin⟩ (by show l.length - (i + 1) < l.length - i; omega) ⟨rfl, rfl, rfl, rfl, rfl, rfl, rfl, rfl, trivial⟩ rfl (fun w h => allCons (hv w h) (allCons (hv w h) allNil))
        · obtain ⟨rm, hrm2, hrmm⟩ := get_at (show m < rs.length by omega)
          have hmo := hrs.2 m rm hrm2
          have hm0 : 0 ≤ (m : Int) := Int.natCast_nonneg m
          have hmrs : (m : Int) < (rs.length : Int) := by omega
          have hzi := hqz i hil
          have hzm := hqz m (by omega)
          obtain ⟨ra, rb, rz⟩ := r
          obtain ⟨ma, mb, mz⟩ := rm
          obtain ⟨e1, e2⟩ := hro
          obtain ⟨e3, e4⟩ := hmo
          dsimp only at e1 e2 e3 e4
          subst e1 e2 e3 e4
          refine Pw.takeP 4 (nb 21 31) rfl rfl rfl rfl (by kernel_rfl) np sf ?_
          refine Pw.takeP 5 (nb 21 63) rfl rfl rfl rfl (by kernel_rfl) np sf ?_
          refine Pw.takeP 6 (nb 21 127) rfl rfl rfl rfl (by kernel_rfl) np sf ?_
          refine Pw.takeP 7 (nb 21 255) rfl rfl rfl rfl (by kernel_rfl) np sf ?_
          refine Pw.takeP 8 (nb 21 511) rfl rfl rfl rfl (by kernel_rfl) np sf ?_
          refine Pw.takeP 9 (nb 21 1023) rfl rfl rfl rfl (by kernel_rfl) np sf ?_
          refine Pw.takeP 10 (nb 21 2047) rfl rfl rfl rfl (by kernel_rfl) np sf ?_
          refine Pw.takeIx 11 (nb 21 4095) rfl rfl rfl rfl rfl (by first | assumption | omega) (by first | assumption | omega) rfl rfl (by kernel_rfl) np sf ?_
          refine Pw.takeLA ⟨qn (fr (qAt (l.map rq) i)),qd (fr (qAt (l.map rq) i)),rz⟩ 12 (nb 21 8191) rfl rfl inferInstance rfl (by first | assumption | (rw [Int.toNat_natCast]; assumption)) (by kernel_rfl) rfl rfl (by kernel_rfl) np sf ?_
          refine Pw.takeP 13 (nb 21 16383) rfl rfl rfl rfl (by kernel_rfl) np sf ?_
          refine Pw.takeP 14 (nb 21 32767) rfl rfl rfl rfl (by kernel_rfl) np sf ?_
          refine Pw.takeIx 15 (nb 21 65535) rfl rfl rfl rfl rfl (by first | assumption | omega) (by first | assumption | omega) rfl rfl (by kernel_rfl) np sf ?_
          refine Pw.takeLA ⟨qn (fr (qAt (l.map rq) m)),qd (fr (qAt (l.map rq) m)),mz⟩ 16 (nb 21 131071) rfl rfl inferInstance rfl (by first | assumption | (rw [Int.toNat_natCast]; assumption)) (by kernel_rfl) rfl rfl (by kernel_rfl) np sf ?_
          refine Pw.one 17 (nb 21 262143) rfl (by kernel_rfl) ?_
          -- call Op.call { callee := Callee.value (Operand.func 48), args := #[Operand.tmp 127, Operand.tmp 131], argTypes := #[42, 42] }
          refine Pw.call (rqCmp_ct hzi hzm rz mz (by omega)) rfl rfl rfl (by kernel_rfl) rfl rfl (fun w h => ⟨((hv w h : RS rs (some ⟨g2, 0, none⟩, cap2) w).at hri).2.1, ((hv w h : RS rs (some ⟨g2, 0, none⟩, cap2) w).at hrm2).2.1⟩) ?_
          intro _ _
          refine Pw.held sf ?_
          refine Pw.takeP 18 (nb 21 524287) rfl rfl rfl rfl (by kernel_rfl) np sf ?_
          refine Pw.takeP 19 (nb 21 1048575) rfl rfl rfl rfl (by kernel_rfl) np sf ?_
          refine Pw.takeP 20 (nb 21 2097151) rfl rfl rfl rfl (by kernel_rfl) np sf ?_
          refine Pw.done (by kernel_rfl) ?_
          refine Pw.then_ (Pw.condD rfl (fun c6 => ?_) (fun c6 => ?_))
          · repeat (first | (with_reducible first | refine Pw.seq ?_ | refine Pw.region ?_ | refine Pw.nil ?_ | refine Pw.then_ ?_ | refine Pw.skip ?_ | refine Pw.block ?_ | refine Pw.exit ?_ | refine Pw.inX ?_ | refine Pw.inN ?_ | refine Pw.inR ?_ | refine Pw.thenX ?_ | refine Pw.thenR ?_ | refine Pw.ret ?_) | refine Pw.list (Pw.pure rfl rfl rfl ?_) | refine Pw.inY rfl ?_ | refine Pw.list (Pw.off rfl rfl ?_) | refine Pw.condT rfl ?_ | refine Pw.condF rfl ?_ | refine Pw.list (Pw.box rfl rfl rfl rfl (fun _ => ?_)) | refine Pw.list (Pw.alloc rfl rfl rfl rfl rfl (fun _ => ?_)) | refine Pw.list (Pw.build rfl rfl rfl rfl ?_) | refine Pw.list (Pw.ld rfl inferInstance rfl rfl rfl ?_) | refine Pw.list (Pw.sto rfl rfl inferInstance rfl rfl rfl rfl rfl inferInstance rfl ?_))
            refine Pw.re (d := 112) (v' := .int .i64 ((i + 1 : Nat) : Int)) rfl (congrArg (Value.int .i64) (i64s (n := 100000) (by omega) (by omega))) ?_
            exact Pw.again (i + 1, (i : Int)) ⟨by omega, bst_new hbst hin (cmpQ_pos.1 c6)⟩ (by show l.length - (i + 1) < l.length - i; omega) ⟨rfl, rfl, rfl, rfl, rfl, rfl, rfl, rfl, trivial⟩ rfl (fun w h => allCons (hv w h) (allCons (hv w h) allNil))
          · repeat (first | (with_reducible first | refine Pw.seq ?_ | refine Pw.region ?_ | refine Pw.nil ?_ | refine Pw.then_ ?_ | refine Pw.skip ?_ | refine Pw.block ?_ | refine Pw.exit ?_ | refine Pw.inX ?_ | refine Pw.inN ?_ | refine Pw.inR ?_ | refine Pw.thenX ?_ | refine Pw.thenR ?_ | refine Pw.ret ?_) | refine Pw.list (Pw.pure rfl rfl rfl ?_) | refine Pw.inY rfl ?_ | refine Pw.list (Pw.off rfl rfl ?_) | refine Pw.condT rfl ?_ | refine Pw.condF rfl ?_ | refine Pw.list (Pw.box rfl rfl rfl rfl (fun _ => ?_)) | refine Pw.list (Pw.alloc rfl rfl rfl rfl rfl (fun _ => ?_)) | refine Pw.list (Pw.build rfl rfl rfl rfl ?_) | refine Pw.list (Pw.ld rfl inferInstance rfl rfl rfl ?_) | refine Pw.list (Pw.sto rfl rfl inferInstance rfl rfl rfl rfl rfl inferInstance rfl ?_))
            refine Pw.re (d := 112) (v' := .int .i64 ((i + 1 : Nat) : Int)) rfl (congrArg (Value.int .i64) (i64s (n := 100000) (by omega) (by omega))) ?_
            exact Pw.again (i + 1, (m : Int)) ⟨by omega, bst_keep hbst hin (fun e => c6 (cmpQ_pos.2 e))⟩ (by show l.length - (i + 1) < l.length - i; omega) ⟨rfl, rfl, rfl, rfl, rfl, rfl, rfl, rfl, trivial⟩ rfl (fun w h => allCons (hv w h) (allCons (hv w h) allNil))
      · obtain rfl : i = l.length := by omega
        rw [← hwl] at hbst
        obtain ⟨a, hoa, rfl, hal⟩ := bst_end ho (by rw [hwl]; omega) hbst
        rw [hwl] at hal
        have ha0 : 0 ≤ (a : Int) := Int.natCast_nonneg a
        have ha1 : (a : Int) < (l.length : Int) := by omega
        obtain ⟨yy, hyy, hyym⟩ := get_at (show a < (l.map rq).length by rw [hwl]; exact hal)
        have hyz := hz yy hyym
        have hab := at_bumps ho hoa
        have hst := bumps_step ho hoa (by rw [qAt_get hyy]; exact floor_nn hyz.p)
        rw [qAt_get hyy, ← hns] at hab hst
        obtain ⟨⟨f, zf⟩, hnf, hnfm⟩ := get_at (show a < ns.length by omega)
        have hf : f = natL yy.floor := by rw [List.getElem?_map, hnf] at hab; injection hab
        subst hf
        have hadd := fun zu => rAddN_ct (a := yy.floor) (b := 1) zf zu (floor_nn hyz.p) (by omega) (m := K) (sz_floor hyz) (by have := pw_le hK.1; have e : pw 1 = 4294967296 := rfl; omega) (by omega)
        rw [natL_one] at hadd
        have eg : gvn l.length (o.take (k + 1)) = (gvn l.length (o.take k)).set a (.bool true) := by rw [gvn_set _ hal, take_snoc hoa]
        repeat (first | (with_reducible first | refine Pw.seq ?_ | refine Pw.region ?_ | refine Pw.nil ?_ | refine Pw.then_ ?_ | refine Pw.skip ?_ | refine Pw.block ?_ | refine Pw.exit ?_ | refine Pw.inX ?_ | refine Pw.inN ?_ | refine Pw.inR ?_ | refine Pw.thenX ?_ | refine Pw.thenR ?_ | refine Pw.ret ?_) | refine Pw.list (Pw.pure rfl rfl rfl ?_) | refine Pw.inY rfl ?_ | refine Pw.list (Pw.off rfl rfl ?_) | refine Pw.condT rfl ?_ | refine Pw.condF rfl ?_ | refine Pw.list (Pw.box rfl rfl rfl rfl (fun _ => ?_)) | refine Pw.list (Pw.alloc rfl rfl rfl rfl rfl (fun _ => ?_)) | refine Pw.list (Pw.build rfl rfl rfl rfl ?_) | refine Pw.list (Pw.ld rfl inferInstance rfl rfl rfl ?_) | refine Pw.list (Pw.sto rfl rfl inferInstance rfl rfl rfl rfl rfl inferInstance rfl ?_))
        refine Pw.list (Pw.indexS rfl rfl rfl rfl ha0 ha1 rfl rfl ?_)
        refine Pw.re (d := 140) (v' := .pointer (some ⟨g20, a, none⟩)) rfl (by show Value.pointer (some (Addr.add ⟨g20, 0, none⟩ ((a : Int).toNat * 1))) = _; rw [Int.toNat_natCast, Nat.mul_one, add_none, Nat.zero_add]) ?_
        refine Pw.list (Pw.storeO (cs := gvn l.length (o.take k)) (cs' := gvn l.length (o.take (k + 1))) rfl rfl rfl rfl rfl (by rw [gvn_len]; exact hal) eg.symm .head rfl ?_)
        repeat (first | (with_reducible first | refine Pw.seq ?_ | refine Pw.region ?_ | refine Pw.nil ?_ | refine Pw.then_ ?_ | refine Pw.skip ?_ | refine Pw.block ?_ | refine Pw.exit ?_ | refine Pw.inX ?_ | refine Pw.inN ?_ | refine Pw.inR ?_ | refine Pw.thenX ?_ | refine Pw.thenR ?_ | refine Pw.ret ?_) | refine Pw.list (Pw.pure rfl rfl rfl ?_) | refine Pw.inY rfl ?_ | refine Pw.list (Pw.off rfl rfl ?_) | refine Pw.condT rfl ?_ | refine Pw.condF rfl ?_ | refine Pw.list (Pw.box rfl rfl rfl rfl (fun _ => ?_)) | refine Pw.list (Pw.alloc rfl rfl rfl rfl rfl (fun _ => ?_)) | refine Pw.list (Pw.build rfl rfl rfl rfl ?_) | refine Pw.list (Pw.ld rfl inferInstance rfl rfl rfl ?_) | refine Pw.list (Pw.sto rfl rfl inferInstance rfl rfl rfl rfl rfl inferInstance rfl ?_))
        refine Pw.drawnG mixed rfl rfl ?_
        refine Pw.takeP 0 (nb 13 1) rfl rfl rfl rfl (by kernel_rfl) np sf ?_
        refine Pw.takeP 1 (nb 13 3) rfl rfl rfl rfl (by kernel_rfl) np sf ?_
        refine Pw.takeP 2 (nb 13 7) rfl rfl rfl rfl (by kernel_rfl) np sf ?_
        refine Pw.takeP 3 (nb 13 15) rfl rfl rfl rfl (by kernel_rfl) np sf ?_
        refine Pw.takeIx 4 (nb 13 31) rfl rfl rfl rfl rfl (by first | assumption | omega) (by first | assumption | omega) rfl rfl (by kernel_rfl) np sf ?_
        refine Pw.two 5 6 (nb 13 63) (nb 13 95) rfl rfl (by kernel_rfl) ?_ ?_
        · skip
          refine Pw.load1 (v := sl (natL yy.floor) zf) rfl rfl (fun w hs => by
            have hb : w.heap[g1]? = some (row (cellsN ns ++ ex1) 40) := hs.own _ (.tail _ (.head _))
            show w.cell? (Addr.add ⟨g1, 0, none⟩ ((a : Int).toNat * 1)) = _
            rw [Int.toNat_natCast, Nat.mul_one, add_none, Nat.zero_add, cell_of_blk hb, List.getElem?_append_left (by rw [cellsN_len]; omega), cellsN_map, List.getElem?_map, hnf]; rfl) rfl rfl ?_
          refine Pw.held sf ?_
          refine Pw.one 6 (nb 13 127) rfl (by kernel_rfl) ?_
          refine Pw.call (rOf_ct 1) rfl rfl rfl (by kernel_rfl) rfl rfl (fun w h => trivial) ?_
          intro zu _
          rw [ofN_1]
          refine Pw.held sf ?_
          refine Pw.one 7 (nb 13 255) rfl (by kernel_rfl) ?_
          refine Pw.call (hadd zu) rfl rfl rfl (by kernel_rfl) rfl rfl (fun w h => ⟨(hv w h : AllN ns w) _ hnfm, (hv w h)⟩) ?_
          intro z' _
          refine Pw.held sf ?_
          refine Pw.takeP 8 (nb 13 511) rfl rfl rfl rfl (by kernel_rfl) np sf ?_
          refine Pw.takeP 9 (nb 13 1023) rfl rfl rfl rfl (by kernel_rfl) np sf ?_
          refine Pw.takeP 10 (nb 13 2047) rfl rfl rfl rfl (by kernel_rfl) np sf ?_
          refine Pw.takeIx 11 (nb 13 4095) rfl rfl rfl rfl rfl (by first | assumption | omega) (by first | assumption | omega) rfl rfl (by kernel_rfl) np sf ?_
          refine Pw.one 12 (nb 13 8191) rfl (by kernel_rfl) ?_
          refine Pw.re (d := 152) (v' := .pointer (some ⟨g1, a, none⟩)) rfl (by show Value.pointer (some (Addr.add ⟨g1, 0, none⟩ ((a : Int).toNat * 1))) = _; rw [Int.toNat_natCast, Nat.mul_one, add_none, Nat.zero_add]) ?_
          refine Pw.re (d := 150) (v' := sl (natL (yy.floor + 1)) z') rfl rfl ?_
          refine Pw.storeO (cs := cellsN ns ++ ex1) (cs' := cellsN (ns.set a (natL (yy.floor + 1), z')) ++ ex1) rfl rfl rfl rfl rfl (by rw [List.length_append, cellsN_len]; omega) (by rw [List.set_append_left _ _ (by rw [cellsN_len]; omega)]; simp only [cellsN_map, List.map_set]) (.tail .head) rfl ?_
          refine Pw.held sf ?_
          refine Pw.done (by kernel_rfl) ?_
          repeat (first | (with_reducible first | refine Pw.seq ?_ | refine Pw.region ?_ | refine Pw.nil ?_ | refine Pw.then_ ?_ | refine Pw.skip ?_ | refine Pw.block ?_ | refine Pw.exit ?_ | refine Pw.inX ?_ | refine Pw.inN ?_ | refine Pw.inR ?_ | refine Pw.thenX ?_ | refine Pw.thenR ?_ | refine Pw.ret ?_) | refine Pw.list (Pw.pure rfl rfl rfl ?_) | refine Pw.inY rfl ?_ | refine Pw.list (Pw.off rfl rfl ?_) | refine Pw.condT rfl ?_ | refine Pw.condF rfl ?_ | refine Pw.list (Pw.box rfl rfl rfl rfl (fun _ => ?_)) | refine Pw.list (Pw.alloc rfl rfl rfl rfl rfl (fun _ => ?_)) | refine Pw.list (Pw.build rfl rfl rfl rfl ?_) | refine Pw.list (Pw.ld rfl inferInstance rfl rfl rfl ?_) | refine Pw.list (Pw.sto rfl rfl inferInstance rfl rfl rfl rfl rfl inferInstance rfl ?_))
          refine Pw.re (d := 108) (v' := .int .u64 ((k + 1 : Nat) : Int)) rfl (congrArg (Value.int .u64) (by rw [wu (by omega) (by omega)]; omega)) ?_
          exact Pw.again (k + 1, ns.set a (natL (yy.floor + 1), z')) ⟨by omega, by rw [List.map_set]; exact hst.symm, by rw [List.length_set]; exact hnl⟩ (by show M - (k + 1) < M - k; omega) ⟨rfl, rfl, rfl, rfl, rfl, trivial⟩ rfl (fun w h => allCons (hv w h) (allCons (fun r hr => by
            rcases List.mem_or_eq_of_mem_set hr with hr | rfl
            · exact (hv w h : AllN ns w) r hr
            · exact (hv w h : S1 (natL (yy.floor + 1)) z' w)) allNil))
        · skip
          refine Pw.call (rOf_ct 1) rfl rfl rfl (by kernel_rfl) rfl rfl (fun w h => trivial) ?_
          intro zu _
          rw [ofN_1]
          refine Pw.held sf ?_
          refine Pw.one 5 (nb 13 127) rfl (by kernel_rfl) ?_
          refine Pw.load1 (v := sl (natL yy.floor) zf) rfl rfl (fun w hs => by
            have hb : w.heap[g1]? = some (row (cellsN ns ++ ex1) 40) := hs.own _ (.tail _ (.head _))
            show w.cell? (Addr.add ⟨g1, 0, none⟩ ((a : Int).toNat * 1)) = _
            rw [Int.toNat_natCast, Nat.mul_one, add_none, Nat.zero_add, cell_of_blk hb, List.getElem?_append_left (by rw [cellsN_len]; omega), cellsN_map, List.getElem?_map, hnf]; rfl) rfl rfl ?_
          refine Pw.held sf ?_
          refine Pw.one 7 (nb 13 255) rfl (by kernel_rfl) ?_
          refine Pw.call (hadd zu) rfl rfl rfl (by kernel_rfl) rfl rfl (fun w h => ⟨(hv w h : AllN ns w) _ hnfm, (hv w h)⟩) ?_
          intro z' _
          refine Pw.held sf ?_
          refine Pw.takeP 8 (nb 13 511) rfl rfl rfl rfl (by kernel_rfl) np sf ?_
          refine Pw.takeP 9 (nb 13 1023) rfl rfl rfl rfl (by kernel_rfl) np sf ?_
          refine Pw.takeP 10 (nb 13 2047) rfl rfl rfl rfl (by kernel_rfl) np sf ?_
          refine Pw.takeIx 11 (nb 13 4095) rfl rfl rfl rfl rfl (by first | assumption | omega) (by first | assumption | omega) rfl rfl (by kernel_rfl) np sf ?_
          refine Pw.one 12 (nb 13 8191) rfl (by kernel_rfl) ?_
          refine Pw.re (d := 152) (v' := .pointer (some ⟨g1, a, none⟩)) rfl (by show Value.pointer (some (Addr.add ⟨g1, 0, none⟩ ((a : Int).toNat * 1))) = _; rw [Int.toNat_natCast, Nat.mul_one, add_none, Nat.zero_add]) ?_
          refine Pw.re (d := 150) (v' := sl (natL (yy.floor + 1)) z') rfl rfl ?_
          refine Pw.storeO (cs := cellsN ns ++ ex1) (cs' := cellsN (ns.set a (natL (yy.floor + 1), z')) ++ ex1) rfl rfl rfl rfl rfl (by rw [List.length_append, cellsN_len]; omega) (by rw [List.set_append_left _ _ (by rw [cellsN_len]; omega)]; simp only [cellsN_map, List.map_set]) (.tail .head) rfl ?_
          refine Pw.held sf ?_
          refine Pw.done (by kernel_rfl) ?_
          repeat (first | (with_reducible first | refine Pw.seq ?_ | refine Pw.region ?_ | refine Pw.nil ?_ | refine Pw.then_ ?_ | refine Pw.skip ?_ | refine Pw.block ?_ | refine Pw.exit ?_ | refine Pw.inX ?_ | refine Pw.inN ?_ | refine Pw.inR ?_ | refine Pw.thenX ?_ | refine Pw.thenR ?_ | refine Pw.ret ?_) | refine Pw.list (Pw.pure rfl rfl rfl ?_) | refine Pw.inY rfl ?_ | refine Pw.list (Pw.off rfl rfl ?_) | refine Pw.condT rfl ?_ | refine Pw.condF rfl ?_ | refine Pw.list (Pw.box rfl rfl rfl rfl (fun _ => ?_)) | refine Pw.list (Pw.alloc rfl rfl rfl rfl rfl (fun _ => ?_)) | refine Pw.list (Pw.build rfl rfl rfl rfl ?_) | refine Pw.list (Pw.ld rfl inferInstance rfl rfl rfl ?_) | refine Pw.list (Pw.sto rfl rfl inferInstance rfl rfl rfl rfl rfl inferInstance rfl ?_))
          refine Pw.re (d := 108) (v' := .int .u64 ((k + 1 : Nat) : Int)) rfl (congrArg (Value.int .u64) (by rw [wu (by omega) (by omega)]; omega)) ?_
          exact Pw.again (k + 1, ns.set a (natL (yy.floor + 1), z')) ⟨by omega, by rw [List.map_set]; exact hst.symm, by rw [List.length_set]; exact hnl⟩ (by show M - (k + 1) < M - k; omega) ⟨rfl, rfl, rfl, rfl, rfl, trivial⟩ rfl (fun w h => allCons (hv w h) (allCons (fun r hr => by
            rcases List.mem_or_eq_of_mem_set hr with hr | rfl
            · exact (hv w h : AllN ns w) r hr
            · exact (hv w h : S1 (natL (yy.floor + 1)) z' w)) allNil))
    · obtain rfl : k = M := by omega
      have hwl2 := wholeQ_len (l.map rq) o
      rw [List.length_map] at hwl2
      repeat (first | (with_reducible first | refine Pw.seq ?_ | refine Pw.region ?_ | refine Pw.nil ?_ | refine Pw.then_ ?_ | refine Pw.skip ?_ | refine Pw.block ?_ | refine Pw.exit ?_ | refine Pw.inX ?_ | refine Pw.inN ?_ | refine Pw.inR ?_ | refine Pw.thenX ?_ | refine Pw.thenR ?_ | refine Pw.ret ?_) | refine Pw.list (Pw.pure rfl rfl rfl ?_) | refine Pw.inY rfl ?_ | refine Pw.list (Pw.off rfl rfl ?_) | refine Pw.condT rfl ?_ | refine Pw.condF rfl ?_ | refine Pw.list (Pw.box rfl rfl rfl rfl (fun _ => ?_)) | refine Pw.list (Pw.alloc rfl rfl rfl rfl rfl (fun _ => ?_)) | refine Pw.list (Pw.build rfl rfl rfl rfl ?_) | refine Pw.list (Pw.ld rfl inferInstance rfl rfl rfl ?_) | refine Pw.list (Pw.sto rfl rfl inferInstance rfl rfl rfl rfl rfl inferInstance rfl ?_))
      refine Pw.drop ?_
      refine freeHead ?_
      exact Pw.ret_ (x := (ns, (some ⟨g1, 0, none⟩, cap1))) (.tmp rfl (.tmp rfl .nil)) (by rw [hwl2]; rfl) (by rw [eW]; exact hns) (fun w h => rows_of_row (ex := ex1) (fact0 h) (fun _ _ => rfl) (fun y hy => (hv w h : AllN ns w) y hy) (by rw [hnl]; exact hq1c) (by rw [hnl]; simp only [maxLen]; omega) (by omega))
end Go.Proofs.Wk
/- Weights made whole: what comes, in short. -/
namespace Go.Proofs.Wk
open Go.RowKit
set_option maxRecDepth 100000
set_option linter.unusedVariables false
set_option linter.unusedSimpArgs false
theorem wholeQ_get {ws : List Rat} {o : List Nat} (ho : Ord ws o) (hp : ∀ x ∈ ws, 0 ≤ x) {i : Nat} (hi : i < ws.length) : ∃ d : Int, (d = 0 ∨ d = 1) ∧ (wholeQ ws o)[i]? = some (natL ((qAt ws i).floor + d)) := by
  have hx := List.getElem?_eq_getElem hi
  have h0 := floor_nn (hp _ (List.getElem_mem hi))
  unfold wholeQ
  rw [bumps_get _ _ (ho.nodup.sublist (List.take_sublist _ _)), qAt_get hx]
  have e : (flL ws)[i]? = some (natL ws[i].floor) := by unfold flL; rw [List.getElem?_map, hx]; rfl
  rw [e]
  by_cases h : i ∈ o.take (manyQ ws)
  · rw [if_pos h]; exact ⟨1, .inr rfl, by show some (natL (val (natL ws[i].floor) + 1)) = _; rw [val_natL h0]⟩
  · rw [if_neg h]; exact ⟨0, .inl rfl, by rw [Int.add_zero]⟩
theorem wholeQ_el {ws : List Rat} {o : List Nat} {K : Nat} (ho : Ord ws o) (hz : ∀ x ∈ ws, Sz K x) {f : List Int} (hf : f ∈ wholeQ ws o) : Fm f ∧ f.length ≤ K + 1 ∧ 0 ≤ val f ∧ val f < pw (K + 1) := by
  obtain ⟨i, hi⟩ := List.getElem?_of_mem hf
  have hlt : i < ws.length := by rw [← wholeQ_len ws o]; exact (List.getElem?_eq_some_iff.1 hi).1
  obtain ⟨d, hd, e⟩ := wholeQ_get ho (fun x hx => (hz x hx).p) hlt
  rw [e] at hi
  cases hi
  obtain ⟨x, hx, hxm⟩ := get_at hlt
  have hxz := hz x hxm
  have h0 := floor_nn hxz.p
  have h1 := sz_floor hxz
  rw [qAt_get hx]
  have h2 : x.floor + d < pw (K + 1) := by
    have := pw_le (show K ≤ K + 1 by omega)
    rw [pw_add]; have e1 : pw 1 = 4294967296 := rfl
    have := pw_pos K
    rw [e1]; omega
  exact ⟨natL_fm _, natL_len_le (by omega) h2, by rw [val_natL (by omega)]; omega, by rw [val_natL (by omega)]; exact h2⟩
/-- Of any weights. -/
theorem rndS_nil (o : List Nat) (ho : Ord ([].map rq) o) : rndS [] o = ([], 0) := by
  have e : rndS [] o = (wholeQ [] o, 0) := rfl
  have := wholeQ_len [] o
  rw [e, List.eq_nil_of_length_eq_zero this]
theorem pRoundA_ct (K : Nat) (l : List Rt) (x : Option Addr × Nat) (o : List Nat) (hw : ∀ s ∈ l, RtW s) (hb : ∀ s ∈ l, s.a.length ≤ K ∧ s.b.length ≤ K) (hl : l.length ≤ 20) (hK : 1 ≤ K ∧ K ≤ 17) (ho : Ord (l.map rq) o) :
    Ct Try.prog 14 #[rsV l x] (RS l x) (fun r : List Nt × (Option Addr × Nat) => .tuple #[.slice r.2.1 (rndS l o).1.length r.2.2, .int .i64 (rndS l o).2]) (fun r => r.1.map Prod.fst = (rndS l o).1) (fun r => NS r.1 r.2) := by
  rcases l with _ | ⟨s, r⟩
  · rw [rndS_nil o ho]; exact pRoundNil_ct x
  · exact pRound_ct K _ x o hw hb hl (by simp) hK ho
theorem rRoundA_ct (K : Nat) (l : List Rt) (x : Option Addr × Nat) (o : List Nat) (hw : ∀ s ∈ l, RtW s) (hb : ∀ s ∈ l, s.a.length ≤ K ∧ s.b.length ≤ K) (hl : l.length ≤ 20) (hK : 1 ≤ K ∧ K ≤ 17) (ho : Ord (l.map rq) o) :
    Ct Try.prog 16 #[rsV l x] (RS l x) (fun r : List Nt × (Option Addr × Nat) => .tuple #[.slice r.2.1 (rndS l o).1.length r.2.2, .int .i64 (rndS l o).2]) (fun r => r.1.map Prod.fst = (rndS l o).1) (fun r => NS r.1 r.2) := by
  rcases l with _ | ⟨s, r⟩
  · rw [rndS_nil o ho]; exact rRoundNil_ct x
  · exact rRound_ct K _ x o hw hb hl (by simp) hK ho
section
variable {P : Program} {w0 : World} {M O : Nat → Prop} {n : Nat} {K : Slots} {L : List Blk} {G : List (World → Prop)} {Q : Exit → Act → World → Prop} {ops : Array Oper} {α : Type}
  {d : Nat} {ty : TypeId} {pos : String} {af : Array Edge} {gd : Option (Nat × Bool)} {N : Act → World → Prop}
theorem Pw.loadC1 {x : Operand} {ad : Addr} {u : TypeId} {sz sz' : Nat} {i : Int} {enc : α → List Value} {held : α → World → Prop} {l : List α} {c : Nat} (y : α) {v : Value} (hx : ev K x = some (.pointer (some (ad.add (i.toNat * sz))))) (hr : RowsAt G (some ad) α enc held sz' l c) (hsz : sz = sz') (hi : l[i.toNat]? = some y) (hv : (enc y)[0]? = some v) (hu : plainB P u = true)
    (hw : wantB K ops gd = some true) (hn : Nat.blt d n = true) (h : Pw w0 M O n ((d, v) :: K) L (held y :: G) N) : Pw w0 M O n K L G (OpG P ops ⟨some d, .load u x, ty, pos, af, gd⟩ N Q) := by
  subst hsz
  exact Pw.more (fun w k => ((hr.h w k).at hi).2.1) (Pw.load1 hx hu (fun w hs => ((hr.h w (allTail hs.all)).at hi).2.2 0 v hv) hw hn h)
end
end Go.Proofs.Wk
/- The laws of weights made whole, walked. -/
namespace Go.Proofs.Wk
open Go.RowKit
set_option maxRecDepth 100000
set_option maxHeartbeats 4000000
attribute [local irreducible] Pw OpG
set_option linter.unusedVariables false
set_option linter.unusedSimpArgs false
theorem rq_sz {s : Rt} {K : Nat} (hw : RtW s) (ha : s.a.length ≤ K) (hb : s.b.length ≤ K) (hK : 1 ≤ K) : Sz K (rq s) := by
  have n1 := val_nonneg hw.a; have n2 := val_nonneg hw.b
  have l1 := val_lt_pw hw.a; have l2 := val_lt_pw hw.b
  have := pw_le ha; have := pw_le hb
  unfold rq rv
  rcases Int.lt_or_le 0 (val s.b) with h | h
  · obtain ⟨h1, h2⟩ := num_le_divInt n1 h
    exact ⟨Rat.divInt_nonneg n1 (by omega), by omega, by omega⟩
  · rw [show val s.b = 0 by omega, Rat.divInt_zero]; exact sz_0 K hK
theorem half_ct : Ct Try.prog 18 #[.int .u64 1, .int .u64 2] (fun _ => True) (fun z : Z2 => .tuple #[qt (Rat.divInt 1 2) z, .int .i64 0]) Tt (fun z => QW (Rat.divInt 1 2) z) := by
  have hc := rat_Of_ct 1 2
  rwa [q_of (by omega) (by omega) (by omega) (by omega)] at hc
theorem half_sz : Sz 1 (Rat.divInt 1 2) := by
  obtain ⟨h1, h2⟩ := num_le_divInt (p := 1) (q := 2) (by omega) (by omega)
  have : pw 1 = 4294967296 := rfl
  exact ⟨Rat.divInt_nonneg (by omega) (by omega), by omega, by omega⟩
theorem half_ord : Ord [Rat.divInt 1 2, Rat.divInt 1 2] [0, 1] := ⟨.refl _, List.pairwise_cons.2 ⟨fun j hj => by
  rw [List.mem_singleton.1 hj]; exact .inr ⟨rfl, by omega⟩, List.pairwise_singleton _ _⟩⟩
theorem half_whole : wholeQ [Rat.divInt 1 2, Rat.divInt 1 2] [0, 1] = [natL 1, natL 0] := by
  have e1 : manyQ [Rat.divInt 1 2, Rat.divInt 1 2] = 1 := by decide +kernel
  have e2 : (Rat.divInt 1 2).floor = 0 := by decide +kernel
  unfold wholeQ flL
  rw [e1, List.map_cons, List.map_cons, List.map_nil, e2]
  show bump [natL 0, natL 0] 0 = _
  unfold bump
  show [natL (val (natL 0) + 1), natL 0] = _
  rw [val_natL (by omega)]; rfl
theorem wawake_ct : Ct Try.prog 12 #[] (fun _ => True) (fun _ : Unit => .bool true) Tt (fun _ _ => True) := by
  refine Ct.start Try.func12 rfl rfl (slots_of rfl slots0) (fun D w0 => ?_)
  repeat (first | (with_reducible first | refine Pw.seq ?_ | refine Pw.region ?_ | refine Pw.nil ?_ | refine Pw.then_ ?_ | refine Pw.skip ?_ | refine Pw.block ?_ | refine Pw.exit ?_ | refine Pw.inX ?_ | refine Pw.inN ?_ | refine Pw.inR ?_ | refine Pw.thenX ?_ | refine Pw.thenR ?_ | refine Pw.ret ?_) | refine Pw.list (Pw.pure rfl rfl rfl ?_) | refine Pw.inY rfl ?_ | refine Pw.list (Pw.off rfl rfl ?_) | refine Pw.condT rfl ?_ | refine Pw.condF rfl ?_ | refine Pw.list (Pw.box rfl rfl rfl rfl (fun _ => ?_)) | refine Pw.list (Pw.alloc rfl rfl rfl rfl rfl (fun _ => ?_)) | refine Pw.list (Pw.build rfl rfl rfl rfl ?_) | refine Pw.list (Pw.ld rfl inferInstance rfl rfl rfl ?_) | refine Pw.list (Pw.sto rfl rfl inferInstance rfl rfl rfl rfl rfl inferInstance rfl ?_))
  refine Pw.list (Pw.call half_ct rfl rfl rfl (by kernel_rfl) rfl rfl (fun w h => trivial) ?_)
  intro z1 _
  repeat (first | (with_reducible first | refine Pw.seq ?_ | refine Pw.region ?_ | refine Pw.nil ?_ | refine Pw.then_ ?_ | refine Pw.skip ?_ | refine Pw.block ?_ | refine Pw.exit ?_ | refine Pw.inX ?_ | refine Pw.inN ?_ | refine Pw.inR ?_ | refine Pw.thenX ?_ | refine Pw.thenR ?_ | refine Pw.ret ?_) | refine Pw.list (Pw.pure rfl rfl rfl ?_) | refine Pw.inY rfl ?_ | refine Pw.list (Pw.off rfl rfl ?_) | refine Pw.condT rfl ?_ | refine Pw.condF rfl ?_ | refine Pw.list (Pw.box rfl rfl rfl rfl (fun _ => ?_)) | refine Pw.list (Pw.alloc rfl rfl rfl rfl rfl (fun _ => ?_)) | refine Pw.list (Pw.build rfl rfl rfl rfl ?_) | refine Pw.list (Pw.ld rfl inferInstance rfl rfl rfl ?_) | refine Pw.list (Pw.sto rfl rfl inferInstance rfl rfl rfl rfl rfl inferInstance rfl ?_))
  refine freeHead ?_
  have hz := half_sz
  obtain ⟨h, hh⟩ : ∃ h, h = Rat.divInt 1 2 := ⟨_, rfl⟩
  have hw := half_whole
  have ho := half_ord
  rw [← hh] at hz hw ho ⊢
  repeat (first | (with_reducible first | refine Pw.seq ?_ | refine Pw.region ?_ | refine Pw.nil ?_ | refine Pw.then_ ?_ | refine Pw.skip ?_ | refine Pw.block ?_ | refine Pw.exit ?_ | refine Pw.inX ?_ | refine Pw.inN ?_ | refine Pw.inR ?_ | refine Pw.thenX ?_ | refine Pw.thenR ?_ | refine Pw.ret ?_) | refine Pw.list (Pw.pure rfl rfl rfl ?_) | refine Pw.inY rfl ?_ | refine Pw.list (Pw.off rfl rfl ?_) | refine Pw.condT rfl ?_ | refine Pw.condF rfl ?_ | refine Pw.list (Pw.box rfl rfl rfl rfl (fun _ => ?_)) | refine Pw.list (Pw.alloc rfl rfl rfl rfl rfl (fun _ => ?_)) | refine Pw.list (Pw.build rfl rfl rfl rfl ?_) | refine Pw.list (Pw.ld rfl inferInstance rfl rfl rfl ?_) | refine Pw.list (Pw.sto rfl rfl inferInstance rfl rfl rfl rfl rfl inferInstance rfl ?_))
  refine Pw.list (Pw.lit22 rfl rfl rfl rfl rfl rfl rfl rfl rfl rfl rfl (fun g2 => freeHead ?_))
  have hrqh : rq ⟨qn h, qd h, z1⟩ = h := rv_q hz.p
  have hfm : formedR (qn h) (qd h) = true := hz.formed (by omega)
  have hr : rndS [⟨qn h, qd h, z1⟩, ⟨qn h, qd h, z1⟩] [0, 1] = ([natL 1, natL 0], 0) := by
    have e : rndS [⟨qn h, qd h, z1⟩, ⟨qn h, qd h, z1⟩] [0, 1] = (wholeQ ([⟨qn h, qd h, z1⟩, ⟨qn h, qd h, z1⟩].map rq) [0, 1], 0) := if_neg (by simp [hfm])
    rw [e]
    show (wholeQ [rq ⟨qn h, qd h, z1⟩, rq ⟨qn h, qd h, z1⟩] [0, 1], (0 : Int)) = _
    rw [hrqh, hw]
  have hc := pRoundA_ct 1 [⟨qn h, qd h, z1⟩, ⟨qn h, qd h, z1⟩] (some ⟨g2, 0, none⟩, 2) [0, 1] (fun s hs => by
    simp only [List.mem_cons, List.not_mem_nil, or_false, or_self] at hs
    subst hs; exact ⟨qn_lm h, qd_lm h⟩) (fun s hs => by
    simp only [List.mem_cons, List.not_mem_nil, or_false, or_self] at hs
    subst hs; exact ⟨hz.ln, hz.ld⟩) (by simp) (by omega) (by
      show Ord [rq ⟨qn h, qd h, z1⟩, rq ⟨qn h, qd h, z1⟩] [0, 1]
      rw [hrqh]; exact ho)
  rw [hr] at hc
  refine Pw.list (Pw.call hc rfl rfl rfl (by kernel_rfl) rfl rfl (fun w h1 => rows_of_row (ex := []) (fact0 h1) (fun _ _ => rfl) (fun y hy => by
    simp only [List.mem_cons, List.not_mem_nil, or_false, or_self] at hy
    subst hy; exact (hv w h1 : QW h z1 w)) (by simp) (by simp [maxLen]) (by omega)) ?_)
  rintro ⟨P1, A1, c1⟩ hP1
  dsimp only at hP1 ⊢
  obtain ⟨⟨f, y1⟩, ⟨f2, y2⟩, rfl⟩ : ∃ p q, P1 = [p, q] := by
    have := congrArg List.length hP1
    rw [List.length_map] at this
    match P1, this with
    | [p, q], _ => exact ⟨p, q, rfl⟩
  obtain ⟨rfl, rfl⟩ : f = natL 1 ∧ f2 = natL 0 := by simpa using hP1
  have hl1 : (natL 1).length = 1 := by rw [natL_one]; rfl
  repeat (first | (with_reducible first | refine Pw.seq ?_ | refine Pw.region ?_ | refine Pw.nil ?_ | refine Pw.then_ ?_ | refine Pw.skip ?_ | refine Pw.block ?_ | refine Pw.exit ?_ | refine Pw.inX ?_ | refine Pw.inN ?_ | refine Pw.inR ?_ | refine Pw.thenX ?_ | refine Pw.thenR ?_ | refine Pw.ret ?_) | refine Pw.list (Pw.pure rfl rfl rfl ?_) | refine Pw.inY rfl ?_ | refine Pw.list (Pw.off rfl rfl ?_) | refine Pw.condT rfl ?_ | refine Pw.condF rfl ?_ | refine Pw.list (Pw.box rfl rfl rfl rfl (fun _ => ?_)) | refine Pw.list (Pw.alloc rfl rfl rfl rfl rfl (fun _ => ?_)) | refine Pw.list (Pw.build rfl rfl rfl rfl ?_) | refine Pw.list (Pw.ld rfl inferInstance rfl rfl rfl ?_) | refine Pw.list (Pw.sto rfl rfl inferInstance rfl rfl rfl rfl rfl inferInstance rfl ?_))
  refine Pw.list (Pw.index rfl rfl rfl rfl (Int.le_refl 0) (by show (0 : Int) < 2; omega) (fun w h1 => (fact0 h1 : NS [(natL 1, y1), (natL 0, y2)] (A1, c1) w).has (i := 0) (Int.le_refl 0) (by show (0 : Int) < 2; omega)) rfl rfl ?_)
  rintro ad rfl
  refine Pw.list (Pw.loadC1 (natL 1, y1) rfl inferInstance rfl rfl rfl rfl rfl rfl ?_)
  refine Pw.re (d := 26) (v' := .slice y1.1 1 y1.2) rfl (by show Value.slice _ (natL 1).length _ = _; rw [hl1]) ?_
  repeat (first | (with_reducible first | refine Pw.seq ?_ | refine Pw.region ?_ | refine Pw.nil ?_ | refine Pw.then_ ?_ | refine Pw.skip ?_ | refine Pw.block ?_ | refine Pw.exit ?_ | refine Pw.inX ?_ | refine Pw.inN ?_ | refine Pw.inR ?_ | refine Pw.thenX ?_ | refine Pw.thenR ?_ | refine Pw.ret ?_) | refine Pw.list (Pw.pure rfl rfl rfl ?_) | refine Pw.inY rfl ?_ | refine Pw.list (Pw.off rfl rfl ?_) | refine Pw.condT rfl ?_ | refine Pw.condF rfl ?_ | refine Pw.list (Pw.box rfl rfl rfl rfl (fun _ => ?_)) | refine Pw.list (Pw.alloc rfl rfl rfl rfl rfl (fun _ => ?_)) | refine Pw.list (Pw.build rfl rfl rfl rfl ?_) | refine Pw.list (Pw.ld rfl inferInstance rfl rfl rfl ?_) | refine Pw.list (Pw.sto rfl rfl inferInstance rfl rfl rfl rfl rfl inferInstance rfl ?_))
  exact Pw.ret_ (x := ()) (.tmp rfl .nil) rfl trivial (fun w h => by trivial)
theorem WholeRounds_ct (l : List Rt) (x : Option Addr × Nat) (hw : ∀ s ∈ l, RtW s) :
    Ct Try.prog 4 #[rsV l x] (RS l x) (fun _ : Unit => .bool true) Tt (fun _ _ => True) := by
  refine Ct.start Try.func4 rfl rfl (slots_of rfl slots1) (fun D w0 => ?_)
  repeat (first | (with_reducible first | refine Pw.seq ?_ | refine Pw.region ?_ | refine Pw.nil ?_ | refine Pw.then_ ?_ | refine Pw.skip ?_ | refine Pw.block ?_ | refine Pw.exit ?_ | refine Pw.inX ?_ | refine Pw.inN ?_ | refine Pw.inR ?_ | refine Pw.thenX ?_ | refine Pw.thenR ?_ | refine Pw.ret ?_) | refine Pw.list (Pw.pure rfl rfl rfl ?_) | refine Pw.inY rfl ?_ | refine Pw.list (Pw.off rfl rfl ?_) | refine Pw.condT rfl ?_ | refine Pw.condF rfl ?_ | refine Pw.list (Pw.box rfl rfl rfl rfl (fun _ => ?_)) | refine Pw.list (Pw.alloc rfl rfl rfl rfl rfl (fun _ => ?_)) | refine Pw.list (Pw.build rfl rfl rfl rfl ?_) | refine Pw.list (Pw.ld rfl inferInstance rfl rfl rfl ?_) | refine Pw.list (Pw.sto rfl rfl inferInstance rfl rfl rfl rfl rfl inferInstance rfl ?_))
  refine Pw.list (Pw.call wawake_ct rfl rfl rfl (by kernel_rfl) rfl rfl (fun w h => trivial) ?_)
  intro _ _
  repeat (first | (with_reducible first | refine Pw.seq ?_ | refine Pw.region ?_ | refine Pw.nil ?_ | refine Pw.then_ ?_ | refine Pw.skip ?_ | refine Pw.block ?_ | refine Pw.exit ?_ | refine Pw.inX ?_ | refine Pw.inN ?_ | refine Pw.inR ?_ | refine Pw.thenX ?_ | refine Pw.thenR ?_ | refine Pw.ret ?_) | refine Pw.list (Pw.pure rfl rfl rfl ?_) | refine Pw.inY rfl ?_ | refine Pw.list (Pw.off rfl rfl ?_) | refine Pw.condT rfl ?_ | refine Pw.condF rfl ?_ | refine Pw.list (Pw.box rfl rfl rfl rfl (fun _ => ?_)) | refine Pw.list (Pw.alloc rfl rfl rfl rfl rfl (fun _ => ?_)) | refine Pw.list (Pw.build rfl rfl rfl rfl ?_) | refine Pw.list (Pw.ld rfl inferInstance rfl rfl rfl ?_) | refine Pw.list (Pw.sto rfl rfl inferInstance rfl rfl rfl rfl rfl inferInstance rfl ?_))
  refine Pw.list (Pw.call (wfew_ct l x) rfl rfl rfl (by kernel_rfl) rfl rfl (fun w h => (hv w h)) ?_)
  intro r hr
  cases r
  · repeat (first | (with_reducible first | refine Pw.seq ?_ | refine Pw.region ?_ | refine Pw.nil ?_ | refine Pw.then_ ?_ | refine Pw.skip ?_ | refine Pw.block ?_ | refine Pw.exit ?_ | refine Pw.inX ?_ | refine Pw.inN ?_ | refine Pw.inR ?_ | refine Pw.thenX ?_ | refine Pw.thenR ?_ | refine Pw.ret ?_) | refine Pw.list (Pw.pure rfl rfl rfl ?_) | refine Pw.inY rfl ?_ | refine Pw.list (Pw.off rfl rfl ?_) | refine Pw.condT rfl ?_ | refine Pw.condF rfl ?_ | refine Pw.list (Pw.box rfl rfl rfl rfl (fun _ => ?_)) | refine Pw.list (Pw.alloc rfl rfl rfl rfl rfl (fun _ => ?_)) | refine Pw.list (Pw.build rfl rfl rfl rfl ?_) | refine Pw.list (Pw.ld rfl inferInstance rfl rfl rfl ?_) | refine Pw.list (Pw.sto rfl rfl inferInstance rfl rfl rfl rfl rfl inferInstance rfl ?_))
    refine Pw.list (Pw.call wawake_ct rfl rfl rfl (by kernel_rfl) rfl rfl (fun w h => trivial) ?_)
    intro _ _
    repeat (first | (with_reducible first | refine Pw.seq ?_ | refine Pw.region ?_ | refine Pw.nil ?_ | refine Pw.then_ ?_ | refine Pw.skip ?_ | refine Pw.block ?_ | refine Pw.exit ?_ | refine Pw.inX ?_ | refine Pw.inN ?_ | refine Pw.inR ?_ | refine Pw.thenX ?_ | refine Pw.thenR ?_ | refine Pw.ret ?_) | refine Pw.list (Pw.pure rfl rfl rfl ?_) | refine Pw.inY rfl ?_ | refine Pw.list (Pw.off rfl rfl ?_) | refine Pw.condT rfl ?_ | refine Pw.condF rfl ?_ | refine Pw.list (Pw.box rfl rfl rfl rfl (fun _ => ?_)) | refine Pw.list (Pw.alloc rfl rfl rfl rfl rfl (fun _ => ?_)) | refine Pw.list (Pw.build rfl rfl rfl rfl ?_) | refine Pw.list (Pw.ld rfl inferInstance rfl rfl rfl ?_) | refine Pw.list (Pw.sto rfl rfl inferInstance rfl rfl rfl rfl rfl inferInstance rfl ?_))
    exact Pw.ret_ (x := ()) (.tmp rfl .nil) rfl trivial (fun w h => by trivial)
  obtain ⟨hl, hs⟩ := hr rfl
  have hb : ∀ s ∈ l, s.a.length ≤ 6 ∧ s.b.length ≤ 6 := fun s h => by have := hs s h; omega
  have hz : ∀ q ∈ l.map rq, Sz 6 q := fun q hq => by
    obtain ⟨s, hs, rfl⟩ := List.mem_map.1 hq
    exact rq_sz (hw s hs) (hb s hs).1 (hb s hs).2 (by omega)
  obtain ⟨o, ho⟩ := ord_ex (m := 6) (by omega) (l.map rq) hz
  repeat (first | (with_reducible first | refine Pw.seq ?_ | refine Pw.region ?_ | refine Pw.nil ?_ | refine Pw.then_ ?_ | refine Pw.skip ?_ | refine Pw.block ?_ | refine Pw.exit ?_ | refine Pw.inX ?_ | refine Pw.inN ?_ | refine Pw.inR ?_ | refine Pw.thenX ?_ | refine Pw.thenR ?_ | refine Pw.ret ?_) | refine Pw.list (Pw.pure rfl rfl rfl ?_) | refine Pw.inY rfl ?_ | refine Pw.list (Pw.off rfl rfl ?_) | refine Pw.condT rfl ?_ | refine Pw.condF rfl ?_ | refine Pw.list (Pw.box rfl rfl rfl rfl (fun _ => ?_)) | refine Pw.list (Pw.alloc rfl rfl rfl rfl rfl (fun _ => ?_)) | refine Pw.list (Pw.build rfl rfl rfl rfl ?_) | refine Pw.list (Pw.ld rfl inferInstance rfl rfl rfl ?_) | refine Pw.list (Pw.sto rfl rfl inferInstance rfl rfl rfl rfl rfl inferInstance rfl ?_))
  refine Pw.list (Pw.call (wtheirs_ct l x (by omega)) rfl rfl rfl (by kernel_rfl) rfl rfl (fun w h => (hv w h)) ?_)
  intro z _
  repeat (first | (with_reducible first | refine Pw.seq ?_ | refine Pw.region ?_ | refine Pw.nil ?_ | refine Pw.then_ ?_ | refine Pw.skip ?_ | refine Pw.block ?_ | refine Pw.exit ?_ | refine Pw.inX ?_ | refine Pw.inN ?_ | refine Pw.inR ?_ | refine Pw.thenX ?_ | refine Pw.thenR ?_ | refine Pw.ret ?_) | refine Pw.list (Pw.pure rfl rfl rfl ?_) | refine Pw.inY rfl ?_ | refine Pw.list (Pw.off rfl rfl ?_) | refine Pw.condT rfl ?_ | refine Pw.condF rfl ?_ | refine Pw.list (Pw.box rfl rfl rfl rfl (fun _ => ?_)) | refine Pw.list (Pw.alloc rfl rfl rfl rfl rfl (fun _ => ?_)) | refine Pw.list (Pw.build rfl rfl rfl rfl ?_) | refine Pw.list (Pw.ld rfl inferInstance rfl rfl rfl ?_) | refine Pw.list (Pw.sto rfl rfl inferInstance rfl rfl rfl rfl rfl inferInstance rfl ?_))
  refine Pw.list (Pw.call (pRoundA_ct 6 l z o hw hb hl (by omega) ho) rfl rfl rfl (by kernel_rfl) rfl rfl (fun w h => (hv w h)) ?_)
  rintro ⟨P1, A1, c1⟩ hP1
  dsimp only at hP1 ⊢
  repeat (first | (with_reducible first | refine Pw.seq ?_ | refine Pw.region ?_ | refine Pw.nil ?_ | refine Pw.then_ ?_ | refine Pw.skip ?_ | refine Pw.block ?_ | refine Pw.exit ?_ | refine Pw.inX ?_ | refine Pw.inN ?_ | refine Pw.inR ?_ | refine Pw.thenX ?_ | refine Pw.thenR ?_ | refine Pw.ret ?_) | refine Pw.list (Pw.pure rfl rfl rfl ?_) | refine Pw.inY rfl ?_ | refine Pw.list (Pw.off rfl rfl ?_) | refine Pw.condT rfl ?_ | refine Pw.condF rfl ?_ | refine Pw.list (Pw.box rfl rfl rfl rfl (fun _ => ?_)) | refine Pw.list (Pw.alloc rfl rfl rfl rfl rfl (fun _ => ?_)) | refine Pw.list (Pw.build rfl rfl rfl rfl ?_) | refine Pw.list (Pw.ld rfl inferInstance rfl rfl rfl ?_) | refine Pw.list (Pw.sto rfl rfl inferInstance rfl rfl rfl rfl rfl inferInstance rfl ?_))
  refine Pw.list (Pw.call (rRoundA_ct 6 l x o hw hb hl (by omega) ho) rfl rfl rfl (by kernel_rfl) rfl rfl (fun w h => (hv w h)) ?_)
  rintro ⟨P2, A2, c2⟩ hP2
  dsimp only at hP2 ⊢
  have hok : ∀ f ∈ (rndS l o).1, Fm f ∧ f.length ≤ 7 := fun f hf => by
    unfold rndS at hf
    split at hf
    · cases hf
    · obtain ⟨h1, h2, _⟩ := wholeQ_el ho hz hf; exact ⟨h1, h2⟩
  have hle : (rndS l o).1.length ≤ 20 := by
    unfold rndS
    split
    · simp
    · show (wholeQ _ _).length ≤ 20; rw [wholeQ_len, List.length_map]; exact hl
  obtain ⟨ps, hps⟩ : ∃ ps, ps = (rndS l o).1 := ⟨_, rfl⟩
  rw [← hps] at hP1 hP2 hok hle ⊢
  have hl1 : P1.length = ps.length := by rw [← hP1, List.length_map]
  have hl2 : P2.length = ps.length := by rw [← hP2, List.length_map]
  repeat (first | (with_reducible first | refine Pw.seq ?_ | refine Pw.region ?_ | refine Pw.nil ?_ | refine Pw.then_ ?_ | refine Pw.skip ?_ | refine Pw.block ?_ | refine Pw.exit ?_ | refine Pw.inX ?_ | refine Pw.inN ?_ | refine Pw.inR ?_ | refine Pw.thenX ?_ | refine Pw.thenR ?_ | refine Pw.ret ?_) | refine Pw.list (Pw.pure rfl rfl rfl ?_) | refine Pw.inY rfl ?_ | refine Pw.list (Pw.off rfl rfl ?_) | refine Pw.condT rfl ?_ | refine Pw.condF rfl ?_ | refine Pw.list (Pw.box rfl rfl rfl rfl (fun _ => ?_)) | refine Pw.list (Pw.alloc rfl rfl rfl rfl rfl (fun _ => ?_)) | refine Pw.list (Pw.build rfl rfl rfl rfl ?_) | refine Pw.list (Pw.ld rfl inferInstance rfl rfl rfl ?_) | refine Pw.list (Pw.sto rfl rfl inferInstance rfl rfl rfl rfl rfl inferInstance rfl ?_))
  refine Pw.re (d := 30) (v' := .bool false) rfl (congrArg Value.bool (decide_eq_false (fun c => c rfl))) ?_
  repeat (first | (with_reducible first | refine Pw.seq ?_ | refine Pw.region ?_ | refine Pw.nil ?_ | refine Pw.then_ ?_ | refine Pw.skip ?_ | refine Pw.block ?_ | refine Pw.exit ?_ | refine Pw.inX ?_ | refine Pw.inN ?_ | refine Pw.inR ?_ | refine Pw.thenX ?_ | refine Pw.thenR ?_ | refine Pw.ret ?_) | refine Pw.list (Pw.pure rfl rfl rfl ?_) | refine Pw.inY rfl ?_ | refine Pw.list (Pw.off rfl rfl ?_) | refine Pw.condT rfl ?_ | refine Pw.condF rfl ?_ | refine Pw.list (Pw.box rfl rfl rfl rfl (fun _ => ?_)) | refine Pw.list (Pw.alloc rfl rfl rfl rfl rfl (fun _ => ?_)) | refine Pw.list (Pw.build rfl rfl rfl rfl ?_) | refine Pw.list (Pw.ld rfl inferInstance rfl rfl rfl ?_) | refine Pw.list (Pw.sto rfl rfl inferInstance rfl rfl rfl rfl rfl inferInstance rfl ?_))
  refine Pw.condD rfl (fun c => absurd rfl c) (fun c => ?_)
  repeat (first | (with_reducible first | refine Pw.seq ?_ | refine Pw.region ?_ | refine Pw.nil ?_ | refine Pw.then_ ?_ | refine Pw.skip ?_ | refine Pw.block ?_ | refine Pw.exit ?_ | refine Pw.inX ?_ | refine Pw.inN ?_ | refine Pw.inR ?_ | refine Pw.thenX ?_ | refine Pw.thenR ?_ | refine Pw.ret ?_) | refine Pw.list (Pw.pure rfl rfl rfl ?_) | refine Pw.inY rfl ?_ | refine Pw.list (Pw.off rfl rfl ?_) | refine Pw.condT rfl ?_ | refine Pw.condF rfl ?_ | refine Pw.list (Pw.box rfl rfl rfl rfl (fun _ => ?_)) | refine Pw.list (Pw.alloc rfl rfl rfl rfl rfl (fun _ => ?_)) | refine Pw.list (Pw.build rfl rfl rfl rfl ?_) | refine Pw.list (Pw.ld rfl inferInstance rfl rfl rfl ?_) | refine Pw.list (Pw.sto rfl rfl inferInstance rfl rfl rfl rfl rfl inferInstance rfl ?_))
  refine Pw.facts (G' := [NS P1 (A1, c1), NS P2 (A2, c2)]) (fun w h => allCons (hv w h) (allCons (hv w h) allNil)) ?_
  refine Pw.loopJ (σ := Nat) (fun i => i ≤ ps.length) (fun i => ⟨[(3, .slice A1 ps.length c1), (5, .slice A2 ps.length c2), (38, .int .i64 ps.length), (39, .int .i64 i)], [], [NS P1 (A1, c1), NS P2 (A2, c2)]⟩) (fun i => ps.length - i) 0 (Nat.zero_le _) (Pw.enter ⟨rfl, rfl, rfl, rfl, trivial⟩ (fun w h => h)) ?_
  rintro i hi
  dsimp only at hi ⊢
  repeat (first | (with_reducible first | refine Pw.seq ?_ | refine Pw.region ?_ | refine Pw.nil ?_ | refine Pw.then_ ?_ | refine Pw.skip ?_ | refine Pw.block ?_ | refine Pw.exit ?_ | refine Pw.inX ?_ | refine Pw.inN ?_ | refine Pw.inR ?_ | refine Pw.thenX ?_ | refine Pw.thenR ?_ | refine Pw.ret ?_) | refine Pw.list (Pw.pure rfl rfl rfl ?_) | refine Pw.inY rfl ?_ | refine Pw.list (Pw.off rfl rfl ?_) | refine Pw.condT rfl ?_ | refine Pw.condF rfl ?_ | refine Pw.list (Pw.box rfl rfl rfl rfl (fun _ => ?_)) | refine Pw.list (Pw.alloc rfl rfl rfl rfl rfl (fun _ => ?_)) | refine Pw.list (Pw.build rfl rfl rfl rfl ?_) | refine Pw.list (Pw.ld rfl inferInstance rfl rfl rfl ?_) | refine Pw.list (Pw.sto rfl rfl inferInstance rfl rfl rfl rfl rfl inferInstance rfl ?_))
  refine Pw.condD rfl (fun c3 => ?_) (fun c3 => ?_)
  · obtain ⟨⟨a, y1⟩, hp, _⟩ := get_at (show i < P1.length by omega)
    obtain ⟨⟨a', z1⟩, hq, _⟩ := get_at (show i < P2.length by omega)
    have hpi : ps[i]? = some a := by rw [← hP1, List.getElem?_map, hp]; rfl
    have hqi : ps[i]? = some a' := by rw [← hP2, List.getElem?_map, hq]; rfl
    rw [hpi] at hqi
    cases hqi
    obtain ⟨f1, f2⟩ := hok a (List.mem_of_getElem? hpi)
    refine Pw.use (p := A1.isSome = true) (fun w h => (fact0 h).has (i := (i : Int)) (by omega) (by omega)) (fun hA => ?_)
    refine Pw.use (p := A2.isSome = true) (fun w h => (fact1 h).has (i := (i : Int)) (by omega) (by omega)) (fun hB => ?_)
    obtain ⟨ad, rfl⟩ := Option.isSome_iff_exists.1 hA
    obtain ⟨bd, rfl⟩ := Option.isSome_iff_exists.1 hB
    repeat (first | (with_reducible first | refine Pw.seq ?_ | refine Pw.region ?_ | refine Pw.nil ?_ | refine Pw.then_ ?_ | refine Pw.skip ?_ | refine Pw.block ?_ | refine Pw.exit ?_ | refine Pw.inX ?_ | refine Pw.inN ?_ | refine Pw.inR ?_ | refine Pw.thenX ?_ | refine Pw.thenR ?_ | refine Pw.ret ?_) | refine Pw.list (Pw.pure rfl rfl rfl ?_) | refine Pw.inY rfl ?_ | refine Pw.list (Pw.off rfl rfl ?_) | refine Pw.condT rfl ?_ | refine Pw.condF rfl ?_ | refine Pw.list (Pw.box rfl rfl rfl rfl (fun _ => ?_)) | refine Pw.list (Pw.alloc rfl rfl rfl rfl rfl (fun _ => ?_)) | refine Pw.list (Pw.build rfl rfl rfl rfl ?_) | refine Pw.list (Pw.ld rfl inferInstance rfl rfl rfl ?_) | refine Pw.list (Pw.sto rfl rfl inferInstance rfl rfl rfl rfl rfl inferInstance rfl ?_))
    refine Pw.more (fun w h => (((fact0 h : NS P1 (some ad, c1) w).at hp).2.1 : heldN (a, y1) w)) ?_
    refine Pw.more (fun w h => (((fact2 h : NS P2 (some bd, c2) w).at hq).2.1 : heldN (a, z1) w)) ?_
    refine Pw.drawnG mixed rfl rfl ?_
    refine Pw.takeP 0 (nb 10 1) rfl rfl rfl rfl (by kernel_rfl) np sf ?_
    refine Pw.takeP 1 (nb 10 3) rfl rfl rfl rfl (by kernel_rfl) np sf ?_
    refine Pw.takeIx 2 (nb 10 7) rfl rfl rfl rfl rfl (by first | assumption | omega) (by first | assumption | omega) rfl rfl (by kernel_rfl) np sf ?_
    refine Pw.takeP 4 (nb 10 23) rfl rfl rfl rfl (by kernel_rfl) np sf ?_
    refine Pw.takeP 5 (nb 10 55) rfl rfl rfl rfl (by kernel_rfl) np sf ?_
    refine Pw.takeIx 6 (nb 10 119) rfl rfl rfl rfl rfl (by first | assumption | omega) (by first | assumption | omega) rfl rfl (by kernel_rfl) np sf ?_
    refine Pw.two 3 7 (nb 10 127) (nb 10 247) rfl rfl (by kernel_rfl) ?_ ?_
    · skip
      refine Pw.loadC1 (a, y1) rfl inferInstance rfl (by rw [Int.toNat_natCast]; exact hp) rfl rfl rfl rfl ?_
      refine Pw.held sf ?_
      refine Pw.one 7 (nb 10 255) rfl (by kernel_rfl) ?_
      refine Pw.loadC1 (a, z1) rfl inferInstance rfl (by rw [Int.toNat_natCast]; exact hq) rfl rfl rfl rfl ?_
      refine Pw.held sf ?_
      refine Pw.one 8 (nb 10 511) rfl (by kernel_rfl) ?_
      refine Pw.call (rSame_ct a a y1 z1 f1 f1 (by omega) (by omega)) rfl rfl rfl (by kernel_rfl) rfl rfl (fun w h => ⟨(hv w h : heldN (a, y1) w), (hv w h : heldN (a, z1) w)⟩) ?_
      intro _ _
      refine Pw.re (d := 50) (v' := .bool true) rfl (congrArg Value.bool (decide_eq_true rfl)) ?_
      refine Pw.held sf ?_
      refine Pw.takeP 9 (nb 10 1023) rfl rfl rfl rfl (by kernel_rfl) np sf ?_
      refine Pw.done (by kernel_rfl) ?_
      repeat (first | (with_reducible first | refine Pw.seq ?_ | refine Pw.region ?_ | refine Pw.nil ?_ | refine Pw.then_ ?_ | refine Pw.skip ?_ | refine Pw.block ?_ | refine Pw.exit ?_ | refine Pw.inX ?_ | refine Pw.inN ?_ | refine Pw.inR ?_ | refine Pw.thenX ?_ | refine Pw.thenR ?_ | refine Pw.ret ?_) | refine Pw.list (Pw.pure rfl rfl rfl ?_) | refine Pw.inY rfl ?_ | refine Pw.list (Pw.off rfl rfl ?_) | refine Pw.condT rfl ?_ | refine Pw.condF rfl ?_ | refine Pw.list (Pw.box rfl rfl rfl rfl (fun _ => ?_)) | refine Pw.list (Pw.alloc rfl rfl rfl rfl rfl (fun _ => ?_)) | refine Pw.list (Pw.build rfl rfl rfl rfl ?_) | refine Pw.list (Pw.ld rfl inferInstance rfl rfl rfl ?_) | refine Pw.list (Pw.sto rfl rfl inferInstance rfl rfl rfl rfl rfl inferInstance rfl ?_))
      refine Pw.re (d := 39) (v' := .int .i64 ((i + 1 : Nat) : Int)) rfl (congrArg (Value.int .i64) (i64s (n := 100000) (by omega) (by omega))) ?_
      exact Pw.again (i + 1) (by omega) (by show ps.length - (i + 1) < ps.length - i; omega) ⟨rfl, rfl, rfl, rfl, trivial⟩ rfl (fun w h => allCons (hv w h) (allCons (hv w h) allNil))
    · skip
      refine Pw.loadC1 (a, z1) rfl inferInstance rfl (by rw [Int.toNat_natCast]; exact hq) rfl rfl rfl rfl ?_
      refine Pw.held sf ?_
      refine Pw.one 3 (nb 10 255) rfl (by kernel_rfl) ?_
      refine Pw.loadC1 (a, y1) rfl inferInstance rfl (by rw [Int.toNat_natCast]; exact hp) rfl rfl rfl rfl ?_
      refine Pw.held sf ?_
      refine Pw.one 8 (nb 10 511) rfl (by kernel_rfl) ?_
      refine Pw.call (rSame_ct a a y1 z1 f1 f1 (by omega) (by omega)) rfl rfl rfl (by kernel_rfl) rfl rfl (fun w h => ⟨(hv w h : heldN (a, y1) w), (hv w h : heldN (a, z1) w)⟩) ?_
      intro _ _
      refine Pw.re (d := 50) (v' := .bool true) rfl (congrArg Value.bool (decide_eq_true rfl)) ?_
      refine Pw.held sf ?_
      refine Pw.takeP 9 (nb 10 1023) rfl rfl rfl rfl (by kernel_rfl) np sf ?_
      refine Pw.done (by kernel_rfl) ?_
      repeat (first | (with_reducible first | refine Pw.seq ?_ | refine Pw.region ?_ | refine Pw.nil ?_ | refine Pw.then_ ?_ | refine Pw.skip ?_ | refine Pw.block ?_ | refine Pw.exit ?_ | refine Pw.inX ?_ | refine Pw.inN ?_ | refine Pw.inR ?_ | refine Pw.thenX ?_ | refine Pw.thenR ?_ | refine Pw.ret ?_) | refine Pw.list (Pw.pure rfl rfl rfl ?_) | refine Pw.inY rfl ?_ | refine Pw.list (Pw.off rfl rfl ?_) | refine Pw.condT rfl ?_ | refine Pw.condF rfl ?_ | refine Pw.list (Pw.box rfl rfl rfl rfl (fun _ => ?_)) | refine Pw.list (Pw.alloc rfl rfl rfl rfl rfl (fun _ => ?_)) | refine Pw.list (Pw.build rfl rfl rfl rfl ?_) | refine Pw.list (Pw.ld rfl inferInstance rfl rfl rfl ?_) | refine Pw.list (Pw.sto rfl rfl inferInstance rfl rfl rfl rfl rfl inferInstance rfl ?_))
      refine Pw.re (d := 39) (v' := .int .i64 ((i + 1 : Nat) : Int)) rfl (congrArg (Value.int .i64) (i64s (n := 100000) (by omega) (by omega))) ?_
      exact Pw.again (i + 1) (by omega) (by show ps.length - (i + 1) < ps.length - i; omega) ⟨rfl, rfl, rfl, rfl, trivial⟩ rfl (fun w h => allCons (hv w h) (allCons (hv w h) allNil))
  · repeat (first | (with_reducible first | refine Pw.seq ?_ | refine Pw.region ?_ | refine Pw.nil ?_ | refine Pw.then_ ?_ | refine Pw.skip ?_ | refine Pw.block ?_ | refine Pw.exit ?_ | refine Pw.inX ?_ | refine Pw.inN ?_ | refine Pw.inR ?_ | refine Pw.thenX ?_ | refine Pw.thenR ?_ | refine Pw.ret ?_) | refine Pw.list (Pw.pure rfl rfl rfl ?_) | refine Pw.inY rfl ?_ | refine Pw.list (Pw.off rfl rfl ?_) | refine Pw.condT rfl ?_ | refine Pw.condF rfl ?_ | refine Pw.list (Pw.box rfl rfl rfl rfl (fun _ => ?_)) | refine Pw.list (Pw.alloc rfl rfl rfl rfl rfl (fun _ => ?_)) | refine Pw.list (Pw.build rfl rfl rfl rfl ?_) | refine Pw.list (Pw.ld rfl inferInstance rfl rfl rfl ?_) | refine Pw.list (Pw.sto rfl rfl inferInstance rfl rfl rfl rfl rfl inferInstance rfl ?_))
    exact Pw.ret_ (x := ()) (.tmp rfl .nil) rfl trivial (fun w h => by trivial)
end Go.Proofs.Wk
