/- Walks and their mathematics, merged. No conditions beyond those written. -/
import Derived.Test.YtbfcmjaomkdpgaaWmPagesCut1
import Derived.Test.YtbfcmjaomkdpgaaProg
import Derived.Shelf.SlLaysF0
/- Words for the walks of a seat's program: slices of limbs as values. -/
namespace Go.Proofs.Wk
open Go.RowKit
set_option linter.unusedVariables false
set_option linter.unusedSimpArgs false
theorem mixed : Try.prog.follows .mixedOrders = true := by kernel_rfl
abbrev sl (l : List Int) (x : Option Addr × Nat) : Value := .slice x.1 l.length x.2
abbrev S1 (l : List Int) (x : Option Addr × Nat) : World → Prop := Ints .u32 l x.1 x.2
abbrev Tt {α : Type} (_ : α) : Prop := True
theorem Rows.top' {k : IntKind} {l : List Int} {A : Option Addr} {c : Nat} {W : World} (h : Ints k l A c W) : (l.length : Int) ≤ 9223372036854775807 := by
  have := h.top; simp only [maxLen] at this; omega
end Go.Proofs.Wk
/- Snapshots as data: what the walks of layer 10 say of them. -/
namespace Go.Proofs.Wk
open Go.RowKit
set_option linter.unusedVariables false
set_option linter.unusedSimpArgs false
structure Vtr where
  id : Int
  st : Int
  pk : List Int
  z : Option Addr × Nat
abbrev I1 (l : List Int) (x : Option Addr × Nat) : World → Prop := Ints .i64 l x.1 x.2
abbrev vtV (v : Vtr) : Value := .agg #[.int .i64 v.id, .int .u64 v.st, sl v.pk v.z]
def encV (v : Vtr) : List Value := [.int .i64 v.id, .int .u64 v.st, sl v.pk v.z]
def heldV (v : Vtr) : World → Prop := I1 v.pk v.z
abbrev VS (l : List Vtr) (x : Option Addr × Nat) : World → Prop := Rows (RR encV heldV) 3 l x.1 x.2
abbrev gL1 (s : Gr) (cells : List Value) (e : TypeId) : List Blk := gL s cells e ++ []
structure Sn where
  vs : List Vtr
  zv : Option Addr × Nat
  cs : List Int
  zc : Option Addr × Nat
abbrev snV (s : Sn) : Value := .agg #[.slice s.zv.1 s.vs.length s.zv.2, sl s.cs s.zc]
abbrev snL (s : Sn) : List Value := [.slice s.zv.1 s.vs.length s.zv.2, sl s.cs s.zc]
abbrev snF (s : Sn) (W : World) : Prop := VS s.vs s.zv W ∧ I1 s.cs s.zc W
def snW (s : Sn) : Prop := ∀ v ∈ s.vs, 0 ≤ v.st ∧ v.st ≤ 18446744073709551615
theorem sn2 {s : Sn} : ∀ w, All [snF s] w → All [VS s.vs s.zv, I1 s.cs s.zc] w := fun w h => allCons (fact0 h).1 (allCons (fact0 h).2 allNil)
theorem get_at {α : Type} {l : List α} {i : Nat} (h : i < l.length) : ∃ x, l[i]? = some x ∧ x ∈ l := ⟨l[i], List.getElem?_eq_getElem h, List.getElem_mem h⟩
theorem get_rd {l : List Int} {i : Nat} {x : Int} (h : l[i]? = some x) : rd l (i : Int) = x := by
  unfold rd; rw [List.getD_eq_getElem?_getD, Int.toNat_natCast, h]; rfl
/-! ### Rising lists -/
def okAt (l : List Int) (i : Nat) : Bool := decide (0 ≤ rd l i) && (decide (rd l i ≤ 2147483647) && (decide (i = 0) || decide (rd l ((i : Int) - 1) < rd l i)))
theorem okAt_iff {l : List Int} {i : Nat} : okAt l i = true ↔ 0 ≤ rd l i ∧ rd l i ≤ 2147483647 ∧ (i = 0 ∨ rd l ((i : Int) - 1) < rd l i) := by
  unfold okAt; simp [Bool.and_eq_true, Bool.or_eq_true, decide_eq_true_eq]
theorem okAt_no {l : List Int} {i : Nat} (h : ¬ (0 ≤ rd l i ∧ rd l i ≤ 2147483647 ∧ (i = 0 ∨ rd l ((i : Int) - 1) < rd l i))) : okAt l i = false := by
  rw [← Bool.not_eq_true, okAt_iff]; exact h
theorem top63 {n : Nat} (h : n ≤ maxLen) : n ≤ 9223372036854775807 := by simpa [maxLen] using h
theorem i64s {i n : Nat} (h : i < n) (hn : n ≤ 9223372036854775807) : wrap64 ((i : Int) + 1) = ((i + 1 : Nat) : Int) := by unfold wrap64; omega
def allB (n : Nat) (p : Nat → Bool) : Bool := (List.range n).all p
theorem allB_true {n : Nat} {p : Nat → Bool} (h : ∀ i, i < n → p i = true) : allB n p = true := by
  unfold allB; rw [List.all_eq_true]; intro x hx; exact h x (List.mem_range.1 hx)
theorem allB_false {n : Nat} {p : Nat → Bool} {i : Nat} (h : i < n) (hp : p i = false) : allB n p = false := by
  unfold allB; rw [List.all_eq_false]; exact ⟨i, List.mem_range.2 h, by simp [hp]⟩
theorem allB_iff {n : Nat} {p : Nat → Bool} : allB n p = true ↔ ∀ i, i < n → p i = true := by
  unfold allB; rw [List.all_eq_true]; exact ⟨fun h i hi => h i (List.mem_range.2 hi), fun h x hx => h x (List.mem_range.1 hx)⟩
def risB (l : List Int) : Bool := allB l.length (okAt l)
/-! ### Formed snapshots -/
def sumSt : List Vtr → Int
  | [] => 0
  | v :: r => v.st + sumSt r
theorem sumSt_snoc (l : List Vtr) (v : Vtr) : sumSt (l ++ [v]) = sumSt l + v.st := by
  induction l with
  | nil => simp [sumSt]
  | cons x r ih => simp only [List.cons_append, sumSt, ih]; omega
theorem take_snoc {α : Type} {l : List α} {i : Nat} {x : α} (h : l[i]? = some x) : l.take (i + 1) = l.take i ++ [x] := by
  rw [List.take_add_one, h]; rfl
theorem sumSt_nonneg {l : List Vtr} (h : ∀ v ∈ l, 0 ≤ v.st) : 0 ≤ sumSt l := by
  induction l with
  | nil => simp [sumSt]
  | cons x r ih =>
    have h1 := h x (List.mem_cons_self ..)
    have h2 := ih (fun v hv => h v (List.mem_cons_of_mem _ hv))
    simp only [sumSt]; omega
def idsOf (l : List Vtr) : List Int := l.map Vtr.id
def vOk (vs : List Vtr) (i : Nat) : Bool := match vs[i]? with
  | none => true
  | some v => decide (sumSt (vs.take i) + v.st ≤ 18446744073709551615) && (!decide (v.id ∈ idsOf (vs.take i)) && (decide (0 ≤ v.id) && (decide (v.id ≤ 2147483647) && (decide (v.pk.length ≤ 8) && risB v.pk))))
def formB (s : Sn) : Bool := decide (s.vs.length ≤ 32) && (decide (s.cs.length ≤ 32) && (risB s.cs && allB s.vs.length (vOk s.vs)))
def findB (s : Sn) (voter : Int) : Int := if formB s = true then ixI (fun v : Vtr => decide (v.id = voter)) s.vs else -1
def apB (s : Sn) (voter c : Int) : Bool := formB s && (match s.vs.find? (fun v : Vtr => decide (v.id = voter)) with
  | none => false
  | some v => decide (0 < v.st) && (decide (c ∈ v.pk) && decide (c ∈ s.cs)))
def apL (s : Sn) (c : Int) : List Int := (s.vs.filter (fun v => apB s v.id c)).map Vtr.id
def suL (s : Sn) : List Int := s.cs.filter (fun c => decide (0 < (apL s c).length))
end Go.Proofs.Wk
/- Parts of exposures; walks of slices.Values, Collect at them. -/
namespace Go.Proofs.Wk
open Go.RowKit
set_option maxRecDepth 100000
set_option maxHeartbeats 1000000
attribute [local irreducible] Pw OpG
set_option linter.unusedVariables false
set_option linter.unusedSimpArgs false
abbrev Pt := Int × Int
def encP (p : Pt) : List Value := [.int .i64 p.1, .int .u64 p.2]
abbrev ptV (p : Pt) : Value := .agg #[.int .i64 p.1, .int .u64 p.2]
def heldP (_ : Pt) (_ : World) : Prop := True
abbrev PS (l : List Pt) (x : Option Addr × Nat) : World → Prop := Rows (RR encP heldP) 2 l x.1 x.2
abbrev psV (l : List Pt) (x : Option Addr × Nat) : Value := .slice x.1 l.length x.2
def cellsP (l : List Pt) : List Value := l.flatMap encP
theorem cellsP_snoc (l : List Pt) (p : Pt) : cellsP (l ++ [p]) = cellsP l ++ encP p := by unfold cellsP; simp
theorem cellsP_one {l : List Pt} : ∀ v ∈ cellsP l, v.oneCell' = true := fun v hv => by
  obtain ⟨p, _, hp⟩ := List.mem_flatMap.1 hv
  unfold encP at hp
  rcases List.mem_cons.1 hp with rfl | hp
  · rfl
  · rcases List.mem_cons.1 hp with rfl | hp
    · rfl
    · cases hp
theorem cellsP_len (l : List Pt) : (cellsP l).length = l.length * 2 := by
  induction l with
  | nil => rfl
  | cons p r ih => unfold cellsP at *; rw [List.flatMap_cons, List.length_append, ih]; simp [encP]; omega
def gtP (l : List Pt) (i : Nat) : Value := match l[i]? with | some p => ptV p | none => undef
theorem gtP_at {l : List Pt} {i : Nat} {p : Pt} (h : l[i]? = some p) : gtP l i = ptV p := by unfold gtP; rw [h]
theorem Values_ct (l : List Pt) (x : Option Addr × Nat) : Ct Try.prog 89 #[psV l x] (fun _ => True) (fun g : Nat => .func (.func 116) #[] #[.pointer (some ⟨g, 0, none⟩)]) Tt (fun g W => W.heap[g]? = some (row [psV l x] 71)) := by
  refine Ct.start Try.func89 rfl rfl (slots_of rfl slots1) (fun D w0 => ?_)
  repeat (first | (with_reducible first | refine Pw.seq ?_ | refine Pw.region ?_ | refine Pw.nil ?_ | refine Pw.then_ ?_ | refine Pw.skip ?_ | refine Pw.block ?_ | refine Pw.exit ?_ | refine Pw.inX ?_ | refine Pw.inN ?_ | refine Pw.inR ?_ | refine Pw.thenX ?_ | refine Pw.thenR ?_ | refine Pw.ret ?_) | refine Pw.list (Pw.pure rfl rfl rfl ?_) | refine Pw.inY rfl ?_ | refine Pw.list (Pw.off rfl rfl ?_) | refine Pw.condT rfl ?_ | refine Pw.condF rfl ?_)
  refine Pw.list (Pw.box rfl rfl rfl rfl (fun g => freeHead ?_))
  repeat (first | (with_reducible first | refine Pw.seq ?_ | refine Pw.region ?_ | refine Pw.nil ?_ | refine Pw.then_ ?_ | refine Pw.skip ?_ | refine Pw.block ?_ | refine Pw.exit ?_ | refine Pw.inX ?_ | refine Pw.inN ?_ | refine Pw.inR ?_ | refine Pw.thenX ?_ | refine Pw.thenR ?_ | refine Pw.ret ?_) | refine Pw.list (Pw.pure rfl rfl rfl ?_) | refine Pw.inY rfl ?_ | refine Pw.list (Pw.off rfl rfl ?_) | refine Pw.condT rfl ?_ | refine Pw.condF rfl ?_ | refine Pw.list (Pw.box rfl rfl rfl rfl (fun _ => ?_)) | refine Pw.list (Pw.alloc rfl rfl rfl rfl rfl (fun _ => ?_)) | refine Pw.list (Pw.build rfl rfl rfl rfl ?_) | refine Pw.list (Pw.ld rfl inferInstance rfl rfl rfl ?_) | refine Pw.list (Pw.sto rfl rfl inferInstance rfl rfl rfl rfl rfl inferInstance rfl ?_))
  exact Pw.ret_ (x := g) (.tmp rfl .nil) rfl trivial (fun w h => fact0 h)
theorem Values_it (l : List Pt) (x : Option Addr × Nat) (g : Nat) (htop : l.length ≤ 9223372036854775807) : Iter Try.prog 116 #[.pointer (some ⟨g, 0, none⟩)] l.length (gtP l) (fun W => W.heap[g]? = some (row [psV l x] 71) ∧ PS l x W) := by
  obtain ⟨A, c⟩ := x
  refine Iter.start (n := 2 + (Try.f116.ntmps - 2)) Try.func116 rfl (fun r => [(0, .func (.yield r) #[] #[]), (1, .pointer (some ⟨g, 0, none⟩))]) (fun r => rfl) (fun r => slots_of rfl slots2) (fun r J hY hst hpre w0 h0 => ?_)
  refine Pw.facts (G' := [fun W => W.heap[g]? = some (row [.slice A l.length c] 71), PS l (A, c)]) (fun w h => allCons (fact0 h).1 (allCons (fact0 h).2 allNil)) ?_
  repeat (first | (with_reducible first | refine Pw.seq ?_ | refine Pw.region ?_ | refine Pw.nil ?_ | refine Pw.then_ ?_ | refine Pw.skip ?_ | refine Pw.block ?_ | refine Pw.exit ?_ | refine Pw.inX ?_ | refine Pw.inN ?_ | refine Pw.inR ?_ | refine Pw.thenX ?_ | refine Pw.thenR ?_ | refine Pw.ret ?_) | refine Pw.list (Pw.pure rfl rfl rfl ?_) | refine Pw.inY rfl ?_ | refine Pw.list (Pw.off rfl rfl ?_) | refine Pw.condT rfl ?_ | refine Pw.condF rfl ?_ | refine Pw.list (Pw.box rfl rfl rfl rfl (fun _ => ?_)) | refine Pw.list (Pw.alloc rfl rfl rfl rfl rfl (fun _ => ?_)) | refine Pw.list (Pw.build rfl rfl rfl rfl ?_) | refine Pw.list (Pw.ld rfl inferInstance rfl rfl rfl ?_) | refine Pw.list (Pw.sto rfl rfl inferInstance rfl rfl rfl rfl rfl inferInstance rfl ?_))
  refine Pw.loopY (NN := l.length) hst hpre (fun i => [(0, .func (.yield r) #[] #[]), (1, .pointer (some ⟨g, 0, none⟩)), (5, .slice A l.length c), (6, .int .i64 l.length), (7, .int .i64 i)]) h0 ⟨rfl, rfl, rfl, rfl, rfl, trivial⟩ ?_
  intro i w1 hi hJ
  refine Pw.facts (G' := [fun W => W.heap[g]? = some (row [.slice A l.length c] 71), PS l (A, c)]) (fun w h => allCons (fact0 h).1 (allCons (fact0 h).2 allNil)) ?_
  repeat (first | (with_reducible first | refine Pw.seq ?_ | refine Pw.region ?_ | refine Pw.nil ?_ | refine Pw.then_ ?_ | refine Pw.skip ?_ | refine Pw.block ?_ | refine Pw.exit ?_ | refine Pw.inX ?_ | refine Pw.inN ?_ | refine Pw.inR ?_ | refine Pw.thenX ?_ | refine Pw.thenR ?_ | refine Pw.ret ?_) | refine Pw.list (Pw.pure rfl rfl rfl ?_) | refine Pw.inY rfl ?_ | refine Pw.list (Pw.off rfl rfl ?_) | refine Pw.condT rfl ?_ | refine Pw.condF rfl ?_)
  refine Pw.condD rfl (fun c3 => ?_) (fun c3 => ?_)
  · obtain ⟨p, hp, hm⟩ := get_at (show i < l.length by omega)
    repeat (first | (with_reducible first | refine Pw.seq ?_ | refine Pw.region ?_ | refine Pw.nil ?_ | refine Pw.then_ ?_ | refine Pw.skip ?_ | refine Pw.block ?_ | refine Pw.exit ?_ | refine Pw.inX ?_ | refine Pw.inN ?_ | refine Pw.inR ?_ | refine Pw.thenX ?_ | refine Pw.thenR ?_ | refine Pw.ret ?_) | refine Pw.list (Pw.pure rfl rfl rfl ?_) | refine Pw.inY rfl ?_ | refine Pw.list (Pw.off rfl rfl ?_) | refine Pw.condT rfl ?_ | refine Pw.condF rfl ?_)
    refine Pw.list (Pw.index rfl rfl rfl rfl (Int.natCast_nonneg i) c3 (fun w h => (fact1 h).has (Int.natCast_nonneg i) c3) rfl rfl ?_)
    rintro ad rfl
    refine Pw.list (Pw.loadR p rfl inferInstance rfl (by rw [Int.toNat_natCast]; exact hp) (by kernel_rfl) rfl rfl ?_)
    refine Pw.re (d := 10) (v' := ptV p) rfl rfl ?_
    refine Pw.list (Pw.alloc rfl rfl rfl rfl rfl (fun g4 => ?_))
    refine Pw.list (Pw.sto rfl rfl inferInstance rfl rfl rfl rfl rfl inferInstance rfl ?_)
    refine Pw.nil (Pw.then_ (Pw.seq (Pw.regionY ?_)))
    refine Pw.listI rfl (Pw.pure rfl rfl rfl ?_)
    refine Pw.listI rfl (Pw.ld rfl inferInstance rfl rfl rfl ?_)
    have hY' := hY
    refine Pw.yield hY hst hpre (show i < l.length by omega) hJ rfl (by rw [gtP_at hp]; rfl) rfl rfl ?_
    intro w3 hJ3
    refine Pw.listI rfl (Pw.pure rfl rfl rfl ?_)
    refine Pw.nilI ?_
    repeat (first | (with_reducible first | refine Pw.seq ?_ | refine Pw.region ?_ | refine Pw.nil ?_ | refine Pw.then_ ?_ | refine Pw.skip ?_ | refine Pw.block ?_ | refine Pw.exit ?_ | refine Pw.inX ?_ | refine Pw.inN ?_ | refine Pw.inR ?_ | refine Pw.thenX ?_ | refine Pw.thenR ?_ | refine Pw.ret ?_) | refine Pw.list (Pw.pure rfl rfl rfl ?_) | refine Pw.inY rfl ?_ | refine Pw.list (Pw.off rfl rfl ?_) | refine Pw.condT rfl ?_ | refine Pw.condF rfl ?_)
    refine Pw.re (d := 7) (v' := .int .i64 ((i + 1 : Nat) : Int)) rfl (congrArg (Value.int .i64) (i64s (by omega) htop)) ?_
    exact Pw.againY hst (i + 1) (by omega) (by omega) hJ3 ⟨rfl, rfl, rfl, rfl, rfl, trivial⟩
  · obtain rfl : i = l.length := by omega
    repeat (first | (with_reducible first | refine Pw.seq ?_ | refine Pw.region ?_ | refine Pw.nil ?_ | refine Pw.then_ ?_ | refine Pw.skip ?_ | refine Pw.block ?_ | refine Pw.exit ?_ | refine Pw.inX ?_ | refine Pw.inN ?_ | refine Pw.inR ?_ | refine Pw.thenX ?_ | refine Pw.thenR ?_ | refine Pw.ret ?_) | refine Pw.list (Pw.pure rfl rfl rfl ?_) | refine Pw.inY rfl ?_ | refine Pw.list (Pw.off rfl rfl ?_) | refine Pw.condT rfl ?_ | refine Pw.condF rfl ?_)
    exact Pw.retY hst hJ .nil
end Go.Proofs.Wk
/- Parts of exposures: walks of slices.AppendSeq, Collect over slices.Values. -/
namespace Go.Proofs.Wk
open Go.RowKit
set_option maxRecDepth 100000
set_option maxHeartbeats 1000000
attribute [local irreducible] Pw OpG
set_option linter.unusedVariables false
set_option linter.unusedSimpArgs false
theorem enters_values : ∀ args w, (callFunc 116 args).run Try.prog w = .ok (.enter 116 args) w := enters_callB (by kernel_rfl)
abbrev vfP (g : Nat) : Value := .func (.func 116) #[] #[.pointer (some ⟨g, 0, none⟩)]
abbrev preP (l : List Pt) (x : Option Addr × Nat) (g : Nat) (W : World) : Prop := W.heap[g]? = some (row [psV l x] 71) ∧ PS l x W
theorem AppendSeq_ct (l : List Pt) (x : Option Addr × Nat) (g : Nat) (hl : l.length ≤ 1000000) :
    CtL Try.prog 126 #[.slice none 0 0, vfP g] (preP l x g) (fun q : Gr => gv q l.length) (fun q => gOk q (cellsP l) l.length 2) (fun q => gL q (cellsP l) 81) (fun _ _ => True) := by
  have htop : l.length ≤ 9223372036854775807 := by omega
  refine CtL.startM Try.func126 rfl rfl (slots_of rfl slots2) (fun D w0 => ?_)
  repeat (first | (with_reducible first | refine Pw.seq ?_ | refine Pw.region ?_ | refine Pw.nil ?_ | refine Pw.then_ ?_ | refine Pw.skip ?_ | refine Pw.block ?_ | refine Pw.exit ?_ | refine Pw.inX ?_ | refine Pw.inN ?_ | refine Pw.inR ?_ | refine Pw.thenX ?_ | refine Pw.thenR ?_ | refine Pw.ret ?_) | refine Pw.list (Pw.pure rfl rfl rfl ?_) | refine Pw.inY rfl ?_ | refine Pw.list (Pw.off rfl rfl ?_) | refine Pw.condT rfl ?_ | refine Pw.condF rfl ?_)
  refine Pw.list (Pw.box rfl rfl rfl rfl (fun g2 => ?_))
  repeat (first | (with_reducible first | refine Pw.seq ?_ | refine Pw.region ?_ | refine Pw.nil ?_ | refine Pw.then_ ?_ | refine Pw.skip ?_ | refine Pw.block ?_ | refine Pw.exit ?_ | refine Pw.inX ?_ | refine Pw.inN ?_ | refine Pw.inR ?_ | refine Pw.thenX ?_ | refine Pw.thenR ?_ | refine Pw.ret ?_) | refine Pw.list (Pw.pure rfl rfl rfl ?_) | refine Pw.inY rfl ?_ | refine Pw.list (Pw.off rfl rfl ?_) | refine Pw.condT rfl ?_ | refine Pw.condF rfl ?_ | refine Pw.list (Pw.box rfl rfl rfl rfl (fun _ => ?_)) | refine Pw.list (Pw.alloc rfl rfl rfl rfl rfl (fun _ => ?_)) | refine Pw.list (Pw.build rfl rfl rfl rfl ?_) | refine Pw.list (Pw.ld rfl inferInstance rfl rfl rfl ?_) | refine Pw.list (Pw.sto rfl rfl inferInstance rfl rfl rfl rfl rfl inferInstance rfl ?_))
  refine Pw.rangeFunc (σ := Gr) (τ := Nat) (fun i q => gOk q (cellsP (l.take i)) i 2) (fun i q => ⟨gL q (cellsP (l.take i)) 81 ++ [⟨g2, row [gv q i] 71⟩], [preP l x g]⟩) none (fun _ _ _ => True)
    (fun i q g5 => ⟨[(2, .pointer (some ⟨g2, 0, none⟩)), (5, .pointer (some ⟨g5, 0, none⟩))], gL q (cellsP (l.take i)) 81 ++ [⟨g2, row [gv q i] 71⟩], [fun W => W.heap[g5]? = some (row (encP (l.getD i (0, 0))) 81), preP l x g]⟩)
    rfl enters_values (Values_it l x g htop) rfl ⟨rfl, rfl⟩ rfl (fun w h => h) (fun i q hq w h => fact0 h) ?_ ?_ ?_
  · intro i q T rr hi hq
    obtain ⟨p, hp, _⟩ := get_at hi
    rw [gtP_at hp]
    refine Pw.regionI rfl ?_
    refine Pw.list (Pw.alloc rfl rfl rfl rfl rfl (fun g5 => ?_))
    refine Pw.list (Pw.sto rfl rfl inferInstance rfl rfl rfl rfl rfl inferInstance rfl ?_)
    refine Pw.nil (Pw.then_ (freeHead ?_))
    exact Pw.arriveR g5 trivial ⟨rfl, rfl, trivial⟩ rfl (fun w h => allCons (by rw [List.getD_eq_getElem?_getD, hp]; exact fact0 h) (allTail h))
  · intro i q g5 T rr hi hq _
    obtain ⟨p, hp, _⟩ := get_at hi
    have eD : l.getD i (0, 0) = p := by rw [List.getD_eq_getElem?_getD, hp]; rfl
    dsimp only at hq ⊢
    rw [eD]
    refine Pw.eqL (L' := gL q (cellsP (l.take i)) 81 ++ (⟨g2, row [gv q i] 71⟩ :: T)) (by simp) ?_
    refine Pw.blockI (Pw.regionI rfl ?_)
    refine Pw.list (Pw.ld rfl inferInstance rfl rfl rfl ?_)
    refine Pw.list (Pw.ld rfl inferInstance rfl rfl rfl ?_)
    refine Pw.re (d := 9) (v' := ptV p) rfl rfl ?_
    refine Pw.list (Pw.lit12 rfl rfl rfl rfl rfl rfl rfl rfl rfl (fun g1 => freeHead ?_))
    refine Pw.list (Pw.push (s := q) (m := i) (news := encP p) (L0 := ⟨g2, row [gv q i] 71⟩ :: T) rfl rfl rfl rfl rfl rfl rfl hq rfl (fun u hu => cellsP_one (l := [p]) u (by simpa [cellsP] using hu)) (fun w hs j u hu => by
      have h1 := fact0 hs.all
      rw [add_none, cell_of_blk h1]
      simpa [encP] using hu) (by omega) (by simp only [maxLen]; omega) (by show (i + 1) * 16 ≤ _; omega) rfl rfl (fun q' hq' => ?_))
    refine Pw.list (Pw.sto (vs := [gv q' (i + 1)]) rfl rfl inferInstance (by cases q' <;> rfl) rfl rfl (by cases q' <;> rfl) rfl inferInstance rfl ?_)
    refine Pw.nil ?_
    have e1 : cellsP (l.take (i + 1)) = cellsP (l.take i) ++ encP p := by rw [take_snoc hp, cellsP_snoc]
    refine Pw.inN (Pw.roundEnd ?_)
    refine Pw.eqL (L' := (gL q' (cellsP (l.take (i + 1))) 81 ++ [⟨g2, row [gv q' (i + 1)] 71⟩]) ++ T) (by simp [e1]) ?_
    refine Pw.arriveE (J := fun q => gOk q (cellsP (l.take (i + 1))) (i + 1) 2) (I := fun q => ⟨gL q (cellsP (l.take (i + 1))) 81 ++ [⟨g2, row [gv q (i + 1)] 71⟩], [preP l x g]⟩) q' ?_ rfl ?_
    · show gOk q' _ _ _; rw [e1]; exact hq'
    · exact fun w h => allCons (hv w h) allNil
  · intro q Dm hq
    dsimp only at hq ⊢
    rw [List.take_length] at hq ⊢
    refine Pw.tail (i := 4) rfl ?_
    refine Pw.list (Pw.ld rfl inferInstance rfl rfl rfl ?_)
    refine Pw.list (Pw.pure rfl rfl rfl ?_)
    refine Pw.nil ?_
    exact Pw.retLM (x := q) .head (.cons _ (List.sublist_append_left _ _)) (.tmp rfl .nil) rfl hq (fun w h => trivial)
theorem Collect_ct (l : List Pt) (x : Option Addr × Nat) (g : Nat) (hl : l.length ≤ 1000000) :
    CtL Try.prog 114 #[vfP g] (preP l x g) (fun q : Gr => gv q l.length) (fun q => gOk q (cellsP l) l.length 2) (fun q => gL q (cellsP l) 81) (fun _ _ => True) := by
  refine CtL.start Try.func114 rfl rfl (slots_of rfl slots1) (fun D w0 => ?_)
  repeat (first | (with_reducible first | refine Pw.seq ?_ | refine Pw.region ?_ | refine Pw.nil ?_ | refine Pw.then_ ?_ | refine Pw.skip ?_ | refine Pw.block ?_ | refine Pw.exit ?_ | refine Pw.inX ?_ | refine Pw.inN ?_ | refine Pw.inR ?_ | refine Pw.thenX ?_ | refine Pw.thenR ?_ | refine Pw.ret ?_) | refine Pw.list (Pw.pure rfl rfl rfl ?_) | refine Pw.inY rfl ?_ | refine Pw.list (Pw.off rfl rfl ?_) | refine Pw.condT rfl ?_ | refine Pw.condF rfl ?_)
  refine Pw.list (Pw.callL (AppendSeq_ct l x g hl) rfl rfl rfl (by kernel_rfl) rfl rfl (fun w h => fact0 h) ?_)
  intro q hq
  repeat (first | (with_reducible first | refine Pw.seq ?_ | refine Pw.region ?_ | refine Pw.nil ?_ | refine Pw.then_ ?_ | refine Pw.skip ?_ | refine Pw.block ?_ | refine Pw.exit ?_ | refine Pw.inX ?_ | refine Pw.inN ?_ | refine Pw.inR ?_ | refine Pw.thenX ?_ | refine Pw.thenR ?_ | refine Pw.ret ?_) | refine Pw.list (Pw.pure rfl rfl rfl ?_) | refine Pw.inY rfl ?_ | refine Pw.list (Pw.off rfl rfl ?_) | refine Pw.condT rfl ?_ | refine Pw.condF rfl ?_)
  exact Pw.retL (x := q) (List.sublist_append_left _ _) (.tmp rfl .nil) rfl hq (fun w h => trivial)
end Go.Proofs.Wk
/- Walks of layer 10 (graph): rising, money.Add. -/
namespace Go.Proofs.Wk
open Go.RowKit
set_option maxRecDepth 100000
attribute [local irreducible] Pw OpG
set_option linter.unusedVariables false
set_option linter.unusedSimpArgs false
theorem rising_ct (l : List Int) (x : Option Addr × Nat) : Ct Try.prog 59 #[sl l x] (I1 l x) (fun _ : Unit => .bool (risB l)) Tt (fun _ _ => True) := by
  obtain ⟨A, c⟩ := x
  refine Ct.start Try.func59 rfl rfl (slots_of rfl slots1) (fun D w0 => ?_)
  refine Pw.use (p := l.length ≤ maxLen) (fun w h => (fact0 h).top) (fun htop => ?_)
  have htop := top63 htop
  repeat (first | (with_reducible first | refine Pw.seq ?_ | refine Pw.region ?_ | refine Pw.nil ?_ | refine Pw.then_ ?_ | refine Pw.skip ?_ | refine Pw.block ?_ | refine Pw.exit ?_ | refine Pw.inX ?_ | refine Pw.inN ?_ | refine Pw.inR ?_ | refine Pw.thenX ?_ | refine Pw.thenR ?_ | refine Pw.ret ?_) | refine Pw.list (Pw.pure rfl rfl rfl ?_) | refine Pw.inY rfl ?_ | refine Pw.list (Pw.off rfl rfl ?_) | refine Pw.condT rfl ?_ | refine Pw.condF rfl ?_)
  refine Pw.loopJ (σ := Nat) (fun i => i ≤ l.length ∧ ∀ j, j < i → okAt l j = true) (fun i => ⟨[(0, .slice A l.length c), (5, .slice A l.length c), (6, .int .i64 l.length), (7, .int .i64 i)], [], [Ints .i64 l A c]⟩) (fun i => l.length - i) 0 ⟨Nat.zero_le _, fun j hj => absurd hj (Nat.not_lt_zero j)⟩ (Pw.enter ⟨rfl, rfl, rfl, rfl, trivial⟩ (fun _ h => h)) ?_
  rintro i ⟨hi, hj⟩
  dsimp only at hi hj ⊢
  repeat (first | (with_reducible first | refine Pw.seq ?_ | refine Pw.region ?_ | refine Pw.nil ?_ | refine Pw.then_ ?_ | refine Pw.skip ?_ | refine Pw.block ?_ | refine Pw.exit ?_ | refine Pw.inX ?_ | refine Pw.inN ?_ | refine Pw.inR ?_ | refine Pw.thenX ?_ | refine Pw.thenR ?_ | refine Pw.ret ?_) | refine Pw.list (Pw.pure rfl rfl rfl ?_) | refine Pw.inY rfl ?_ | refine Pw.list (Pw.off rfl rfl ?_) | refine Pw.condT rfl ?_ | refine Pw.condF rfl ?_)
  refine Pw.condD rfl (fun c3 => ?_) (fun c3 => ?_)
  · repeat (first | (with_reducible first | refine Pw.seq ?_ | refine Pw.region ?_ | refine Pw.nil ?_ | refine Pw.then_ ?_ | refine Pw.skip ?_ | refine Pw.block ?_ | refine Pw.exit ?_ | refine Pw.inX ?_ | refine Pw.inN ?_ | refine Pw.inR ?_ | refine Pw.thenX ?_ | refine Pw.thenR ?_ | refine Pw.ret ?_) | refine Pw.list (Pw.pure rfl rfl rfl ?_) | refine Pw.inY rfl ?_ | refine Pw.list (Pw.off rfl rfl ?_) | refine Pw.condT rfl ?_ | refine Pw.condF rfl ?_)
    refine Pw.list (Pw.index rfl rfl rfl rfl (Int.natCast_nonneg i) c3 (fun w h => (fact0 h).has (Int.natCast_nonneg i) c3) rfl rfl ?_)
    rintro ad rfl
    refine Pw.list (Pw.load1 rfl rfl (fun w hs => by first | exact (fact0 hs.all).cell (by first | assumption | omega) (by first | assumption | omega) | exact (fact1 hs.all).cell (by first | assumption | omega) (by first | assumption | omega) | exact (fact2 hs.all).cell (by first | assumption | omega) (by first | assumption | omega) | exact (fact3 hs.all).cell (by first | assumption | omega) (by first | assumption | omega)) rfl rfl ?_)
    repeat (first | (with_reducible first | refine Pw.seq ?_ | refine Pw.region ?_ | refine Pw.nil ?_ | refine Pw.then_ ?_ | refine Pw.skip ?_ | refine Pw.block ?_ | refine Pw.exit ?_ | refine Pw.inX ?_ | refine Pw.inN ?_ | refine Pw.inR ?_ | refine Pw.thenX ?_ | refine Pw.thenR ?_ | refine Pw.ret ?_) | refine Pw.list (Pw.pure rfl rfl rfl ?_) | refine Pw.inY rfl ?_ | refine Pw.list (Pw.off rfl rfl ?_) | refine Pw.condT rfl ?_ | refine Pw.condF rfl ?_)
    refine Pw.split 14 rfl (fun c4 => ?_) (fun c4 => ?_)
    · repeat (first | (with_reducible first | refine Pw.seq ?_ | refine Pw.region ?_ | refine Pw.nil ?_ | refine Pw.then_ ?_ | refine Pw.skip ?_ | refine Pw.block ?_ | refine Pw.exit ?_ | refine Pw.inX ?_ | refine Pw.inN ?_ | refine Pw.inR ?_ | refine Pw.thenX ?_ | refine Pw.thenR ?_ | refine Pw.ret ?_) | refine Pw.list (Pw.pure rfl rfl rfl ?_) | refine Pw.inY rfl ?_ | refine Pw.list (Pw.off rfl rfl ?_) | refine Pw.condT rfl ?_ | refine Pw.condF rfl ?_)
      exact Pw.ret_ (x := ()) (.tmp rfl .nil) (congrArg Value.bool (allB_false (i := i) (by omega) (okAt_no (by omega))).symm) trivial (fun w h => by trivial)
    repeat (first | (with_reducible first | refine Pw.seq ?_ | refine Pw.region ?_ | refine Pw.nil ?_ | refine Pw.then_ ?_ | refine Pw.skip ?_ | refine Pw.block ?_ | refine Pw.exit ?_ | refine Pw.inX ?_ | refine Pw.inN ?_ | refine Pw.inR ?_ | refine Pw.thenX ?_ | refine Pw.thenR ?_ | refine Pw.ret ?_) | refine Pw.list (Pw.pure rfl rfl rfl ?_) | refine Pw.inY rfl ?_ | refine Pw.list (Pw.off rfl rfl ?_) | refine Pw.condT rfl ?_ | refine Pw.condF rfl ?_)
    refine Pw.split 18 rfl (fun c5 => ?_) (fun c5 => ?_)
    · repeat (first | (with_reducible first | refine Pw.seq ?_ | refine Pw.region ?_ | refine Pw.nil ?_ | refine Pw.then_ ?_ | refine Pw.skip ?_ | refine Pw.block ?_ | refine Pw.exit ?_ | refine Pw.inX ?_ | refine Pw.inN ?_ | refine Pw.inR ?_ | refine Pw.thenX ?_ | refine Pw.thenR ?_ | refine Pw.ret ?_) | refine Pw.list (Pw.pure rfl rfl rfl ?_) | refine Pw.inY rfl ?_ | refine Pw.list (Pw.off rfl rfl ?_) | refine Pw.condT rfl ?_ | refine Pw.condF rfl ?_)
      exact Pw.ret_ (x := ()) (.tmp rfl .nil) (congrArg Value.bool (allB_false (i := i) (by omega) (okAt_no (by omega))).symm) trivial (fun w h => by trivial)
    repeat (first | (with_reducible first | refine Pw.seq ?_ | refine Pw.region ?_ | refine Pw.nil ?_ | refine Pw.then_ ?_ | refine Pw.skip ?_ | refine Pw.block ?_ | refine Pw.exit ?_ | refine Pw.inX ?_ | refine Pw.inN ?_ | refine Pw.inR ?_ | refine Pw.thenX ?_ | refine Pw.thenR ?_ | refine Pw.ret ?_) | refine Pw.list (Pw.pure rfl rfl rfl ?_) | refine Pw.inY rfl ?_ | refine Pw.list (Pw.off rfl rfl ?_) | refine Pw.condT rfl ?_ | refine Pw.condF rfl ?_)
    refine Pw.split 21 rfl (fun c6 => ?_) (fun c6 => ?_)
    · repeat (first | (with_reducible first | refine Pw.seq ?_ | refine Pw.region ?_ | refine Pw.nil ?_ | refine Pw.then_ ?_ | refine Pw.skip ?_ | refine Pw.block ?_ | refine Pw.exit ?_ | refine Pw.inX ?_ | refine Pw.inN ?_ | refine Pw.inR ?_ | refine Pw.thenX ?_ | refine Pw.thenR ?_ | refine Pw.ret ?_) | refine Pw.list (Pw.pure rfl rfl rfl ?_) | refine Pw.inY rfl ?_ | refine Pw.list (Pw.off rfl rfl ?_) | refine Pw.condT rfl ?_ | refine Pw.condF rfl ?_)
      refine Pw.re (d := 25) (v' := .int .i64 ((i : Int) - 1)) rfl (congrArg (Value.int .i64) (wi64 (by omega) (by omega))) ?_
      refine Pw.list (Pw.indexS rfl rfl rfl rfl (by omega) (by omega) rfl rfl ?_)
      refine Pw.list (Pw.load1 rfl rfl (fun w hs => by first | exact (fact0 hs.all).cell (by first | assumption | omega) (by first | assumption | omega) | exact (fact1 hs.all).cell (by first | assumption | omega) (by first | assumption | omega) | exact (fact2 hs.all).cell (by first | assumption | omega) (by first | assumption | omega) | exact (fact3 hs.all).cell (by first | assumption | omega) (by first | assumption | omega)) rfl rfl ?_)
      repeat (first | (with_reducible first | refine Pw.seq ?_ | refine Pw.region ?_ | refine Pw.nil ?_ | refine Pw.then_ ?_ | refine Pw.skip ?_ | refine Pw.block ?_ | refine Pw.exit ?_ | refine Pw.inX ?_ | refine Pw.inN ?_ | refine Pw.inR ?_ | refine Pw.thenX ?_ | refine Pw.thenR ?_ | refine Pw.ret ?_) | refine Pw.list (Pw.pure rfl rfl rfl ?_) | refine Pw.inY rfl ?_ | refine Pw.list (Pw.off rfl rfl ?_) | refine Pw.condT rfl ?_ | refine Pw.condF rfl ?_)
      refine Pw.condD rfl (fun c7 => ?_) (fun c7 => ?_)
      · repeat (first | (with_reducible first | refine Pw.seq ?_ | refine Pw.region ?_ | refine Pw.nil ?_ | refine Pw.then_ ?_ | refine Pw.skip ?_ | refine Pw.block ?_ | refine Pw.exit ?_ | refine Pw.inX ?_ | refine Pw.inN ?_ | refine Pw.inR ?_ | refine Pw.thenX ?_ | refine Pw.thenR ?_ | refine Pw.ret ?_) | refine Pw.list (Pw.pure rfl rfl rfl ?_) | refine Pw.inY rfl ?_ | refine Pw.list (Pw.off rfl rfl ?_) | refine Pw.condT rfl ?_ | refine Pw.condF rfl ?_)
        exact Pw.ret_ (x := ()) (.tmp rfl .nil) (congrArg Value.bool (allB_false (i := i) (by omega) (okAt_no (by omega))).symm) trivial (fun w h => by trivial)
      repeat (first | (with_reducible first | refine Pw.seq ?_ | refine Pw.region ?_ | refine Pw.nil ?_ | refine Pw.then_ ?_ | refine Pw.skip ?_ | refine Pw.block ?_ | refine Pw.exit ?_ | refine Pw.inX ?_ | refine Pw.inN ?_ | refine Pw.inR ?_ | refine Pw.thenX ?_ | refine Pw.thenR ?_ | refine Pw.ret ?_) | refine Pw.list (Pw.pure rfl rfl rfl ?_) | refine Pw.inY rfl ?_ | refine Pw.list (Pw.off rfl rfl ?_) | refine Pw.condT rfl ?_ | refine Pw.condF rfl ?_)
      refine Pw.re (d := 7) (v' := .int .i64 ((i + 1 : Nat) : Int)) rfl (congrArg (Value.int .i64) (i64s (by omega) htop)) ?_
      exact Pw.again (i + 1) ⟨by omega, fun j h => by
        rcases Nat.lt_or_ge j i with h' | h'
        · exact hj j h'
        · obtain rfl : j = i := by omega
          exact okAt_iff.2 (by omega)⟩ (by show l.length - (i + 1) < l.length - i; omega) ⟨rfl, rfl, rfl, rfl, trivial⟩ rfl (fun w h => h)
    · repeat (first | (with_reducible first | refine Pw.seq ?_ | refine Pw.region ?_ | refine Pw.nil ?_ | refine Pw.then_ ?_ | refine Pw.skip ?_ | refine Pw.block ?_ | refine Pw.exit ?_ | refine Pw.inX ?_ | refine Pw.inN ?_ | refine Pw.inR ?_ | refine Pw.thenX ?_ | refine Pw.thenR ?_ | refine Pw.ret ?_) | refine Pw.list (Pw.pure rfl rfl rfl ?_) | refine Pw.inY rfl ?_ | refine Pw.list (Pw.off rfl rfl ?_) | refine Pw.condT rfl ?_ | refine Pw.condF rfl ?_)
      refine Pw.re (d := 7) (v' := .int .i64 ((i + 1 : Nat) : Int)) rfl (congrArg (Value.int .i64) (i64s (by omega) htop)) ?_
      exact Pw.again (i + 1) ⟨by omega, fun j h => by
        rcases Nat.lt_or_ge j i with h' | h'
        · exact hj j h'
        · obtain rfl : j = i := by omega
          exact okAt_iff.2 (by omega)⟩ (by show l.length - (i + 1) < l.length - i; omega) ⟨rfl, rfl, rfl, rfl, trivial⟩ rfl (fun w h => h)
  · repeat (first | (with_reducible first | refine Pw.seq ?_ | refine Pw.region ?_ | refine Pw.nil ?_ | refine Pw.then_ ?_ | refine Pw.skip ?_ | refine Pw.block ?_ | refine Pw.exit ?_ | refine Pw.inX ?_ | refine Pw.inN ?_ | refine Pw.inR ?_ | refine Pw.thenX ?_ | refine Pw.thenR ?_ | refine Pw.ret ?_) | refine Pw.list (Pw.pure rfl rfl rfl ?_) | refine Pw.inY rfl ?_ | refine Pw.list (Pw.off rfl rfl ?_) | refine Pw.condT rfl ?_ | refine Pw.condF rfl ?_)
    exact Pw.ret_ (x := ()) (.tmp rfl .nil) (congrArg Value.bool (allB_true (fun j h => hj j (by omega))).symm) trivial (fun w h => by trivial)
theorem mAdd_ct (a b : Int) (ha : 0 ≤ a ∧ a ≤ 18446744073709551615) (hb : 0 ≤ b ∧ b ≤ 18446744073709551615) :
    Ct Try.prog 60 #[.int .u64 a, .int .u64 b] (fun _ => True) (fun _ : Unit => .tuple #[.int .u64 (if a + b ≤ 18446744073709551615 then a + b else 0), .int .i64 (if a + b ≤ 18446744073709551615 then 0 else 3)]) Tt (fun _ _ => True) := by
  refine Ct.start Try.func60 rfl rfl (slots_of rfl slots2) (fun D w0 => ?_)
  repeat (first | (with_reducible first | refine Pw.seq ?_ | refine Pw.region ?_ | refine Pw.nil ?_ | refine Pw.then_ ?_ | refine Pw.skip ?_ | refine Pw.block ?_ | refine Pw.exit ?_ | refine Pw.inX ?_ | refine Pw.inN ?_ | refine Pw.inR ?_ | refine Pw.thenX ?_ | refine Pw.thenR ?_ | refine Pw.ret ?_) | refine Pw.list (Pw.pure rfl rfl rfl ?_) | refine Pw.inY rfl ?_ | refine Pw.list (Pw.off rfl rfl ?_) | refine Pw.condT rfl ?_ | refine Pw.condF rfl ?_)
  refine Pw.condD rfl (fun c1 => ?_) (fun c1 => ?_)
  · rw [wu64] at c1
    have h : a + b ≤ 18446744073709551615 := by omega
    rw [if_pos h, if_pos h]
    repeat (first | (with_reducible first | refine Pw.seq ?_ | refine Pw.region ?_ | refine Pw.nil ?_ | refine Pw.then_ ?_ | refine Pw.skip ?_ | refine Pw.block ?_ | refine Pw.exit ?_ | refine Pw.inX ?_ | refine Pw.inN ?_ | refine Pw.inR ?_ | refine Pw.thenX ?_ | refine Pw.thenR ?_ | refine Pw.ret ?_) | refine Pw.list (Pw.pure rfl rfl rfl ?_) | refine Pw.inY rfl ?_ | refine Pw.list (Pw.off rfl rfl ?_) | refine Pw.condT rfl ?_ | refine Pw.condF rfl ?_)
    exact Pw.ret_ (x := ()) (.tmp rfl (.tmp rfl .nil)) (by rw [wu (by omega) h]; rfl) trivial (fun w h => by trivial)
  · rw [wu64] at c1
    have h : ¬ a + b ≤ 18446744073709551615 := by omega
    rw [if_neg h, if_neg h]
    repeat (first | (with_reducible first | refine Pw.seq ?_ | refine Pw.region ?_ | refine Pw.nil ?_ | refine Pw.then_ ?_ | refine Pw.skip ?_ | refine Pw.block ?_ | refine Pw.exit ?_ | refine Pw.inX ?_ | refine Pw.inN ?_ | refine Pw.inR ?_ | refine Pw.thenX ?_ | refine Pw.thenR ?_ | refine Pw.ret ?_) | refine Pw.list (Pw.pure rfl rfl rfl ?_) | refine Pw.inY rfl ?_ | refine Pw.list (Pw.off rfl rfl ?_) | refine Pw.condT rfl ?_ | refine Pw.condF rfl ?_)
    exact Pw.ret_ (x := ()) (.tmp rfl (.tmp rfl .nil)) rfl trivial (fun w h => by trivial)
end Go.Proofs.Wk
/- Exposures: walks of money.Sum, pages.Stakes, Formed, Total. -/
namespace Go.Proofs.Wk
open Go.RowKit
set_option maxRecDepth 100000
set_option maxHeartbeats 1000000
attribute [local irreducible] Pw OpG
set_option linter.unusedVariables false
set_option linter.unusedSimpArgs false
structure Ex where
  id : Int
  com : Int
  own : Int
  oth : List Pt
  z : Option Addr × Nat
abbrev exV (x : Ex) : Value := .agg #[.int .i64 x.id, .int .u64 x.com, .int .u64 x.own, psV x.oth x.z]
abbrev exL (x : Ex) : List Value := [.int .i64 x.id, .int .u64 x.com, .int .u64 x.own, psV x.oth x.z]
abbrev exF (x : Ex) : World → Prop := PS x.oth x.z
def U64 (n : Int) : Prop := 0 ≤ n ∧ n ≤ 18446744073709551615
structure ExW (x : Ex) : Prop where
  com : U64 x.com
  own : U64 x.own
  oth : ∀ p ∈ x.oth, U64 p.2
def lsum : List Int → Int
  | [] => 0
  | n :: r => n + lsum r
theorem lsum_append (a b : List Int) : lsum (a ++ b) = lsum a + lsum b := by
  induction a with
  | nil => simp [lsum]
  | cons x r ih => simp only [List.cons_append, lsum, ih]; omega
theorem lsum_snoc (a : List Int) (n : Int) : lsum (a ++ [n]) = lsum a + n := by rw [lsum_append]; simp [lsum]
theorem lsum_nonneg {l : List Int} (h : ∀ n ∈ l, U64 n) : 0 ≤ lsum l := by
  induction l with
  | nil => simp [lsum]
  | cons x r ih =>
    have h1 := (h x (List.mem_cons_self ..)).1
    have h2 := ih (fun v hv => h v (List.mem_cons_of_mem _ hv))
    simp only [lsum]; omega
theorem lsum_take_le {l : List Int} (h : ∀ n ∈ l, U64 n) (k : Nat) : lsum (l.take k) ≤ lsum l := by
  have e : l = l.take k ++ l.drop k := (List.take_append_drop k l).symm
  have h2 := lsum_nonneg (l := l.drop k) (fun n hn => h n (List.mem_of_mem_drop hn))
  have h3 : lsum l = lsum (l.take k) + lsum (l.drop k) := by rw [← lsum_append, List.take_append_drop]
  omega
def sumM (l : List Int) : Int × Int := if lsum l ≤ 18446744073709551615 then (lsum l, 0) else (0, 3)
abbrev U1 (l : List Int) (x : Option Addr × Nat) : World → Prop := Ints .u64 l x.1 x.2
theorem mSum_ct (l : List Int) (x : Option Addr × Nat) (hb : ∀ n ∈ l, U64 n) : Ct Try.prog 96 #[sl l x] (U1 l x) (fun _ : Unit => .tuple #[.int .u64 (sumM l).1, .int .i64 (sumM l).2]) Tt (fun _ _ => True) := by
  obtain ⟨A, c⟩ := x
  refine Ct.start Try.func96 rfl rfl (slots_of rfl slots1) (fun D w0 => ?_)
  refine Pw.use (p := l.length ≤ maxLen) (fun w h => (fact0 h).top) (fun htop => ?_)
  have htop := top63 htop
  repeat (first | (with_reducible first | refine Pw.seq ?_ | refine Pw.region ?_ | refine Pw.nil ?_ | refine Pw.then_ ?_ | refine Pw.skip ?_ | refine Pw.block ?_ | refine Pw.exit ?_ | refine Pw.inX ?_ | refine Pw.inN ?_ | refine Pw.inR ?_ | refine Pw.thenX ?_ | refine Pw.thenR ?_ | refine Pw.ret ?_) | refine Pw.list (Pw.pure rfl rfl rfl ?_) | refine Pw.inY rfl ?_ | refine Pw.list (Pw.off rfl rfl ?_) | refine Pw.condT rfl ?_ | refine Pw.condF rfl ?_)
  refine Pw.loopJ (σ := Nat) (fun i => i ≤ l.length ∧ lsum (l.take i) ≤ 18446744073709551615) (fun i => ⟨[(4, .int .u64 (lsum (l.take i))), (7, .slice A l.length c), (8, .int .i64 l.length), (9, .int .i64 i)], [], [Ints .u64 l A c]⟩) (fun i => l.length - i) 0 ⟨Nat.zero_le _, by simp [lsum]⟩ (Pw.enter ⟨rfl, rfl, rfl, rfl, trivial⟩ (fun _ h => h)) ?_
  rintro i ⟨hi, hs⟩
  dsimp only at hi hs ⊢
  repeat (first | (with_reducible first | refine Pw.seq ?_ | refine Pw.region ?_ | refine Pw.nil ?_ | refine Pw.then_ ?_ | refine Pw.skip ?_ | refine Pw.block ?_ | refine Pw.exit ?_ | refine Pw.inX ?_ | refine Pw.inN ?_ | refine Pw.inR ?_ | refine Pw.thenX ?_ | refine Pw.thenR ?_ | refine Pw.ret ?_) | refine Pw.list (Pw.pure rfl rfl rfl ?_) | refine Pw.inY rfl ?_ | refine Pw.list (Pw.off rfl rfl ?_) | refine Pw.condT rfl ?_ | refine Pw.condF rfl ?_)
  refine Pw.condD rfl (fun c3 => ?_) (fun c3 => ?_)
  · obtain ⟨y, hy, hm⟩ := get_at (show i < l.length by omega)
    have hyb := hb y hm
    unfold U64 at hyb
    have h0 := lsum_nonneg (l := l.take i) (fun n hn => hb n (List.mem_of_mem_take hn))
    have e1 : lsum (l.take (i + 1)) = lsum (l.take i) + y := by rw [take_snoc hy, lsum_snoc]
    repeat (first | (with_reducible first | refine Pw.seq ?_ | refine Pw.region ?_ | refine Pw.nil ?_ | refine Pw.then_ ?_ | refine Pw.skip ?_ | refine Pw.block ?_ | refine Pw.exit ?_ | refine Pw.inX ?_ | refine Pw.inN ?_ | refine Pw.inR ?_ | refine Pw.thenX ?_ | refine Pw.thenR ?_ | refine Pw.ret ?_) | refine Pw.list (Pw.pure rfl rfl rfl ?_) | refine Pw.inY rfl ?_ | refine Pw.list (Pw.off rfl rfl ?_) | refine Pw.condT rfl ?_ | refine Pw.condF rfl ?_)
    refine Pw.list (Pw.index rfl rfl rfl rfl (Int.natCast_nonneg i) c3 (fun w h => (fact0 h).has (Int.natCast_nonneg i) c3) rfl rfl ?_)
    rintro ad rfl
    refine Pw.list (Pw.load1 rfl rfl (fun w hs => by first | exact (fact0 hs.all).cell (by first | assumption | omega) (by first | assumption | omega) | exact (fact1 hs.all).cell (by first | assumption | omega) (by first | assumption | omega) | exact (fact2 hs.all).cell (by first | assumption | omega) (by first | assumption | omega) | exact (fact3 hs.all).cell (by first | assumption | omega) (by first | assumption | omega)) rfl rfl ?_)
    rw [get_rd hy]
    repeat (first | (with_reducible first | refine Pw.seq ?_ | refine Pw.region ?_ | refine Pw.nil ?_ | refine Pw.then_ ?_ | refine Pw.skip ?_ | refine Pw.block ?_ | refine Pw.exit ?_ | refine Pw.inX ?_ | refine Pw.inN ?_ | refine Pw.inR ?_ | refine Pw.thenX ?_ | refine Pw.thenR ?_ | refine Pw.ret ?_) | refine Pw.list (Pw.pure rfl rfl rfl ?_) | refine Pw.inY rfl ?_ | refine Pw.list (Pw.off rfl rfl ?_) | refine Pw.condT rfl ?_ | refine Pw.condF rfl ?_)
    refine Pw.condD rfl (fun c4 => ?_) (fun c4 => ?_)
    · rw [wu64] at c4
      have h2 := lsum_take_le hb (i + 1)
      repeat (first | (with_reducible first | refine Pw.seq ?_ | refine Pw.region ?_ | refine Pw.nil ?_ | refine Pw.then_ ?_ | refine Pw.skip ?_ | refine Pw.block ?_ | refine Pw.exit ?_ | refine Pw.inX ?_ | refine Pw.inN ?_ | refine Pw.inR ?_ | refine Pw.thenX ?_ | refine Pw.thenR ?_ | refine Pw.ret ?_) | refine Pw.list (Pw.pure rfl rfl rfl ?_) | refine Pw.inY rfl ?_ | refine Pw.list (Pw.off rfl rfl ?_) | refine Pw.condT rfl ?_ | refine Pw.condF rfl ?_)
      exact Pw.ret_ (x := ()) (.tmp rfl (.tmp rfl .nil)) (by unfold sumM; rw [if_neg (by omega)]; rfl) trivial (fun w h => by trivial)
    · rw [wu64] at c4
      repeat (first | (with_reducible first | refine Pw.seq ?_ | refine Pw.region ?_ | refine Pw.nil ?_ | refine Pw.then_ ?_ | refine Pw.skip ?_ | refine Pw.block ?_ | refine Pw.exit ?_ | refine Pw.inX ?_ | refine Pw.inN ?_ | refine Pw.inR ?_ | refine Pw.thenX ?_ | refine Pw.thenR ?_ | refine Pw.ret ?_) | refine Pw.list (Pw.pure rfl rfl rfl ?_) | refine Pw.inY rfl ?_ | refine Pw.list (Pw.off rfl rfl ?_) | refine Pw.condT rfl ?_ | refine Pw.condF rfl ?_)
      refine Pw.re (d := 4) (v' := .int .u64 (lsum (l.take (i + 1)))) rfl (congrArg (Value.int .u64) (by rw [e1]; exact wu (by omega) (by omega))) ?_
      refine Pw.re (d := 9) (v' := .int .i64 ((i + 1 : Nat) : Int)) rfl (congrArg (Value.int .i64) (i64s (by omega) htop)) ?_
      exact Pw.again (i + 1) ⟨by omega, by omega⟩ (by show l.length - (i + 1) < l.length - i; omega) ⟨rfl, rfl, rfl, rfl, trivial⟩ rfl (fun w h => h)
  · repeat (first | (with_reducible first | refine Pw.seq ?_ | refine Pw.region ?_ | refine Pw.nil ?_ | refine Pw.then_ ?_ | refine Pw.skip ?_ | refine Pw.block ?_ | refine Pw.exit ?_ | refine Pw.inX ?_ | refine Pw.inN ?_ | refine Pw.inR ?_ | refine Pw.thenX ?_ | refine Pw.thenR ?_ | refine Pw.ret ?_) | refine Pw.list (Pw.pure rfl rfl rfl ?_) | refine Pw.inY rfl ?_ | refine Pw.list (Pw.off rfl rfl ?_) | refine Pw.condT rfl ?_ | refine Pw.condF rfl ?_)
    rw [List.take_of_length_le (by omega)] at hs ⊢
    exact Pw.ret_ (x := ()) (.tmp rfl (.tmp rfl .nil)) (by unfold sumM; rw [if_pos hs]; rfl) trivial (fun w h => by trivial)
def stk (l : List Pt) : List Int := l.map Prod.snd
theorem stk_snoc {l : List Pt} {i : Nat} {p : Pt} (h : l[i]? = some p) : stk (l.take (i + 1)) = stk (l.take i) ++ [p.2] := by unfold stk; rw [take_snoc h, List.map_append]; rfl
theorem stk_len (l : List Pt) : (stk l).length = l.length := by unfold stk; rw [List.length_map]
theorem Stakes_ct (l : List Pt) (x : Option Addr × Nat) (hl : l.length ≤ 1000000) :
    CtL Try.prog 97 #[psV l x] (PS l x) (fun q : Gr => gv q l.length) (fun q => gOk q ((stk l).map (Value.int .u64)) l.length 1) (fun q => gL q ((stk l).map (Value.int .u64)) 29) (fun _ _ => True) := by
  have htop : l.length ≤ 9223372036854775807 := by omega
  obtain ⟨A, c⟩ := x
  refine CtL.start Try.func97 rfl rfl (slots_of rfl slots1) (fun D w0 => ?_)
  repeat (first | (with_reducible first | refine Pw.seq ?_ | refine Pw.region ?_ | refine Pw.nil ?_ | refine Pw.then_ ?_ | refine Pw.skip ?_ | refine Pw.block ?_ | refine Pw.exit ?_ | refine Pw.inX ?_ | refine Pw.inN ?_ | refine Pw.inR ?_ | refine Pw.thenX ?_ | refine Pw.thenR ?_ | refine Pw.ret ?_) | refine Pw.list (Pw.pure rfl rfl rfl ?_) | refine Pw.inY rfl ?_ | refine Pw.list (Pw.off rfl rfl ?_) | refine Pw.condT rfl ?_ | refine Pw.condF rfl ?_)
  refine Pw.loopJ (σ := Nat × Gr) (fun t => t.1 ≤ l.length ∧ gOk t.2 ((stk (l.take t.1)).map (Value.int .u64)) t.1 1) (fun t => ⟨[(3, gv t.2 t.1), (6, .slice A l.length c), (7, .int .i64 l.length), (8, .int .i64 t.1)], gL1 t.2 ((stk (l.take t.1)).map (Value.int .u64)) 29, [PS l (A, c)]⟩) (fun t => l.length - t.1) (0, none) ⟨Nat.zero_le _, rfl, rfl⟩ (Pw.enter ⟨rfl, rfl, rfl, rfl, trivial⟩ (fun _ h => h)) ?_
  rintro ⟨i, q⟩ ⟨hi, hq⟩
  dsimp only at hi hq ⊢
  repeat (first | (with_reducible first | refine Pw.seq ?_ | refine Pw.region ?_ | refine Pw.nil ?_ | refine Pw.then_ ?_ | refine Pw.skip ?_ | refine Pw.block ?_ | refine Pw.exit ?_ | refine Pw.inX ?_ | refine Pw.inN ?_ | refine Pw.inR ?_ | refine Pw.thenX ?_ | refine Pw.thenR ?_ | refine Pw.ret ?_) | refine Pw.list (Pw.pure rfl rfl rfl ?_) | refine Pw.inY rfl ?_ | refine Pw.list (Pw.off rfl rfl ?_) | refine Pw.condT rfl ?_ | refine Pw.condF rfl ?_)
  refine Pw.condD rfl (fun c3 => ?_) (fun c3 => ?_)
  · obtain ⟨p, hp, hm⟩ := get_at (show i < l.length by omega)
    repeat (first | (with_reducible first | refine Pw.seq ?_ | refine Pw.region ?_ | refine Pw.nil ?_ | refine Pw.then_ ?_ | refine Pw.skip ?_ | refine Pw.block ?_ | refine Pw.exit ?_ | refine Pw.inX ?_ | refine Pw.inN ?_ | refine Pw.inR ?_ | refine Pw.thenX ?_ | refine Pw.thenR ?_ | refine Pw.ret ?_) | refine Pw.list (Pw.pure rfl rfl rfl ?_) | refine Pw.inY rfl ?_ | refine Pw.list (Pw.off rfl rfl ?_) | refine Pw.condT rfl ?_ | refine Pw.condF rfl ?_)
    refine Pw.list (Pw.index rfl rfl rfl rfl (Int.natCast_nonneg i) c3 (fun w h => (fact0 h).has (Int.natCast_nonneg i) c3) rfl rfl ?_)
    rintro ad rfl
    refine Pw.list (Pw.loadR p rfl inferInstance rfl (by rw [Int.toNat_natCast]; exact hp) (by kernel_rfl) rfl rfl ?_)
    refine Pw.re (d := 11) (v' := ptV p) rfl rfl ?_
    repeat (first | (with_reducible first | refine Pw.seq ?_ | refine Pw.region ?_ | refine Pw.nil ?_ | refine Pw.then_ ?_ | refine Pw.skip ?_ | refine Pw.block ?_ | refine Pw.exit ?_ | refine Pw.inX ?_ | refine Pw.inN ?_ | refine Pw.inR ?_ | refine Pw.thenX ?_ | refine Pw.thenR ?_ | refine Pw.ret ?_) | refine Pw.list (Pw.pure rfl rfl rfl ?_) | refine Pw.inY rfl ?_ | refine Pw.list (Pw.off rfl rfl ?_) | refine Pw.condT rfl ?_ | refine Pw.condF rfl ?_ | refine Pw.list (Pw.box rfl rfl rfl rfl (fun _ => ?_)) | refine Pw.list (Pw.alloc rfl rfl rfl rfl rfl (fun _ => ?_)) | refine Pw.list (Pw.build rfl rfl rfl rfl ?_) | refine Pw.list (Pw.ld rfl inferInstance rfl rfl rfl ?_) | refine Pw.list (Pw.sto rfl rfl inferInstance rfl rfl rfl rfl rfl inferInstance rfl ?_))
    refine freeHead ?_
    refine Pw.list (Pw.lit1 rfl rfl rfl rfl rfl rfl rfl rfl rfl (fun g1 => freeHead ?_))
    refine Pw.list (Pw.push (s := q) (news := [.int .u64 p.2]) (L0 := []) rfl rfl rfl rfl rfl rfl rfl hq rfl (fun u hu => by rw [List.mem_singleton.1 hu]; rfl) (fun w hs j u hu => by
      have h1 := fact0 hs.all
      rw [add_none, cell_of_blk h1]
      simpa using hu) (by omega) (by simp only [maxLen]; omega) (by show (i + 1) * 8 ≤ _; omega) rfl rfl (fun q' hq' => ?_))
    repeat (first | (with_reducible first | refine Pw.seq ?_ | refine Pw.region ?_ | refine Pw.nil ?_ | refine Pw.then_ ?_ | refine Pw.skip ?_ | refine Pw.block ?_ | refine Pw.exit ?_ | refine Pw.inX ?_ | refine Pw.inN ?_ | refine Pw.inR ?_ | refine Pw.thenX ?_ | refine Pw.thenR ?_ | refine Pw.ret ?_) | refine Pw.list (Pw.pure rfl rfl rfl ?_) | refine Pw.inY rfl ?_ | refine Pw.list (Pw.off rfl rfl ?_) | refine Pw.condT rfl ?_ | refine Pw.condF rfl ?_ | refine Pw.list (Pw.box rfl rfl rfl rfl (fun _ => ?_)) | refine Pw.list (Pw.alloc rfl rfl rfl rfl rfl (fun _ => ?_)) | refine Pw.list (Pw.build rfl rfl rfl rfl ?_) | refine Pw.list (Pw.ld rfl inferInstance rfl rfl rfl ?_) | refine Pw.list (Pw.sto rfl rfl inferInstance rfl rfl rfl rfl rfl inferInstance rfl ?_))
    refine Pw.re (d := 8) (v' := .int .i64 ((i + 1 : Nat) : Int)) rfl (congrArg (Value.int .i64) (i64s (by omega) htop)) ?_
    have e2 : (stk (l.take (i + 1))).map (Value.int .u64) = (stk (l.take i)).map (Value.int .u64) ++ [.int .u64 p.2] := by rw [stk_snoc hp]; simp
    exact Pw.again (i + 1, q') ⟨by omega, by rw [e2]; exact hq'⟩ (by show l.length - (i + 1) < l.length - i; omega) ⟨rfl, rfl, rfl, rfl, trivial⟩ (by rw [e2]) (fun w h => allCons (hv w h) allNil)
  · repeat (first | (with_reducible first | refine Pw.seq ?_ | refine Pw.region ?_ | refine Pw.nil ?_ | refine Pw.then_ ?_ | refine Pw.skip ?_ | refine Pw.block ?_ | refine Pw.exit ?_ | refine Pw.inX ?_ | refine Pw.inN ?_ | refine Pw.inR ?_ | refine Pw.thenX ?_ | refine Pw.thenR ?_ | refine Pw.ret ?_) | refine Pw.list (Pw.pure rfl rfl rfl ?_) | refine Pw.inY rfl ?_ | refine Pw.list (Pw.off rfl rfl ?_) | refine Pw.condT rfl ?_ | refine Pw.condF rfl ?_ | refine Pw.list (Pw.box rfl rfl rfl rfl (fun _ => ?_)) | refine Pw.list (Pw.alloc rfl rfl rfl rfl rfl (fun _ => ?_)) | refine Pw.list (Pw.build rfl rfl rfl rfl ?_) | refine Pw.list (Pw.ld rfl inferInstance rfl rfl rfl ?_) | refine Pw.list (Pw.sto rfl rfl inferInstance rfl rfl rfl rfl rfl inferInstance rfl ?_))
    obtain rfl : i = l.length := by omega
    rw [List.take_length] at hq ⊢
    exact Pw.retL (x := q) (List.sublist_append_left _ _) (.tmp rfl .nil) rfl hq (fun w h => trivial)
/-! ### Formed -/
def dupAt (x : Ex) (i : Nat) : Bool := match x.oth[i]? with | none => true | some p => !decide (p.1 ∈ x.id :: (x.oth.take i).map Prod.fst)
def formX (x : Ex) : Bool := allB x.oth.length (dupAt x) && decide (x.com ≤ 1000000000)
theorem dupAt_eq {x : Ex} {i : Nat} {p : Pt} (h : x.oth[i]? = some p) : dupAt x i = !decide (p.1 ∈ x.id :: (x.oth.take i).map Prod.fst) := by unfold dupAt; rw [h]
theorem pFormed_ct (x : Ex) : Ct Try.prog 55 #[exV x] (exF x) (fun _ : Unit => .bool (formX x)) Tt (fun _ _ => True) := by
  obtain ⟨id, com, own, oth, ⟨A, c⟩⟩ := x
  refine Ct.start Try.func55 rfl rfl (slots_of rfl slots1) (fun D w0 => ?_)
  refine Pw.use (p := oth.length ≤ maxLen) (fun w h => (fact0 h).top) (fun htop => ?_)
  have htop := top63 htop
  repeat (first | (with_reducible first | refine Pw.seq ?_ | refine Pw.region ?_ | refine Pw.nil ?_ | refine Pw.then_ ?_ | refine Pw.skip ?_ | refine Pw.block ?_ | refine Pw.exit ?_ | refine Pw.inX ?_ | refine Pw.inN ?_ | refine Pw.inR ?_ | refine Pw.thenX ?_ | refine Pw.thenR ?_ | refine Pw.ret ?_) | refine Pw.list (Pw.pure rfl rfl rfl ?_) | refine Pw.inY rfl ?_ | refine Pw.list (Pw.off rfl rfl ?_) | refine Pw.condT rfl ?_ | refine Pw.condF rfl ?_)
  refine Pw.list (Pw.box rfl rfl rfl rfl (fun g1 => freeHead ?_))
  repeat (first | (with_reducible first | refine Pw.seq ?_ | refine Pw.region ?_ | refine Pw.nil ?_ | refine Pw.then_ ?_ | refine Pw.skip ?_ | refine Pw.block ?_ | refine Pw.exit ?_ | refine Pw.inX ?_ | refine Pw.inN ?_ | refine Pw.inR ?_ | refine Pw.thenX ?_ | refine Pw.thenR ?_ | refine Pw.ret ?_) | refine Pw.list (Pw.pure rfl rfl rfl ?_) | refine Pw.inY rfl ?_ | refine Pw.list (Pw.off rfl rfl ?_) | refine Pw.condT rfl ?_ | refine Pw.condF rfl ?_ | refine Pw.list (Pw.box rfl rfl rfl rfl (fun _ => ?_)) | refine Pw.list (Pw.alloc rfl rfl rfl rfl rfl (fun _ => ?_)) | refine Pw.list (Pw.build rfl rfl rfl rfl ?_) | refine Pw.list (Pw.ld rfl inferInstance rfl rfl rfl ?_) | refine Pw.list (Pw.sto rfl rfl inferInstance rfl rfl rfl rfl rfl inferInstance rfl ?_))
  refine Pw.list (Pw.makeMap rfl rfl (fun g3 => ?_))
  repeat (first | (with_reducible first | refine Pw.seq ?_ | refine Pw.region ?_ | refine Pw.nil ?_ | refine Pw.then_ ?_ | refine Pw.skip ?_ | refine Pw.block ?_ | refine Pw.exit ?_ | refine Pw.inX ?_ | refine Pw.inN ?_ | refine Pw.inR ?_ | refine Pw.thenX ?_ | refine Pw.thenR ?_ | refine Pw.ret ?_) | refine Pw.list (Pw.pure rfl rfl rfl ?_) | refine Pw.inY rfl ?_ | refine Pw.list (Pw.off rfl rfl ?_) | refine Pw.condT rfl ?_ | refine Pw.condF rfl ?_ | refine Pw.list (Pw.box rfl rfl rfl rfl (fun _ => ?_)) | refine Pw.list (Pw.alloc rfl rfl rfl rfl rfl (fun _ => ?_)) | refine Pw.list (Pw.build rfl rfl rfl rfl ?_) | refine Pw.list (Pw.ld rfl inferInstance rfl rfl rfl ?_) | refine Pw.list (Pw.sto rfl rfl inferInstance rfl rfl rfl rfl rfl inferInstance rfl ?_))
  refine Pw.list (Pw.insertNew rfl rfl rfl rfl rfl (fun p hp => by cases hp) .head rfl ?_)
  repeat (first | (with_reducible first | refine Pw.seq ?_ | refine Pw.region ?_ | refine Pw.nil ?_ | refine Pw.then_ ?_ | refine Pw.skip ?_ | refine Pw.block ?_ | refine Pw.exit ?_ | refine Pw.inX ?_ | refine Pw.inN ?_ | refine Pw.inR ?_ | refine Pw.thenX ?_ | refine Pw.thenR ?_ | refine Pw.ret ?_) | refine Pw.list (Pw.pure rfl rfl rfl ?_) | refine Pw.inY rfl ?_ | refine Pw.list (Pw.off rfl rfl ?_) | refine Pw.condT rfl ?_ | refine Pw.condF rfl ?_ | refine Pw.list (Pw.box rfl rfl rfl rfl (fun _ => ?_)) | refine Pw.list (Pw.alloc rfl rfl rfl rfl rfl (fun _ => ?_)) | refine Pw.list (Pw.build rfl rfl rfl rfl ?_) | refine Pw.list (Pw.ld rfl inferInstance rfl rfl rfl ?_) | refine Pw.list (Pw.sto rfl rfl inferInstance rfl rfl rfl rfl rfl inferInstance rfl ?_))
  refine Pw.loopJ (σ := Nat) (fun i => i ≤ oth.length ∧ ∀ j, j < i → dupAt ⟨id, com, own, oth, (A, c)⟩ j = true) (fun i => ⟨[(1, .pointer (some ⟨g1, 0, none⟩)), (3, .map (some g3)), (11, .slice A oth.length c), (12, .int .i64 oth.length), (13, .int .i64 i)], [⟨g3, mapO (setM (id :: (oth.take i).map Prod.fst))⟩], [PS oth (A, c), fun W => W.heap[g1]? = some (row [.int .i64 id, .int .u64 com, .int .u64 own, .slice A oth.length c] 78)]⟩) (fun i => oth.length - i) 0 ⟨Nat.zero_le _, fun j hj => absurd hj (Nat.not_lt_zero j)⟩ (Pw.enter ⟨rfl, rfl, rfl, rfl, rfl, trivial⟩ (fun w h => allCons (hv w h) (allCons (by first | exact fact0 (h) | exact fact0 (allTail (h)) | exact fact0 (allTail (allTail (h))) | exact fact0 (allTail (allTail (allTail (h)))) | exact fact0 (allTail (allTail (allTail (allTail (h))))) | exact fact0 (allTail (allTail (allTail (allTail (allTail (h)))))) | exact fact0 (allTail (allTail (allTail (allTail (allTail (allTail (h))))))) | exact fact0 (allTail (allTail (allTail (allTail (allTail (allTail (allTail (h)))))))) | exact fact0 (allTail (allTail (allTail (allTail (allTail (allTail (allTail (allTail (h))))))))) | exact fact0 (allTail (allTail (allTail (allTail (allTail (allTail (allTail (allTail (allTail (h))))))))))) allNil))) ?_
  rintro i ⟨hi, hj⟩
  dsimp only at hi hj ⊢
  repeat (first | (with_reducible first | refine Pw.seq ?_ | refine Pw.region ?_ | refine Pw.nil ?_ | refine Pw.then_ ?_ | refine Pw.skip ?_ | refine Pw.block ?_ | refine Pw.exit ?_ | refine Pw.inX ?_ | refine Pw.inN ?_ | refine Pw.inR ?_ | refine Pw.thenX ?_ | refine Pw.thenR ?_ | refine Pw.ret ?_) | refine Pw.list (Pw.pure rfl rfl rfl ?_) | refine Pw.inY rfl ?_ | refine Pw.list (Pw.off rfl rfl ?_) | refine Pw.condT rfl ?_ | refine Pw.condF rfl ?_ | refine Pw.list (Pw.box rfl rfl rfl rfl (fun _ => ?_)) | refine Pw.list (Pw.alloc rfl rfl rfl rfl rfl (fun _ => ?_)) | refine Pw.list (Pw.build rfl rfl rfl rfl ?_) | refine Pw.list (Pw.ld rfl inferInstance rfl rfl rfl ?_) | refine Pw.list (Pw.sto rfl rfl inferInstance rfl rfl rfl rfl rfl inferInstance rfl ?_))
  refine Pw.condD rfl (fun c3 => ?_) (fun c3 => ?_)
  · obtain ⟨p, hp, hm⟩ := get_at (show i < oth.length by omega)
    repeat (first | (with_reducible first | refine Pw.seq ?_ | refine Pw.region ?_ | refine Pw.nil ?_ | refine Pw.then_ ?_ | refine Pw.skip ?_ | refine Pw.block ?_ | refine Pw.exit ?_ | refine Pw.inX ?_ | refine Pw.inN ?_ | refine Pw.inR ?_ | refine Pw.thenX ?_ | refine Pw.thenR ?_ | refine Pw.ret ?_) | refine Pw.list (Pw.pure rfl rfl rfl ?_) | refine Pw.inY rfl ?_ | refine Pw.list (Pw.off rfl rfl ?_) | refine Pw.condT rfl ?_ | refine Pw.condF rfl ?_ | refine Pw.list (Pw.box rfl rfl rfl rfl (fun _ => ?_)) | refine Pw.list (Pw.alloc rfl rfl rfl rfl rfl (fun _ => ?_)) | refine Pw.list (Pw.build rfl rfl rfl rfl ?_) | refine Pw.list (Pw.ld rfl inferInstance rfl rfl rfl ?_) | refine Pw.list (Pw.sto rfl rfl inferInstance rfl rfl rfl rfl rfl inferInstance rfl ?_))
    refine Pw.list (Pw.index rfl rfl rfl rfl (Int.natCast_nonneg i) c3 (fun w h => (fact0 h).has (Int.natCast_nonneg i) c3) rfl rfl ?_)
    rintro ad rfl
    refine Pw.list (Pw.loadR p rfl inferInstance rfl (by rw [Int.toNat_natCast]; exact hp) (by kernel_rfl) rfl rfl ?_)
    refine Pw.re (d := 16) (v' := ptV p) rfl rfl ?_
    repeat (first | (with_reducible first | refine Pw.seq ?_ | refine Pw.region ?_ | refine Pw.nil ?_ | refine Pw.then_ ?_ | refine Pw.skip ?_ | refine Pw.block ?_ | refine Pw.exit ?_ | refine Pw.inX ?_ | refine Pw.inN ?_ | refine Pw.inR ?_ | refine Pw.thenX ?_ | refine Pw.thenR ?_ | refine Pw.ret ?_) | refine Pw.list (Pw.pure rfl rfl rfl ?_) | refine Pw.inY rfl ?_ | refine Pw.list (Pw.off rfl rfl ?_) | refine Pw.condT rfl ?_ | refine Pw.condF rfl ?_ | refine Pw.list (Pw.box rfl rfl rfl rfl (fun _ => ?_)) | refine Pw.list (Pw.alloc rfl rfl rfl rfl rfl (fun _ => ?_)) | refine Pw.list (Pw.build rfl rfl rfl rfl ?_) | refine Pw.list (Pw.ld rfl inferInstance rfl rfl rfl ?_) | refine Pw.list (Pw.sto rfl rfl inferInstance rfl rfl rfl rfl rfl inferInstance rfl ?_))
    refine freeHead ?_
    refine Pw.list (Pw.lookup rfl rfl rfl rfl rfl rfl (List.mem_cons_self ..) rfl rfl ?_)
    rw [mval_set]
    repeat (first | (with_reducible first | refine Pw.seq ?_ | refine Pw.region ?_ | refine Pw.nil ?_ | refine Pw.then_ ?_ | refine Pw.skip ?_ | refine Pw.block ?_ | refine Pw.exit ?_ | refine Pw.inX ?_ | refine Pw.inN ?_ | refine Pw.inR ?_ | refine Pw.thenX ?_ | refine Pw.thenR ?_ | refine Pw.ret ?_) | refine Pw.list (Pw.pure rfl rfl rfl ?_) | refine Pw.inY rfl ?_ | refine Pw.list (Pw.off rfl rfl ?_) | refine Pw.condT rfl ?_ | refine Pw.condF rfl ?_ | refine Pw.list (Pw.box rfl rfl rfl rfl (fun _ => ?_)) | refine Pw.list (Pw.alloc rfl rfl rfl rfl rfl (fun _ => ?_)) | refine Pw.list (Pw.build rfl rfl rfl rfl ?_) | refine Pw.list (Pw.ld rfl inferInstance rfl rfl rfl ?_) | refine Pw.list (Pw.sto rfl rfl inferInstance rfl rfl rfl rfl rfl inferInstance rfl ?_))
    refine Pw.condD rfl (fun c4 => ?_) (fun c4 => ?_)
    · repeat (first | (with_reducible first | refine Pw.seq ?_ | refine Pw.region ?_ | refine Pw.nil ?_ | refine Pw.then_ ?_ | refine Pw.skip ?_ | refine Pw.block ?_ | refine Pw.exit ?_ | refine Pw.inX ?_ | refine Pw.inN ?_ | refine Pw.inR ?_ | refine Pw.thenX ?_ | refine Pw.thenR ?_ | refine Pw.ret ?_) | refine Pw.list (Pw.pure rfl rfl rfl ?_) | refine Pw.inY rfl ?_ | refine Pw.list (Pw.off rfl rfl ?_) | refine Pw.condT rfl ?_ | refine Pw.condF rfl ?_ | refine Pw.list (Pw.box rfl rfl rfl rfl (fun _ => ?_)) | refine Pw.list (Pw.alloc rfl rfl rfl rfl rfl (fun _ => ?_)) | refine Pw.list (Pw.build rfl rfl rfl rfl ?_) | refine Pw.list (Pw.ld rfl inferInstance rfl rfl rfl ?_) | refine Pw.list (Pw.sto rfl rfl inferInstance rfl rfl rfl rfl rfl inferInstance rfl ?_))
      exact Pw.ret_ (x := ()) (.tmp rfl .nil) (congrArg Value.bool (by unfold formX; rw [allB_false (i := i) (by simp only; omega) (by rw [dupAt_eq (p := p) hp]; exact congrArg (fun b => !b) (decide_eq_true c4))]; rfl)) trivial (fun w h => by trivial)
    repeat (first | (with_reducible first | refine Pw.seq ?_ | refine Pw.region ?_ | refine Pw.nil ?_ | refine Pw.then_ ?_ | refine Pw.skip ?_ | refine Pw.block ?_ | refine Pw.exit ?_ | refine Pw.inX ?_ | refine Pw.inN ?_ | refine Pw.inR ?_ | refine Pw.thenX ?_ | refine Pw.thenR ?_ | refine Pw.ret ?_) | refine Pw.list (Pw.pure rfl rfl rfl ?_) | refine Pw.inY rfl ?_ | refine Pw.list (Pw.off rfl rfl ?_) | refine Pw.condT rfl ?_ | refine Pw.condF rfl ?_ | refine Pw.list (Pw.box rfl rfl rfl rfl (fun _ => ?_)) | refine Pw.list (Pw.alloc rfl rfl rfl rfl rfl (fun _ => ?_)) | refine Pw.list (Pw.build rfl rfl rfl rfl ?_) | refine Pw.list (Pw.ld rfl inferInstance rfl rfl rfl ?_) | refine Pw.list (Pw.sto rfl rfl inferInstance rfl rfl rfl rfl rfl inferInstance rfl ?_))
    refine Pw.list (Pw.mapNew rfl rfl rfl rfl rfl (fun q hq => ?_) .head rfl ?_)
    · obtain ⟨k, hk, rfl⟩ := List.mem_map.1 hq
      exact fun e => c4 (e ▸ hk)
    repeat (first | (with_reducible first | refine Pw.seq ?_ | refine Pw.region ?_ | refine Pw.nil ?_ | refine Pw.then_ ?_ | refine Pw.skip ?_ | refine Pw.block ?_ | refine Pw.exit ?_ | refine Pw.inX ?_ | refine Pw.inN ?_ | refine Pw.inR ?_ | refine Pw.thenX ?_ | refine Pw.thenR ?_ | refine Pw.ret ?_) | refine Pw.list (Pw.pure rfl rfl rfl ?_) | refine Pw.inY rfl ?_ | refine Pw.list (Pw.off rfl rfl ?_) | refine Pw.condT rfl ?_ | refine Pw.condF rfl ?_ | refine Pw.list (Pw.box rfl rfl rfl rfl (fun _ => ?_)) | refine Pw.list (Pw.alloc rfl rfl rfl rfl rfl (fun _ => ?_)) | refine Pw.list (Pw.build rfl rfl rfl rfl ?_) | refine Pw.list (Pw.ld rfl inferInstance rfl rfl rfl ?_) | refine Pw.list (Pw.sto rfl rfl inferInstance rfl rfl rfl rfl rfl inferInstance rfl ?_))
    refine Pw.re (d := 13) (v' := .int .i64 ((i + 1 : Nat) : Int)) rfl (congrArg (Value.int .i64) (i64s (by omega) htop)) ?_
    exact Pw.again (i + 1) ⟨by omega, fun j h => by
      rcases Nat.lt_or_ge j i with h' | h'
      · exact hj j h'
      · obtain rfl : j = i := by omega
        rw [dupAt_eq (p := p) hp]; exact congrArg (fun b => !b) (decide_eq_false c4)⟩ (by show oth.length - (i + 1) < oth.length - i; omega) ⟨rfl, rfl, rfl, rfl, rfl, trivial⟩ (by show _ = [_]; rw [take_snoc hp, List.map_append, ← List.cons_append]; show _ = [(⟨g3, mapO (setM ((id :: (oth.take i).map Prod.fst) ++ [p.1]))⟩ : Blk)]; rw [← setM_snoc]) (fun w h => allCons (hv w h) (allCons (by first | exact fact0 (h) | exact fact0 (allTail (h)) | exact fact0 (allTail (allTail (h))) | exact fact0 (allTail (allTail (allTail (h)))) | exact fact0 (allTail (allTail (allTail (allTail (h))))) | exact fact0 (allTail (allTail (allTail (allTail (allTail (h)))))) | exact fact0 (allTail (allTail (allTail (allTail (allTail (allTail (h))))))) | exact fact0 (allTail (allTail (allTail (allTail (allTail (allTail (allTail (h)))))))) | exact fact0 (allTail (allTail (allTail (allTail (allTail (allTail (allTail (allTail (h))))))))) | exact fact0 (allTail (allTail (allTail (allTail (allTail (allTail (allTail (allTail (allTail (h))))))))))) allNil))
  · repeat (first | (with_reducible first | refine Pw.seq ?_ | refine Pw.region ?_ | refine Pw.nil ?_ | refine Pw.then_ ?_ | refine Pw.skip ?_ | refine Pw.block ?_ | refine Pw.exit ?_ | refine Pw.inX ?_ | refine Pw.inN ?_ | refine Pw.inR ?_ | refine Pw.thenX ?_ | refine Pw.thenR ?_ | refine Pw.ret ?_) | refine Pw.list (Pw.pure rfl rfl rfl ?_) | refine Pw.inY rfl ?_ | refine Pw.list (Pw.off rfl rfl ?_) | refine Pw.condT rfl ?_ | refine Pw.condF rfl ?_ | refine Pw.list (Pw.box rfl rfl rfl rfl (fun _ => ?_)) | refine Pw.list (Pw.alloc rfl rfl rfl rfl rfl (fun _ => ?_)) | refine Pw.list (Pw.build rfl rfl rfl rfl ?_) | refine Pw.list (Pw.ld rfl inferInstance rfl rfl rfl ?_) | refine Pw.list (Pw.sto rfl rfl inferInstance rfl rfl rfl rfl rfl inferInstance rfl ?_))
    exact Pw.ret_ (x := ()) (.tmp rfl .nil) (congrArg Value.bool (by unfold formX; rw [allB_true (fun j h => hj j (by simp only at h; omega))]; rfl)) trivial (fun w h => by trivial)
/-! ### Total -/
def totX (x : Ex) : Int × Int := sumM (stk x.oth ++ [x.own])
theorem totX_b {x : Ex} (h : ExW x) : ∀ n ∈ stk x.oth ++ [x.own], U64 n := fun n hn => by
  rcases List.mem_append.1 hn with hn | hn
  · obtain ⟨p, hp, rfl⟩ := List.mem_map.1 hn
    exact h.oth p hp
  · rw [List.mem_singleton.1 hn]; exact h.own
theorem pTotal_ct (x : Ex) (hx : ExW x) (hl : x.oth.length ≤ 1000000) : Ct Try.prog 52 #[exV x] (exF x) (fun _ : Unit => .tuple #[.int .u64 (totX x).1, .int .i64 (totX x).2]) Tt (fun _ _ => True) := by
  have hb := totX_b hx
  refine Ct.start Try.func52 rfl rfl (slots_of rfl slots1) (fun D w0 => ?_)
  repeat (first | (with_reducible first | refine Pw.seq ?_ | refine Pw.region ?_ | refine Pw.nil ?_ | refine Pw.then_ ?_ | refine Pw.skip ?_ | refine Pw.block ?_ | refine Pw.exit ?_ | refine Pw.inX ?_ | refine Pw.inN ?_ | refine Pw.inR ?_ | refine Pw.thenX ?_ | refine Pw.thenR ?_ | refine Pw.ret ?_) | refine Pw.list (Pw.pure rfl rfl rfl ?_) | refine Pw.inY rfl ?_ | refine Pw.list (Pw.off rfl rfl ?_) | refine Pw.condT rfl ?_ | refine Pw.condF rfl ?_)
  refine Pw.list (Pw.box rfl rfl rfl rfl (fun g1 => freeHead ?_))
  repeat (first | (with_reducible first | refine Pw.seq ?_ | refine Pw.region ?_ | refine Pw.nil ?_ | refine Pw.then_ ?_ | refine Pw.skip ?_ | refine Pw.block ?_ | refine Pw.exit ?_ | refine Pw.inX ?_ | refine Pw.inN ?_ | refine Pw.inR ?_ | refine Pw.thenX ?_ | refine Pw.thenR ?_ | refine Pw.ret ?_) | refine Pw.list (Pw.pure rfl rfl rfl ?_) | refine Pw.inY rfl ?_ | refine Pw.list (Pw.off rfl rfl ?_) | refine Pw.condT rfl ?_ | refine Pw.condF rfl ?_ | refine Pw.list (Pw.box rfl rfl rfl rfl (fun _ => ?_)) | refine Pw.list (Pw.alloc rfl rfl rfl rfl rfl (fun _ => ?_)) | refine Pw.list (Pw.build rfl rfl rfl rfl ?_) | refine Pw.list (Pw.ld rfl inferInstance rfl rfl rfl ?_) | refine Pw.list (Pw.sto rfl rfl inferInstance rfl rfl rfl rfl rfl inferInstance rfl ?_))
  refine Pw.drawnG mixed rfl rfl ?_
  refine Pw.takeP 0 (nb 12 1) rfl rfl rfl rfl (by kernel_rfl) np sf ?_
  refine Pw.takeF 1 (nb 12 3) rfl rfl inferInstance rfl rfl rfl (by kernel_rfl) np sf ?_
  refine Pw.takeP 3 (nb 12 11) rfl rfl rfl rfl (by kernel_rfl) np sf ?_
  refine Pw.takeF 4 (nb 12 27) rfl rfl inferInstance rfl rfl rfl (by kernel_rfl) np sf ?_
  refine Pw.two 2 5 (nb 12 31) (nb 12 59) rfl rfl (by kernel_rfl) ?_ ?_
  · skip
    refine Pw.callL (Stakes_ct x.oth x.z hl) rfl rfl rfl (by kernel_rfl) rfl rfl (fun w h => (hv w h)) ?_
    intro q hq
    refine Pw.held sf ?_
    refine Pw.one 5 (nb 12 63) rfl (by kernel_rfl) ?_
    refine Pw.lit1 rfl rfl rfl rfl rfl rfl rfl rfl rfl (fun g5 => freeHead ?_)
    refine Pw.held sf ?_
    refine Pw.one 6 (nb 12 127) rfl (by kernel_rfl) ?_
    refine Pw.push (s := q) (m := x.oth.length) (news := [.int .u64 x.own]) (L0 := []) rfl rfl rfl rfl rfl rfl rfl hq rfl (fun u hu => by rw [List.mem_singleton.1 hu]; rfl) (fun w hs j u hu => by
      have h1 : w.heap[g5]? = some (row [.int .u64 x.own] 29) := by first | exact fact0 hs.all | exact fact1 hs.all
      rw [add_none, cell_of_blk h1]
      simpa using hu) (by omega) (by simp only [maxLen]; omega) (by show (x.oth.length + 1) * 8 ≤ _; omega) rfl rfl (fun q' hq' => ?_)
    have e2 : (stk x.oth).map (Value.int .u64) ++ [.int .u64 x.own] = (stk x.oth ++ [x.own]).map (Value.int .u64) := by simp
    rw [e2] at hq' ⊢
    refine Pw.freeG hq' (fun A c e hc => ?_)
    refine Pw.re (d := 10) (v' := sl (stk x.oth ++ [x.own]) (A, c)) rfl (by rw [e]; show Value.slice A _ c = Value.slice A (stk x.oth ++ [x.own]).length c; rw [List.length_append, stk_len]; rfl) ?_
    refine Pw.held sf ?_
    refine Pw.one 7 (nb 12 255) rfl (by kernel_rfl) ?_
    refine Pw.call (mSum_ct (stk x.oth ++ [x.own]) (A, c) hb) rfl rfl rfl (by kernel_rfl) rfl rfl (fun w h => ints_of_cells (by rw [List.length_append, stk_len]; exact hc) (by rw [List.length_append, stk_len]; simp only [maxLen, List.length_singleton]; omega) (by first | exact fact0 h | exact fact1 h)) ?_
    intro _ _
    refine Pw.held sf ?_
    refine Pw.takeP 8 (nb 12 511) rfl rfl rfl rfl (by kernel_rfl) np sf ?_
    refine Pw.takeP 9 (nb 12 1023) rfl rfl rfl rfl (by kernel_rfl) np sf ?_
    refine Pw.takeP 10 (nb 12 2047) rfl rfl rfl rfl (by kernel_rfl) np sf ?_
    refine Pw.takeP 11 (nb 12 4095) rfl rfl rfl rfl (by kernel_rfl) np sf ?_
    refine Pw.done (by kernel_rfl) ?_
    repeat (first | (with_reducible first | refine Pw.seq ?_ | refine Pw.region ?_ | refine Pw.nil ?_ | refine Pw.then_ ?_ | refine Pw.skip ?_ | refine Pw.block ?_ | refine Pw.exit ?_ | refine Pw.inX ?_ | refine Pw.inN ?_ | refine Pw.inR ?_ | refine Pw.thenX ?_ | refine Pw.thenR ?_ | refine Pw.ret ?_) | refine Pw.list (Pw.pure rfl rfl rfl ?_) | refine Pw.inY rfl ?_ | refine Pw.list (Pw.off rfl rfl ?_) | refine Pw.condT rfl ?_ | refine Pw.condF rfl ?_)
    exact Pw.ret_ (x := ()) (.tmp rfl (.tmp rfl .nil)) rfl trivial (fun w h => by trivial)
  · skip
    refine Pw.lit1 rfl rfl rfl rfl rfl rfl rfl rfl rfl (fun g5 => freeHead ?_)
    refine Pw.held sf ?_
    refine Pw.one 2 (nb 12 63) rfl (by kernel_rfl) ?_
    refine Pw.callL (Stakes_ct x.oth x.z hl) rfl rfl rfl (by kernel_rfl) rfl rfl (fun w h => (hv w h)) ?_
    intro q hq
    refine Pw.held sf ?_
    refine Pw.one 6 (nb 12 127) rfl (by kernel_rfl) ?_
    refine Pw.push (s := q) (m := x.oth.length) (news := [.int .u64 x.own]) (L0 := []) rfl rfl rfl rfl rfl rfl rfl hq rfl (fun u hu => by rw [List.mem_singleton.1 hu]; rfl) (fun w hs j u hu => by
      have h1 : w.heap[g5]? = some (row [.int .u64 x.own] 29) := by first | exact fact0 hs.all | exact fact1 hs.all
      rw [add_none, cell_of_blk h1]
      simpa using hu) (by omega) (by simp only [maxLen]; omega) (by show (x.oth.length + 1) * 8 ≤ _; omega) rfl rfl (fun q' hq' => ?_)
    have e2 : (stk x.oth).map (Value.int .u64) ++ [.int .u64 x.own] = (stk x.oth ++ [x.own]).map (Value.int .u64) := by simp
    rw [e2] at hq' ⊢
    refine Pw.freeG hq' (fun A c e hc => ?_)
    refine Pw.re (d := 10) (v' := sl (stk x.oth ++ [x.own]) (A, c)) rfl (by rw [e]; show Value.slice A _ c = Value.slice A (stk x.oth ++ [x.own]).length c; rw [List.length_append, stk_len]; rfl) ?_
    refine Pw.held sf ?_
    refine Pw.one 7 (nb 12 255) rfl (by kernel_rfl) ?_
    refine Pw.call (mSum_ct (stk x.oth ++ [x.own]) (A, c) hb) rfl rfl rfl (by kernel_rfl) rfl rfl (fun w h => ints_of_cells (by rw [List.length_append, stk_len]; exact hc) (by rw [List.length_append, stk_len]; simp only [maxLen, List.length_singleton]; omega) (by first | exact fact0 h | exact fact1 h)) ?_
    intro _ _
    refine Pw.held sf ?_
    refine Pw.takeP 8 (nb 12 511) rfl rfl rfl rfl (by kernel_rfl) np sf ?_
    refine Pw.takeP 9 (nb 12 1023) rfl rfl rfl rfl (by kernel_rfl) np sf ?_
    refine Pw.takeP 10 (nb 12 2047) rfl rfl rfl rfl (by kernel_rfl) np sf ?_
    refine Pw.takeP 11 (nb 12 4095) rfl rfl rfl rfl (by kernel_rfl) np sf ?_
    refine Pw.done (by kernel_rfl) ?_
    repeat (first | (with_reducible first | refine Pw.seq ?_ | refine Pw.region ?_ | refine Pw.nil ?_ | refine Pw.then_ ?_ | refine Pw.skip ?_ | refine Pw.block ?_ | refine Pw.exit ?_ | refine Pw.inX ?_ | refine Pw.inN ?_ | refine Pw.inR ?_ | refine Pw.thenX ?_ | refine Pw.thenR ?_ | refine Pw.ret ?_) | refine Pw.list (Pw.pure rfl rfl rfl ?_) | refine Pw.inY rfl ?_ | refine Pw.list (Pw.off rfl rfl ?_) | refine Pw.condT rfl ?_ | refine Pw.condF rfl ?_)
    exact Pw.ret_ (x := ()) (.tmp rfl (.tmp rfl .nil)) rfl trivial (fun w h => by trivial)
end Go.Proofs.Wk
/- Walks of layer 10 (graph): Formed. -/
namespace Go.Proofs.Wk
open Go.RowKit
set_option maxRecDepth 100000
set_option maxHeartbeats 1000000
attribute [local irreducible] Pw OpG
set_option linter.unusedVariables false
set_option linter.unusedSimpArgs false
theorem vOk_iff {vs : List Vtr} {i : Nat} {v : Vtr} (h : vs[i]? = some v) : vOk vs i = true ↔ sumSt (vs.take i) + v.st ≤ 18446744073709551615 ∧ ¬ v.id ∈ idsOf (vs.take i) ∧ 0 ≤ v.id ∧ v.id ≤ 2147483647 ∧ v.pk.length ≤ 8 ∧ risB v.pk = true := by
  unfold vOk; rw [h]; simp [Bool.and_eq_true, decide_eq_true_eq]
theorem vOk_no {vs : List Vtr} {i : Nat} {v : Vtr} (h : vs[i]? = some v) (hn : ¬ (sumSt (vs.take i) + v.st ≤ 18446744073709551615 ∧ ¬ v.id ∈ idsOf (vs.take i) ∧ 0 ≤ v.id ∧ v.id ≤ 2147483647 ∧ v.pk.length ≤ 8 ∧ risB v.pk = true)) : vOk vs i = false := by
  rw [← Bool.not_eq_true, vOk_iff h]; exact hn
theorem formB_v {s : Sn} {i : Nat} (hi : i < s.vs.length) (h : vOk s.vs i = false) : formB s = false := by
  unfold formB; rw [allB_false hi h]; simp
theorem formB_no {s : Sn} (h : ¬ (s.vs.length ≤ 32 ∧ s.cs.length ≤ 32 ∧ risB s.cs = true)) : formB s = false := by
  unfold formB
  rw [← Bool.not_eq_true]
  intro e
  simp only [Bool.and_eq_true, decide_eq_true_eq] at e
  exact h ⟨e.1, e.2.1, e.2.2.1⟩
theorem formB_yes {s : Sn} (h1 : s.vs.length ≤ 32) (h2 : s.cs.length ≤ 32) (h3 : risB s.cs = true) (h4 : ∀ j, j < s.vs.length → vOk s.vs j = true) : formB s = true := by
  unfold formB; rw [allB_true h4]; simp [h1, h2, h3]
theorem idsOf_snoc {vs : List Vtr} {i : Nat} {v : Vtr} (h : vs[i]? = some v) : idsOf (vs.take (i + 1)) = idsOf (vs.take i) ++ [v.id] := by
  unfold idsOf; rw [take_snoc h, List.map_append]; rfl
theorem gFormed_ct (s : Sn) (hW : snW s) : Ct Try.prog 14 #[snV s] (snF s) (fun _ : Unit => .bool (formB s)) Tt (fun _ _ => True) := by
  obtain ⟨vs, ⟨A, c⟩, cs, zc⟩ := s
  refine Ct.start Try.func14 rfl rfl (slots_of rfl slots1) (fun D w0 => Pw.facts sn2 ?_)
  refine Pw.use (p := vs.length ≤ maxLen) (fun w h => (fact0 h).top) (fun htop => ?_)
  have htop := top63 htop
  repeat (first | (with_reducible first | refine Pw.seq ?_ | refine Pw.region ?_ | refine Pw.nil ?_ | refine Pw.then_ ?_ | refine Pw.skip ?_ | refine Pw.block ?_ | refine Pw.exit ?_ | refine Pw.inX ?_ | refine Pw.inN ?_ | refine Pw.inR ?_ | refine Pw.thenX ?_ | refine Pw.thenR ?_ | refine Pw.ret ?_) | refine Pw.list (Pw.pure rfl rfl rfl ?_) | refine Pw.inY rfl ?_ | refine Pw.list (Pw.off rfl rfl ?_) | refine Pw.condT rfl ?_ | refine Pw.condF rfl ?_)
  refine Pw.list (Pw.box rfl rfl rfl rfl (fun g1 => freeHead ?_))
  repeat (first | (with_reducible first | refine Pw.seq ?_ | refine Pw.region ?_ | refine Pw.nil ?_ | refine Pw.then_ ?_ | refine Pw.skip ?_ | refine Pw.block ?_ | refine Pw.exit ?_ | refine Pw.inX ?_ | refine Pw.inN ?_ | refine Pw.inR ?_ | refine Pw.thenX ?_ | refine Pw.thenR ?_ | refine Pw.ret ?_) | refine Pw.list (Pw.pure rfl rfl rfl ?_) | refine Pw.inY rfl ?_ | refine Pw.list (Pw.off rfl rfl ?_) | refine Pw.condT rfl ?_ | refine Pw.condF rfl ?_ | refine Pw.list (Pw.box rfl rfl rfl rfl (fun _ => ?_)) | refine Pw.list (Pw.alloc rfl rfl rfl rfl rfl (fun _ => ?_)) | refine Pw.list (Pw.build rfl rfl rfl rfl ?_) | refine Pw.list (Pw.ld rfl inferInstance rfl rfl rfl ?_) | refine Pw.list (Pw.sto rfl rfl inferInstance rfl rfl rfl rfl rfl inferInstance rfl ?_))
  refine Pw.split 13 rfl (fun c1 => ?_) (fun c1 => ?_)
  · dsimp only at c1
    repeat (first | (with_reducible first | refine Pw.seq ?_ | refine Pw.region ?_ | refine Pw.nil ?_ | refine Pw.then_ ?_ | refine Pw.skip ?_ | refine Pw.block ?_ | refine Pw.exit ?_ | refine Pw.inX ?_ | refine Pw.inN ?_ | refine Pw.inR ?_ | refine Pw.thenX ?_ | refine Pw.thenR ?_ | refine Pw.ret ?_) | refine Pw.list (Pw.pure rfl rfl rfl ?_) | refine Pw.inY rfl ?_ | refine Pw.list (Pw.off rfl rfl ?_) | refine Pw.condT rfl ?_ | refine Pw.condF rfl ?_ | refine Pw.list (Pw.box rfl rfl rfl rfl (fun _ => ?_)) | refine Pw.list (Pw.alloc rfl rfl rfl rfl rfl (fun _ => ?_)) | refine Pw.list (Pw.build rfl rfl rfl rfl ?_) | refine Pw.list (Pw.ld rfl inferInstance rfl rfl rfl ?_) | refine Pw.list (Pw.sto rfl rfl inferInstance rfl rfl rfl rfl rfl inferInstance rfl ?_))
    exact Pw.ret_ (x := ()) (.tmp rfl .nil) (congrArg Value.bool (formB_no (by simp only; omega)).symm) trivial (fun w h => by trivial)
  repeat (first | (with_reducible first | refine Pw.seq ?_ | refine Pw.region ?_ | refine Pw.nil ?_ | refine Pw.then_ ?_ | refine Pw.skip ?_ | refine Pw.block ?_ | refine Pw.exit ?_ | refine Pw.inX ?_ | refine Pw.inN ?_ | refine Pw.inR ?_ | refine Pw.thenX ?_ | refine Pw.thenR ?_ | refine Pw.ret ?_) | refine Pw.list (Pw.pure rfl rfl rfl ?_) | refine Pw.inY rfl ?_ | refine Pw.list (Pw.off rfl rfl ?_) | refine Pw.condT rfl ?_ | refine Pw.condF rfl ?_ | refine Pw.list (Pw.box rfl rfl rfl rfl (fun _ => ?_)) | refine Pw.list (Pw.alloc rfl rfl rfl rfl rfl (fun _ => ?_)) | refine Pw.list (Pw.build rfl rfl rfl rfl ?_) | refine Pw.list (Pw.ld rfl inferInstance rfl rfl rfl ?_) | refine Pw.list (Pw.sto rfl rfl inferInstance rfl rfl rfl rfl rfl inferInstance rfl ?_))
  refine Pw.split 19 rfl (fun c2 => ?_) (fun c2 => ?_)
  · dsimp only at c2
    repeat (first | (with_reducible first | refine Pw.seq ?_ | refine Pw.region ?_ | refine Pw.nil ?_ | refine Pw.then_ ?_ | refine Pw.skip ?_ | refine Pw.block ?_ | refine Pw.exit ?_ | refine Pw.inX ?_ | refine Pw.inN ?_ | refine Pw.inR ?_ | refine Pw.thenX ?_ | refine Pw.thenR ?_ | refine Pw.ret ?_) | refine Pw.list (Pw.pure rfl rfl rfl ?_) | refine Pw.inY rfl ?_ | refine Pw.list (Pw.off rfl rfl ?_) | refine Pw.condT rfl ?_ | refine Pw.condF rfl ?_ | refine Pw.list (Pw.box rfl rfl rfl rfl (fun _ => ?_)) | refine Pw.list (Pw.alloc rfl rfl rfl rfl rfl (fun _ => ?_)) | refine Pw.list (Pw.build rfl rfl rfl rfl ?_) | refine Pw.list (Pw.ld rfl inferInstance rfl rfl rfl ?_) | refine Pw.list (Pw.sto rfl rfl inferInstance rfl rfl rfl rfl rfl inferInstance rfl ?_))
    exact Pw.ret_ (x := ()) (.tmp rfl .nil) (congrArg Value.bool (formB_no (by simp only; omega)).symm) trivial (fun w h => by trivial)
  dsimp only at c1 c2
  repeat (first | (with_reducible first | refine Pw.seq ?_ | refine Pw.region ?_ | refine Pw.nil ?_ | refine Pw.then_ ?_ | refine Pw.skip ?_ | refine Pw.block ?_ | refine Pw.exit ?_ | refine Pw.inX ?_ | refine Pw.inN ?_ | refine Pw.inR ?_ | refine Pw.thenX ?_ | refine Pw.thenR ?_ | refine Pw.ret ?_) | refine Pw.list (Pw.pure rfl rfl rfl ?_) | refine Pw.inY rfl ?_ | refine Pw.list (Pw.off rfl rfl ?_) | refine Pw.condT rfl ?_ | refine Pw.condF rfl ?_ | refine Pw.list (Pw.box rfl rfl rfl rfl (fun _ => ?_)) | refine Pw.list (Pw.alloc rfl rfl rfl rfl rfl (fun _ => ?_)) | refine Pw.list (Pw.build rfl rfl rfl rfl ?_) | refine Pw.list (Pw.ld rfl inferInstance rfl rfl rfl ?_) | refine Pw.list (Pw.sto rfl rfl inferInstance rfl rfl rfl rfl rfl inferInstance rfl ?_))
  refine Pw.list (Pw.call (rising_ct cs zc) rfl rfl rfl (by kernel_rfl) rfl rfl (fun w h => (hv w h)) ?_)
  intro _ _
  cases hr : risB cs
  · repeat (first | (with_reducible first | refine Pw.seq ?_ | refine Pw.region ?_ | refine Pw.nil ?_ | refine Pw.then_ ?_ | refine Pw.skip ?_ | refine Pw.block ?_ | refine Pw.exit ?_ | refine Pw.inX ?_ | refine Pw.inN ?_ | refine Pw.inR ?_ | refine Pw.thenX ?_ | refine Pw.thenR ?_ | refine Pw.ret ?_) | refine Pw.list (Pw.pure rfl rfl rfl ?_) | refine Pw.inY rfl ?_ | refine Pw.list (Pw.off rfl rfl ?_) | refine Pw.condT rfl ?_ | refine Pw.condF rfl ?_ | refine Pw.list (Pw.box rfl rfl rfl rfl (fun _ => ?_)) | refine Pw.list (Pw.alloc rfl rfl rfl rfl rfl (fun _ => ?_)) | refine Pw.list (Pw.build rfl rfl rfl rfl ?_) | refine Pw.list (Pw.ld rfl inferInstance rfl rfl rfl ?_) | refine Pw.list (Pw.sto rfl rfl inferInstance rfl rfl rfl rfl rfl inferInstance rfl ?_))
    exact Pw.ret_ (x := ()) (.tmp rfl .nil) (congrArg Value.bool (formB_no (by simp [hr])).symm) trivial (fun w h => by trivial)
  repeat (first | (with_reducible first | refine Pw.seq ?_ | refine Pw.region ?_ | refine Pw.nil ?_ | refine Pw.then_ ?_ | refine Pw.skip ?_ | refine Pw.block ?_ | refine Pw.exit ?_ | refine Pw.inX ?_ | refine Pw.inN ?_ | refine Pw.inR ?_ | refine Pw.thenX ?_ | refine Pw.thenR ?_ | refine Pw.ret ?_) | refine Pw.list (Pw.pure rfl rfl rfl ?_) | refine Pw.inY rfl ?_ | refine Pw.list (Pw.off rfl rfl ?_) | refine Pw.condT rfl ?_ | refine Pw.condF rfl ?_ | refine Pw.list (Pw.box rfl rfl rfl rfl (fun _ => ?_)) | refine Pw.list (Pw.alloc rfl rfl rfl rfl rfl (fun _ => ?_)) | refine Pw.list (Pw.build rfl rfl rfl rfl ?_) | refine Pw.list (Pw.ld rfl inferInstance rfl rfl rfl ?_) | refine Pw.list (Pw.sto rfl rfl inferInstance rfl rfl rfl rfl rfl inferInstance rfl ?_))
  refine Pw.list (Pw.makeMap rfl rfl (fun g3 => ?_))
  repeat (first | (with_reducible first | refine Pw.seq ?_ | refine Pw.region ?_ | refine Pw.nil ?_ | refine Pw.then_ ?_ | refine Pw.skip ?_ | refine Pw.block ?_ | refine Pw.exit ?_ | refine Pw.inX ?_ | refine Pw.inN ?_ | refine Pw.inR ?_ | refine Pw.thenX ?_ | refine Pw.thenR ?_ | refine Pw.ret ?_) | refine Pw.list (Pw.pure rfl rfl rfl ?_) | refine Pw.inY rfl ?_ | refine Pw.list (Pw.off rfl rfl ?_) | refine Pw.condT rfl ?_ | refine Pw.condF rfl ?_ | refine Pw.list (Pw.box rfl rfl rfl rfl (fun _ => ?_)) | refine Pw.list (Pw.alloc rfl rfl rfl rfl rfl (fun _ => ?_)) | refine Pw.list (Pw.build rfl rfl rfl rfl ?_) | refine Pw.list (Pw.ld rfl inferInstance rfl rfl rfl ?_) | refine Pw.list (Pw.sto rfl rfl inferInstance rfl rfl rfl rfl rfl inferInstance rfl ?_))
  refine Pw.loopJ (σ := Nat) (fun i => i ≤ vs.length ∧ (∀ j, j < i → vOk vs j = true) ∧ sumSt (vs.take i) ≤ 18446744073709551615) (fun i => ⟨[(1, .pointer (some ⟨g1, 0, none⟩)), (3, .map (some g3)), (4, .int .u64 (sumSt (vs.take i))), (27, .slice A vs.length c), (28, .int .i64 vs.length), (29, .int .i64 i)], [⟨g3, mapO (setM (idsOf (vs.take i)))⟩], [VS vs (A, c)]⟩) (fun i => vs.length - i) 0 ⟨Nat.zero_le _, fun j hj => absurd hj (Nat.not_lt_zero j), by simp [sumSt]⟩ (Pw.enter ⟨rfl, rfl, rfl, rfl, rfl, rfl, trivial⟩ (fun w h => allCons (hv w h) allNil)) ?_
  rintro i ⟨hi, hj, hsum⟩
  dsimp only at hi hj hsum ⊢
  repeat (first | (with_reducible first | refine Pw.seq ?_ | refine Pw.region ?_ | refine Pw.nil ?_ | refine Pw.then_ ?_ | refine Pw.skip ?_ | refine Pw.block ?_ | refine Pw.exit ?_ | refine Pw.inX ?_ | refine Pw.inN ?_ | refine Pw.inR ?_ | refine Pw.thenX ?_ | refine Pw.thenR ?_ | refine Pw.ret ?_) | refine Pw.list (Pw.pure rfl rfl rfl ?_) | refine Pw.inY rfl ?_ | refine Pw.list (Pw.off rfl rfl ?_) | refine Pw.condT rfl ?_ | refine Pw.condF rfl ?_)
  refine Pw.condD rfl (fun c3 => ?_) (fun c3 => ?_)
  · have hlt : i < vs.length := by omega
    obtain ⟨v, hvi, hm⟩ := get_at hlt
    have hst := hW v hm
    have hs0 : 0 ≤ sumSt (vs.take i) := sumSt_nonneg (fun u hu => (hW u (List.mem_of_mem_take hu)).1)
    repeat (first | (with_reducible first | refine Pw.seq ?_ | refine Pw.region ?_ | refine Pw.nil ?_ | refine Pw.then_ ?_ | refine Pw.skip ?_ | refine Pw.block ?_ | refine Pw.exit ?_ | refine Pw.inX ?_ | refine Pw.inN ?_ | refine Pw.inR ?_ | refine Pw.thenX ?_ | refine Pw.thenR ?_ | refine Pw.ret ?_) | refine Pw.list (Pw.pure rfl rfl rfl ?_) | refine Pw.inY rfl ?_ | refine Pw.list (Pw.off rfl rfl ?_) | refine Pw.condT rfl ?_ | refine Pw.condF rfl ?_)
    refine Pw.list (Pw.index rfl rfl rfl rfl (Int.natCast_nonneg i) c3 (fun w h => (fact0 h).has (Int.natCast_nonneg i) c3) rfl rfl ?_)
    rintro ad rfl
    refine Pw.list (Pw.loadR v rfl inferInstance rfl (by rw [Int.toNat_natCast]; exact hvi) (by kernel_rfl) rfl rfl ?_)
    refine Pw.re (d := 32) (v' := vtV v) rfl rfl ?_
    repeat (first | (with_reducible first | refine Pw.seq ?_ | refine Pw.region ?_ | refine Pw.nil ?_ | refine Pw.then_ ?_ | refine Pw.skip ?_ | refine Pw.block ?_ | refine Pw.exit ?_ | refine Pw.inX ?_ | refine Pw.inN ?_ | refine Pw.inR ?_ | refine Pw.thenX ?_ | refine Pw.thenR ?_ | refine Pw.ret ?_) | refine Pw.list (Pw.pure rfl rfl rfl ?_) | refine Pw.inY rfl ?_ | refine Pw.list (Pw.off rfl rfl ?_) | refine Pw.condT rfl ?_ | refine Pw.condF rfl ?_ | refine Pw.list (Pw.box rfl rfl rfl rfl (fun _ => ?_)) | refine Pw.list (Pw.alloc rfl rfl rfl rfl rfl (fun _ => ?_)) | refine Pw.list (Pw.build rfl rfl rfl rfl ?_) | refine Pw.list (Pw.ld rfl inferInstance rfl rfl rfl ?_) | refine Pw.list (Pw.sto rfl rfl inferInstance rfl rfl rfl rfl rfl inferInstance rfl ?_))
    refine freeHead ?_
    have ha := mAdd_ct (sumSt (vs.take i)) v.st ⟨hs0, hsum⟩ hst
    refine Pw.list (Pw.call ha rfl rfl rfl (by kernel_rfl) rfl rfl (fun w h => trivial) ?_)
    intro _ _
    by_cases hfit : sumSt (vs.take i) + v.st ≤ 18446744073709551615
    · rw [if_pos hfit, if_pos hfit]
      repeat (first | (with_reducible first | refine Pw.seq ?_ | refine Pw.region ?_ | refine Pw.nil ?_ | refine Pw.then_ ?_ | refine Pw.skip ?_ | refine Pw.block ?_ | refine Pw.exit ?_ | refine Pw.inX ?_ | refine Pw.inN ?_ | refine Pw.inR ?_ | refine Pw.thenX ?_ | refine Pw.thenR ?_ | refine Pw.ret ?_) | refine Pw.list (Pw.pure rfl rfl rfl ?_) | refine Pw.inY rfl ?_ | refine Pw.list (Pw.off rfl rfl ?_) | refine Pw.condT rfl ?_ | refine Pw.condF rfl ?_ | refine Pw.list (Pw.box rfl rfl rfl rfl (fun _ => ?_)) | refine Pw.list (Pw.alloc rfl rfl rfl rfl rfl (fun _ => ?_)) | refine Pw.list (Pw.build rfl rfl rfl rfl ?_) | refine Pw.list (Pw.ld rfl inferInstance rfl rfl rfl ?_) | refine Pw.list (Pw.sto rfl rfl inferInstance rfl rfl rfl rfl rfl inferInstance rfl ?_))
      refine Pw.list (Pw.lookup rfl rfl rfl rfl rfl rfl (List.mem_cons_self ..) rfl rfl ?_)
      rw [mval_set]
      repeat (first | (with_reducible first | refine Pw.seq ?_ | refine Pw.region ?_ | refine Pw.nil ?_ | refine Pw.then_ ?_ | refine Pw.skip ?_ | refine Pw.block ?_ | refine Pw.exit ?_ | refine Pw.inX ?_ | refine Pw.inN ?_ | refine Pw.inR ?_ | refine Pw.thenX ?_ | refine Pw.thenR ?_ | refine Pw.ret ?_) | refine Pw.list (Pw.pure rfl rfl rfl ?_) | refine Pw.inY rfl ?_ | refine Pw.list (Pw.off rfl rfl ?_) | refine Pw.condT rfl ?_ | refine Pw.condF rfl ?_ | refine Pw.list (Pw.box rfl rfl rfl rfl (fun _ => ?_)) | refine Pw.list (Pw.alloc rfl rfl rfl rfl rfl (fun _ => ?_)) | refine Pw.list (Pw.build rfl rfl rfl rfl ?_) | refine Pw.list (Pw.ld rfl inferInstance rfl rfl rfl ?_) | refine Pw.list (Pw.sto rfl rfl inferInstance rfl rfl rfl rfl rfl inferInstance rfl ?_))
      refine Pw.split 48 rfl (fun c4 => ?_) (fun c4 => ?_)
      · repeat (first | (with_reducible first | refine Pw.seq ?_ | refine Pw.region ?_ | refine Pw.nil ?_ | refine Pw.then_ ?_ | refine Pw.skip ?_ | refine Pw.block ?_ | refine Pw.exit ?_ | refine Pw.inX ?_ | refine Pw.inN ?_ | refine Pw.inR ?_ | refine Pw.thenX ?_ | refine Pw.thenR ?_ | refine Pw.ret ?_) | refine Pw.list (Pw.pure rfl rfl rfl ?_) | refine Pw.inY rfl ?_ | refine Pw.list (Pw.off rfl rfl ?_) | refine Pw.condT rfl ?_ | refine Pw.condF rfl ?_ | refine Pw.list (Pw.box rfl rfl rfl rfl (fun _ => ?_)) | refine Pw.list (Pw.alloc rfl rfl rfl rfl rfl (fun _ => ?_)) | refine Pw.list (Pw.build rfl rfl rfl rfl ?_) | refine Pw.list (Pw.ld rfl inferInstance rfl rfl rfl ?_) | refine Pw.list (Pw.sto rfl rfl inferInstance rfl rfl rfl rfl rfl inferInstance rfl ?_))
        exact Pw.ret_ (x := ()) (.tmp rfl .nil) (congrArg Value.bool (formB_v hlt (vOk_no hvi (by simp [c4]))).symm) trivial (fun w h => by trivial)
      repeat (first | (with_reducible first | refine Pw.seq ?_ | refine Pw.region ?_ | refine Pw.nil ?_ | refine Pw.then_ ?_ | refine Pw.skip ?_ | refine Pw.block ?_ | refine Pw.exit ?_ | refine Pw.inX ?_ | refine Pw.inN ?_ | refine Pw.inR ?_ | refine Pw.thenX ?_ | refine Pw.thenR ?_ | refine Pw.ret ?_) | refine Pw.list (Pw.pure rfl rfl rfl ?_) | refine Pw.inY rfl ?_ | refine Pw.list (Pw.off rfl rfl ?_) | refine Pw.condT rfl ?_ | refine Pw.condF rfl ?_ | refine Pw.list (Pw.box rfl rfl rfl rfl (fun _ => ?_)) | refine Pw.list (Pw.alloc rfl rfl rfl rfl rfl (fun _ => ?_)) | refine Pw.list (Pw.build rfl rfl rfl rfl ?_) | refine Pw.list (Pw.ld rfl inferInstance rfl rfl rfl ?_) | refine Pw.list (Pw.sto rfl rfl inferInstance rfl rfl rfl rfl rfl inferInstance rfl ?_))
      refine Pw.split 53 rfl (fun c5 => ?_) (fun c5 => ?_)
      · repeat (first | (with_reducible first | refine Pw.seq ?_ | refine Pw.region ?_ | refine Pw.nil ?_ | refine Pw.then_ ?_ | refine Pw.skip ?_ | refine Pw.block ?_ | refine Pw.exit ?_ | refine Pw.inX ?_ | refine Pw.inN ?_ | refine Pw.inR ?_ | refine Pw.thenX ?_ | refine Pw.thenR ?_ | refine Pw.ret ?_) | refine Pw.list (Pw.pure rfl rfl rfl ?_) | refine Pw.inY rfl ?_ | refine Pw.list (Pw.off rfl rfl ?_) | refine Pw.condT rfl ?_ | refine Pw.condF rfl ?_ | refine Pw.list (Pw.box rfl rfl rfl rfl (fun _ => ?_)) | refine Pw.list (Pw.alloc rfl rfl rfl rfl rfl (fun _ => ?_)) | refine Pw.list (Pw.build rfl rfl rfl rfl ?_) | refine Pw.list (Pw.ld rfl inferInstance rfl rfl rfl ?_) | refine Pw.list (Pw.sto rfl rfl inferInstance rfl rfl rfl rfl rfl inferInstance rfl ?_))
        exact Pw.ret_ (x := ()) (.tmp rfl .nil) (congrArg Value.bool (formB_v hlt (vOk_no hvi (by omega))).symm) trivial (fun w h => by trivial)
      repeat (first | (with_reducible first | refine Pw.seq ?_ | refine Pw.region ?_ | refine Pw.nil ?_ | refine Pw.then_ ?_ | refine Pw.skip ?_ | refine Pw.block ?_ | refine Pw.exit ?_ | refine Pw.inX ?_ | refine Pw.inN ?_ | refine Pw.inR ?_ | refine Pw.thenX ?_ | refine Pw.thenR ?_ | refine Pw.ret ?_) | refine Pw.list (Pw.pure rfl rfl rfl ?_) | refine Pw.inY rfl ?_ | refine Pw.list (Pw.off rfl rfl ?_) | refine Pw.condT rfl ?_ | refine Pw.condF rfl ?_ | refine Pw.list (Pw.box rfl rfl rfl rfl (fun _ => ?_)) | refine Pw.list (Pw.alloc rfl rfl rfl rfl rfl (fun _ => ?_)) | refine Pw.list (Pw.build rfl rfl rfl rfl ?_) | refine Pw.list (Pw.ld rfl inferInstance rfl rfl rfl ?_) | refine Pw.list (Pw.sto rfl rfl inferInstance rfl rfl rfl rfl rfl inferInstance rfl ?_))
      refine Pw.split 58 rfl (fun c6 => ?_) (fun c6 => ?_)
      · repeat (first | (with_reducible first | refine Pw.seq ?_ | refine Pw.region ?_ | refine Pw.nil ?_ | refine Pw.then_ ?_ | refine Pw.skip ?_ | refine Pw.block ?_ | refine Pw.exit ?_ | refine Pw.inX ?_ | refine Pw.inN ?_ | refine Pw.inR ?_ | refine Pw.thenX ?_ | refine Pw.thenR ?_ | refine Pw.ret ?_) | refine Pw.list (Pw.pure rfl rfl rfl ?_) | refine Pw.inY rfl ?_ | refine Pw.list (Pw.off rfl rfl ?_) | refine Pw.condT rfl ?_ | refine Pw.condF rfl ?_ | refine Pw.list (Pw.box rfl rfl rfl rfl (fun _ => ?_)) | refine Pw.list (Pw.alloc rfl rfl rfl rfl rfl (fun _ => ?_)) | refine Pw.list (Pw.build rfl rfl rfl rfl ?_) | refine Pw.list (Pw.ld rfl inferInstance rfl rfl rfl ?_) | refine Pw.list (Pw.sto rfl rfl inferInstance rfl rfl rfl rfl rfl inferInstance rfl ?_))
        exact Pw.ret_ (x := ()) (.tmp rfl .nil) (congrArg Value.bool (formB_v hlt (vOk_no hvi (by omega))).symm) trivial (fun w h => by trivial)
      repeat (first | (with_reducible first | refine Pw.seq ?_ | refine Pw.region ?_ | refine Pw.nil ?_ | refine Pw.then_ ?_ | refine Pw.skip ?_ | refine Pw.block ?_ | refine Pw.exit ?_ | refine Pw.inX ?_ | refine Pw.inN ?_ | refine Pw.inR ?_ | refine Pw.thenX ?_ | refine Pw.thenR ?_ | refine Pw.ret ?_) | refine Pw.list (Pw.pure rfl rfl rfl ?_) | refine Pw.inY rfl ?_ | refine Pw.list (Pw.off rfl rfl ?_) | refine Pw.condT rfl ?_ | refine Pw.condF rfl ?_ | refine Pw.list (Pw.box rfl rfl rfl rfl (fun _ => ?_)) | refine Pw.list (Pw.alloc rfl rfl rfl rfl rfl (fun _ => ?_)) | refine Pw.list (Pw.build rfl rfl rfl rfl ?_) | refine Pw.list (Pw.ld rfl inferInstance rfl rfl rfl ?_) | refine Pw.list (Pw.sto rfl rfl inferInstance rfl rfl rfl rfl rfl inferInstance rfl ?_))
      refine Pw.split 64 rfl (fun c7 => ?_) (fun c7 => ?_)
      · repeat (first | (with_reducible first | refine Pw.seq ?_ | refine Pw.region ?_ | refine Pw.nil ?_ | refine Pw.then_ ?_ | refine Pw.skip ?_ | refine Pw.block ?_ | refine Pw.exit ?_ | refine Pw.inX ?_ | refine Pw.inN ?_ | refine Pw.inR ?_ | refine Pw.thenX ?_ | refine Pw.thenR ?_ | refine Pw.ret ?_) | refine Pw.list (Pw.pure rfl rfl rfl ?_) | refine Pw.inY rfl ?_ | refine Pw.list (Pw.off rfl rfl ?_) | refine Pw.condT rfl ?_ | refine Pw.condF rfl ?_ | refine Pw.list (Pw.box rfl rfl rfl rfl (fun _ => ?_)) | refine Pw.list (Pw.alloc rfl rfl rfl rfl rfl (fun _ => ?_)) | refine Pw.list (Pw.build rfl rfl rfl rfl ?_) | refine Pw.list (Pw.ld rfl inferInstance rfl rfl rfl ?_) | refine Pw.list (Pw.sto rfl rfl inferInstance rfl rfl rfl rfl rfl inferInstance rfl ?_))
        exact Pw.ret_ (x := ()) (.tmp rfl .nil) (congrArg Value.bool (formB_v hlt (vOk_no hvi (by omega))).symm) trivial (fun w h => by trivial)
      repeat (first | (with_reducible first | refine Pw.seq ?_ | refine Pw.region ?_ | refine Pw.nil ?_ | refine Pw.then_ ?_ | refine Pw.skip ?_ | refine Pw.block ?_ | refine Pw.exit ?_ | refine Pw.inX ?_ | refine Pw.inN ?_ | refine Pw.inR ?_ | refine Pw.thenX ?_ | refine Pw.thenR ?_ | refine Pw.ret ?_) | refine Pw.list (Pw.pure rfl rfl rfl ?_) | refine Pw.inY rfl ?_ | refine Pw.list (Pw.off rfl rfl ?_) | refine Pw.condT rfl ?_ | refine Pw.condF rfl ?_ | refine Pw.list (Pw.box rfl rfl rfl rfl (fun _ => ?_)) | refine Pw.list (Pw.alloc rfl rfl rfl rfl rfl (fun _ => ?_)) | refine Pw.list (Pw.build rfl rfl rfl rfl ?_) | refine Pw.list (Pw.ld rfl inferInstance rfl rfl rfl ?_) | refine Pw.list (Pw.sto rfl rfl inferInstance rfl rfl rfl rfl rfl inferInstance rfl ?_))
      refine Pw.list (Pw.call (rising_ct v.pk v.z) rfl rfl rfl (by kernel_rfl) rfl rfl (fun w h => (hv w h : heldV v w)) ?_)
      intro _ _
      cases hr2 : risB v.pk
      · repeat (first | (with_reducible first | refine Pw.seq ?_ | refine Pw.region ?_ | refine Pw.nil ?_ | refine Pw.then_ ?_ | refine Pw.skip ?_ | refine Pw.block ?_ | refine Pw.exit ?_ | refine Pw.inX ?_ | refine Pw.inN ?_ | refine Pw.inR ?_ | refine Pw.thenX ?_ | refine Pw.thenR ?_ | refine Pw.ret ?_) | refine Pw.list (Pw.pure rfl rfl rfl ?_) | refine Pw.inY rfl ?_ | refine Pw.list (Pw.off rfl rfl ?_) | refine Pw.condT rfl ?_ | refine Pw.condF rfl ?_ | refine Pw.list (Pw.box rfl rfl rfl rfl (fun _ => ?_)) | refine Pw.list (Pw.alloc rfl rfl rfl rfl rfl (fun _ => ?_)) | refine Pw.list (Pw.build rfl rfl rfl rfl ?_) | refine Pw.list (Pw.ld rfl inferInstance rfl rfl rfl ?_) | refine Pw.list (Pw.sto rfl rfl inferInstance rfl rfl rfl rfl rfl inferInstance rfl ?_))
        exact Pw.ret_ (x := ()) (.tmp rfl .nil) (congrArg Value.bool (formB_v hlt (vOk_no hvi (by simp [hr2]))).symm) trivial (fun w h => by trivial)
      repeat (first | (with_reducible first | refine Pw.seq ?_ | refine Pw.region ?_ | refine Pw.nil ?_ | refine Pw.then_ ?_ | refine Pw.skip ?_ | refine Pw.block ?_ | refine Pw.exit ?_ | refine Pw.inX ?_ | refine Pw.inN ?_ | refine Pw.inR ?_ | refine Pw.thenX ?_ | refine Pw.thenR ?_ | refine Pw.ret ?_) | refine Pw.list (Pw.pure rfl rfl rfl ?_) | refine Pw.inY rfl ?_ | refine Pw.list (Pw.off rfl rfl ?_) | refine Pw.condT rfl ?_ | refine Pw.condF rfl ?_ | refine Pw.list (Pw.box rfl rfl rfl rfl (fun _ => ?_)) | refine Pw.list (Pw.alloc rfl rfl rfl rfl rfl (fun _ => ?_)) | refine Pw.list (Pw.build rfl rfl rfl rfl ?_) | refine Pw.list (Pw.ld rfl inferInstance rfl rfl rfl ?_) | refine Pw.list (Pw.sto rfl rfl inferInstance rfl rfl rfl rfl rfl inferInstance rfl ?_))
      refine Pw.list (Pw.mapNew rfl rfl rfl rfl rfl (fun p hp => ?_) .head rfl ?_)
      · obtain ⟨q, hq, rfl⟩ := List.mem_map.1 hp
        exact fun e => c4 (e ▸ hq)
      repeat (first | (with_reducible first | refine Pw.seq ?_ | refine Pw.region ?_ | refine Pw.nil ?_ | refine Pw.then_ ?_ | refine Pw.skip ?_ | refine Pw.block ?_ | refine Pw.exit ?_ | refine Pw.inX ?_ | refine Pw.inN ?_ | refine Pw.inR ?_ | refine Pw.thenX ?_ | refine Pw.thenR ?_ | refine Pw.ret ?_) | refine Pw.list (Pw.pure rfl rfl rfl ?_) | refine Pw.inY rfl ?_ | refine Pw.list (Pw.off rfl rfl ?_) | refine Pw.condT rfl ?_ | refine Pw.condF rfl ?_ | refine Pw.list (Pw.box rfl rfl rfl rfl (fun _ => ?_)) | refine Pw.list (Pw.alloc rfl rfl rfl rfl rfl (fun _ => ?_)) | refine Pw.list (Pw.build rfl rfl rfl rfl ?_) | refine Pw.list (Pw.ld rfl inferInstance rfl rfl rfl ?_) | refine Pw.list (Pw.sto rfl rfl inferInstance rfl rfl rfl rfl rfl inferInstance rfl ?_))
      refine Pw.re (d := 29) (v' := .int .i64 ((i + 1 : Nat) : Int)) rfl (congrArg (Value.int .i64) (i64s (by omega) htop)) ?_
      refine Pw.re (d := 4) (v' := .int .u64 (sumSt (vs.take (i + 1)))) rfl (congrArg (Value.int .u64) (by rw [take_snoc hvi, sumSt_snoc])) ?_
      exact Pw.again (i + 1) ⟨by omega, fun j h => by
        rcases Nat.lt_or_ge j i with h' | h'
        · exact hj j h'
        · obtain rfl : j = i := by omega
          exact (vOk_iff hvi).2 ⟨hfit, c4, by omega, by omega, by omega, hr2⟩, by rw [take_snoc hvi, sumSt_snoc]; exact hfit⟩ (by show vs.length - (i + 1) < vs.length - i; omega) ⟨rfl, rfl, rfl, rfl, rfl, rfl, trivial⟩ (by show _ = [_]; rw [idsOf_snoc hvi, ← setM_snoc]) (fun w h => allCons (hv w h) allNil)
    · rw [if_neg hfit, if_neg hfit]
      repeat (first | (with_reducible first | refine Pw.seq ?_ | refine Pw.region ?_ | refine Pw.nil ?_ | refine Pw.then_ ?_ | refine Pw.skip ?_ | refine Pw.block ?_ | refine Pw.exit ?_ | refine Pw.inX ?_ | refine Pw.inN ?_ | refine Pw.inR ?_ | refine Pw.thenX ?_ | refine Pw.thenR ?_ | refine Pw.ret ?_) | refine Pw.list (Pw.pure rfl rfl rfl ?_) | refine Pw.inY rfl ?_ | refine Pw.list (Pw.off rfl rfl ?_) | refine Pw.condT rfl ?_ | refine Pw.condF rfl ?_ | refine Pw.list (Pw.box rfl rfl rfl rfl (fun _ => ?_)) | refine Pw.list (Pw.alloc rfl rfl rfl rfl rfl (fun _ => ?_)) | refine Pw.list (Pw.build rfl rfl rfl rfl ?_) | refine Pw.list (Pw.ld rfl inferInstance rfl rfl rfl ?_) | refine Pw.list (Pw.sto rfl rfl inferInstance rfl rfl rfl rfl rfl inferInstance rfl ?_))
      exact Pw.ret_ (x := ()) (.tmp rfl .nil) (congrArg Value.bool (formB_v hlt (vOk_no hvi (by simp only; omega))).symm) trivial (fun w h => by trivial)
  · repeat (first | (with_reducible first | refine Pw.seq ?_ | refine Pw.region ?_ | refine Pw.nil ?_ | refine Pw.then_ ?_ | refine Pw.skip ?_ | refine Pw.block ?_ | refine Pw.exit ?_ | refine Pw.inX ?_ | refine Pw.inN ?_ | refine Pw.inR ?_ | refine Pw.thenX ?_ | refine Pw.thenR ?_ | refine Pw.ret ?_) | refine Pw.list (Pw.pure rfl rfl rfl ?_) | refine Pw.inY rfl ?_ | refine Pw.list (Pw.off rfl rfl ?_) | refine Pw.condT rfl ?_ | refine Pw.condF rfl ?_ | refine Pw.list (Pw.box rfl rfl rfl rfl (fun _ => ?_)) | refine Pw.list (Pw.alloc rfl rfl rfl rfl rfl (fun _ => ?_)) | refine Pw.list (Pw.build rfl rfl rfl rfl ?_) | refine Pw.list (Pw.ld rfl inferInstance rfl rfl rfl ?_) | refine Pw.list (Pw.sto rfl rfl inferInstance rfl rfl rfl rfl rfl inferInstance rfl ?_))
    exact Pw.ret_ (x := ()) (.tmp rfl .nil) (congrArg Value.bool (formB_yes (s := ⟨vs, (A, c), cs, zc⟩) (by simp only; omega) (by simp only; omega) hr (fun j h => hj j (by simp only at h; omega))).symm) trivial (fun w h => by trivial)
end Go.Proofs.Wk
/- Walks of layer 10 (graph): finding, approving. -/
namespace Go.Proofs.Wk
open Go.RowKit
set_option maxRecDepth 100000
set_option maxHeartbeats 1000000
attribute [local irreducible] Pw OpG
set_option linter.unusedVariables false
set_option linter.unusedSimpArgs false
theorem below_snoc {α : Type} {l : List α} {p : α → Bool} {i : Nat} {x : α} (h : ∀ j, j < i → ∀ y, l[j]? = some y → p y = false) (hx : l[i]? = some x) (hp : p x = false) : ∀ j, j < i + 1 → ∀ y, l[j]? = some y → p y = false := fun j hj y hy => by
  rcases Nat.lt_or_ge j i with h' | h'
  · exact h j h' y hy
  · obtain rfl : j = i := by omega
    rw [hx] at hy; cases hy; exact hp
theorem below_all {α : Type} {l : List α} {p : α → Bool} {i : Nat} (h : ∀ j, j < i → ∀ y, l[j]? = some y → p y = false) (hi : l.length ≤ i) : ∀ (j : Nat) (y : α), l[j]? = some y → p y = false := fun j y hy => h j (Nat.lt_of_lt_of_le (List.getElem?_eq_some_iff.1 hy).1 hi) y hy
theorem Index_ct (l : List Int) (x : Option Addr × Nat) (k : Int) : Ct Try.prog 104 #[sl l x, .int .i64 k] (I1 l x) (fun _ : Unit => .int .i64 (ixI (fun y => decide (k = y)) l)) Tt (fun _ _ => True) := by
  obtain ⟨A, c⟩ := x
  refine Ct.start Try.func104 rfl rfl (slots_of rfl slots2) (fun D w0 => ?_)
  refine Pw.use (p := l.length ≤ maxLen) (fun w h => (fact0 h).top) (fun htop => ?_)
  have htop := top63 htop
  repeat (first | (with_reducible first | refine Pw.seq ?_ | refine Pw.region ?_ | refine Pw.nil ?_ | refine Pw.then_ ?_ | refine Pw.skip ?_ | refine Pw.block ?_ | refine Pw.exit ?_ | refine Pw.inX ?_ | refine Pw.inN ?_ | refine Pw.inR ?_ | refine Pw.thenX ?_ | refine Pw.thenR ?_ | refine Pw.ret ?_) | refine Pw.list (Pw.pure rfl rfl rfl ?_) | refine Pw.inY rfl ?_ | refine Pw.list (Pw.off rfl rfl ?_) | refine Pw.condT rfl ?_ | refine Pw.condF rfl ?_)
  refine Pw.loopJ (σ := Nat) (fun i => i ≤ l.length ∧ ∀ j, j < i → ∀ y, l[j]? = some y → decide (k = y) = false) (fun i => ⟨[(0, .slice A l.length c), (1, .int .i64 k), (7, .int .i64 l.length), (8, .int .i64 i)], [], [Ints .i64 l A c]⟩) (fun i => l.length - i) 0 ⟨Nat.zero_le _, fun j hj => absurd hj (Nat.not_lt_zero j)⟩ (Pw.enter ⟨rfl, rfl, rfl, rfl, trivial⟩ (fun _ h => h)) ?_
  rintro i ⟨hi, hj⟩
  dsimp only at hi hj ⊢
  repeat (first | (with_reducible first | refine Pw.seq ?_ | refine Pw.region ?_ | refine Pw.nil ?_ | refine Pw.then_ ?_ | refine Pw.skip ?_ | refine Pw.block ?_ | refine Pw.exit ?_ | refine Pw.inX ?_ | refine Pw.inN ?_ | refine Pw.inR ?_ | refine Pw.thenX ?_ | refine Pw.thenR ?_ | refine Pw.ret ?_) | refine Pw.list (Pw.pure rfl rfl rfl ?_) | refine Pw.inY rfl ?_ | refine Pw.list (Pw.off rfl rfl ?_) | refine Pw.condT rfl ?_ | refine Pw.condF rfl ?_)
  refine Pw.condD rfl (fun c3 => ?_) (fun c3 => ?_)
  · obtain ⟨y, hy, _⟩ := get_at (show i < l.length by omega)
    repeat (first | (with_reducible first | refine Pw.seq ?_ | refine Pw.region ?_ | refine Pw.nil ?_ | refine Pw.then_ ?_ | refine Pw.skip ?_ | refine Pw.block ?_ | refine Pw.exit ?_ | refine Pw.inX ?_ | refine Pw.inN ?_ | refine Pw.inR ?_ | refine Pw.thenX ?_ | refine Pw.thenR ?_ | refine Pw.ret ?_) | refine Pw.list (Pw.pure rfl rfl rfl ?_) | refine Pw.inY rfl ?_ | refine Pw.list (Pw.off rfl rfl ?_) | refine Pw.condT rfl ?_ | refine Pw.condF rfl ?_)
    refine Pw.list (Pw.index rfl rfl rfl rfl (Int.natCast_nonneg i) c3 (fun w h => (fact0 h).has (Int.natCast_nonneg i) c3) rfl rfl ?_)
    rintro ad rfl
    refine Pw.list (Pw.load1 rfl rfl (fun w hs => by first | exact (fact0 hs.all).cell (by first | assumption | omega) (by first | assumption | omega) | exact (fact1 hs.all).cell (by first | assumption | omega) (by first | assumption | omega) | exact (fact2 hs.all).cell (by first | assumption | omega) (by first | assumption | omega) | exact (fact3 hs.all).cell (by first | assumption | omega) (by first | assumption | omega)) rfl rfl ?_)
    rw [get_rd hy]
    repeat (first | (with_reducible first | refine Pw.seq ?_ | refine Pw.region ?_ | refine Pw.nil ?_ | refine Pw.then_ ?_ | refine Pw.skip ?_ | refine Pw.block ?_ | refine Pw.exit ?_ | refine Pw.inX ?_ | refine Pw.inN ?_ | refine Pw.inR ?_ | refine Pw.thenX ?_ | refine Pw.thenR ?_ | refine Pw.ret ?_) | refine Pw.list (Pw.pure rfl rfl rfl ?_) | refine Pw.inY rfl ?_ | refine Pw.list (Pw.off rfl rfl ?_) | refine Pw.condT rfl ?_ | refine Pw.condF rfl ?_)
    refine Pw.condD rfl (fun c4 => ?_) (fun c4 => ?_)
    · repeat (first | (with_reducible first | refine Pw.seq ?_ | refine Pw.region ?_ | refine Pw.nil ?_ | refine Pw.then_ ?_ | refine Pw.skip ?_ | refine Pw.block ?_ | refine Pw.exit ?_ | refine Pw.inX ?_ | refine Pw.inN ?_ | refine Pw.inR ?_ | refine Pw.thenX ?_ | refine Pw.thenR ?_ | refine Pw.ret ?_) | refine Pw.list (Pw.pure rfl rfl rfl ?_) | refine Pw.inY rfl ?_ | refine Pw.list (Pw.off rfl rfl ?_) | refine Pw.condT rfl ?_ | refine Pw.condF rfl ?_)
      exact Pw.ret_ (x := ()) (.tmp rfl .nil) (congrArg (Value.int .i64) (ixI_hit hy (decide_eq_true c4) hj).symm) trivial (fun w h => by trivial)
    · repeat (first | (with_reducible first | refine Pw.seq ?_ | refine Pw.region ?_ | refine Pw.nil ?_ | refine Pw.then_ ?_ | refine Pw.skip ?_ | refine Pw.block ?_ | refine Pw.exit ?_ | refine Pw.inX ?_ | refine Pw.inN ?_ | refine Pw.inR ?_ | refine Pw.thenX ?_ | refine Pw.thenR ?_ | refine Pw.ret ?_) | refine Pw.list (Pw.pure rfl rfl rfl ?_) | refine Pw.inY rfl ?_ | refine Pw.list (Pw.off rfl rfl ?_) | refine Pw.condT rfl ?_ | refine Pw.condF rfl ?_)
      refine Pw.re (d := 8) (v' := .int .i64 ((i + 1 : Nat) : Int)) rfl (congrArg (Value.int .i64) (i64s (by omega) htop)) ?_
      exact Pw.again (i + 1) ⟨by omega, below_snoc hj hy (decide_eq_false c4)⟩ (by show l.length - (i + 1) < l.length - i; omega) ⟨rfl, rfl, rfl, rfl, trivial⟩ rfl (fun w h => h)
  · repeat (first | (with_reducible first | refine Pw.seq ?_ | refine Pw.region ?_ | refine Pw.nil ?_ | refine Pw.then_ ?_ | refine Pw.skip ?_ | refine Pw.block ?_ | refine Pw.exit ?_ | refine Pw.inX ?_ | refine Pw.inN ?_ | refine Pw.inR ?_ | refine Pw.thenX ?_ | refine Pw.thenR ?_ | refine Pw.ret ?_) | refine Pw.list (Pw.pure rfl rfl rfl ?_) | refine Pw.inY rfl ?_ | refine Pw.list (Pw.off rfl rfl ?_) | refine Pw.condT rfl ?_ | refine Pw.condF rfl ?_)
    exact Pw.ret_ (x := ()) (.tmp rfl .nil) (congrArg (Value.int .i64) (ixI_none (below_all hj (by omega))).symm) trivial (fun w h => by trivial)
theorem ixI_mem (k : Int) (l : List Int) : decide (ixI (fun y => decide (k = y)) l ≥ 0) = decide (k ∈ l) := by
  refine decide_eq_decide.2 ?_
  rcases ixI_cases (fun y => decide (k = y)) l with ⟨h1, h2⟩ | ⟨i, x, h1, h2, h3, h4⟩
  · rw [h1]
    refine ⟨fun h => absurd h (by omega), fun h => ?_⟩
    have := List.find?_eq_none.1 h2 k h
    simp at this
  · rw [h1]
    have : k = x := of_decide_eq_true h3
    subst this
    exact ⟨fun _ => List.mem_of_getElem? h2, fun _ => by omega⟩
theorem Contains_ct (l : List Int) (x : Option Addr × Nat) (k : Int) : Ct Try.prog 62 #[sl l x, .int .i64 k] (I1 l x) (fun _ : Unit => .bool (decide (k ∈ l))) Tt (fun _ _ => True) := by
  refine Ct.start Try.func62 rfl rfl (slots_of rfl slots2) (fun D w0 => ?_)
  repeat (first | (with_reducible first | refine Pw.seq ?_ | refine Pw.region ?_ | refine Pw.nil ?_ | refine Pw.then_ ?_ | refine Pw.skip ?_ | refine Pw.block ?_ | refine Pw.exit ?_ | refine Pw.inX ?_ | refine Pw.inN ?_ | refine Pw.inR ?_ | refine Pw.thenX ?_ | refine Pw.thenR ?_ | refine Pw.ret ?_) | refine Pw.list (Pw.pure rfl rfl rfl ?_) | refine Pw.inY rfl ?_ | refine Pw.list (Pw.off rfl rfl ?_) | refine Pw.condT rfl ?_ | refine Pw.condF rfl ?_)
  refine Pw.list (Pw.call (Index_ct l x k) rfl rfl rfl (by kernel_rfl) rfl rfl (fun w h => fact0 h) ?_)
  intro _ _
  repeat (first | (with_reducible first | refine Pw.seq ?_ | refine Pw.region ?_ | refine Pw.nil ?_ | refine Pw.then_ ?_ | refine Pw.skip ?_ | refine Pw.block ?_ | refine Pw.exit ?_ | refine Pw.inX ?_ | refine Pw.inN ?_ | refine Pw.inR ?_ | refine Pw.thenX ?_ | refine Pw.thenR ?_ | refine Pw.ret ?_) | refine Pw.list (Pw.pure rfl rfl rfl ?_) | refine Pw.inY rfl ?_ | refine Pw.list (Pw.off rfl rfl ?_) | refine Pw.condT rfl ?_ | refine Pw.condF rfl ?_)
  exact Pw.ret_ (x := ()) (.tmp rfl .nil) (congrArg Value.bool (ixI_mem k l)) trivial (fun w h => by trivial)
theorem find1_ct (v : Vtr) (k : Int) (g : Nat) : Ct Try.prog 103 #[vtV v, .pointer (some ⟨g, 0, none⟩)] (fun W => W.heap[g]? = some (row [.int .i64 k] 3)) (fun _ : Unit => .bool (decide (v.id = k))) Tt (fun _ _ => True) := by
  refine Ct.start Try.func103 rfl rfl (slots_of rfl slots2) (fun D w0 => ?_)
  repeat (first | (with_reducible first | refine Pw.seq ?_ | refine Pw.region ?_ | refine Pw.nil ?_ | refine Pw.then_ ?_ | refine Pw.skip ?_ | refine Pw.block ?_ | refine Pw.exit ?_ | refine Pw.inX ?_ | refine Pw.inN ?_ | refine Pw.inR ?_ | refine Pw.thenX ?_ | refine Pw.thenR ?_ | refine Pw.ret ?_) | refine Pw.list (Pw.pure rfl rfl rfl ?_) | refine Pw.inY rfl ?_ | refine Pw.list (Pw.off rfl rfl ?_) | refine Pw.condT rfl ?_ | refine Pw.condF rfl ?_ | refine Pw.list (Pw.box rfl rfl rfl rfl (fun _ => freeHead ?_)) | refine Pw.list (Pw.alloc rfl rfl rfl rfl rfl (fun _ => ?_)) | refine Pw.list (Pw.build rfl rfl rfl rfl ?_) | refine Pw.list (Pw.ld rfl inferInstance rfl rfl rfl ?_) | refine Pw.list (Pw.sto rfl rfl inferInstance rfl rfl rfl rfl rfl inferInstance rfl ?_))
  exact Pw.ret_ (x := ()) (.tmp rfl .nil) rfl trivial (fun w h => by trivial)
theorem IndexV_ct (l : List Vtr) (x : Option Addr × Nat) (f : FuncId) (cap : Value) (p : Vtr → Bool) (pre : World → Prop) (hf : ∀ v ∈ l, Ct Try.prog f #[vtV v, cap] pre (fun _ : Unit => .bool (p v)) Tt (fun _ _ => True)) (hcb : callB Try.prog f = true) :
    Ct Try.prog 102 #[.slice x.1 l.length x.2, .func (.func f) #[] #[cap]] (fun W => VS l x W ∧ pre W) (fun _ : Unit => .int .i64 (ixI p l)) Tt (fun _ _ => True) := by
  obtain ⟨A, c⟩ := x
  refine Ct.start Try.func102 rfl rfl (slots_of rfl slots2) (fun D w0 => Pw.facts (G' := [VS l (A, c), pre]) (fun w h => allCons (fact0 h).1 (allCons (fact0 h).2 allNil)) ?_)
  refine Pw.use (p := l.length ≤ maxLen) (fun w h => (fact0 h).top) (fun htop => ?_)
  have htop := top63 htop
  repeat (first | (with_reducible first | refine Pw.seq ?_ | refine Pw.region ?_ | refine Pw.nil ?_ | refine Pw.then_ ?_ | refine Pw.skip ?_ | refine Pw.block ?_ | refine Pw.exit ?_ | refine Pw.inX ?_ | refine Pw.inN ?_ | refine Pw.inR ?_ | refine Pw.thenX ?_ | refine Pw.thenR ?_ | refine Pw.ret ?_) | refine Pw.list (Pw.pure rfl rfl rfl ?_) | refine Pw.inY rfl ?_ | refine Pw.list (Pw.off rfl rfl ?_) | refine Pw.condT rfl ?_ | refine Pw.condF rfl ?_)
  refine Pw.loopJ (σ := Nat) (fun i => i ≤ l.length ∧ ∀ j, j < i → ∀ y, l[j]? = some y → p y = false) (fun i => ⟨[(0, .slice A l.length c), (1, .func (.func f) #[] #[cap]), (7, .int .i64 l.length), (8, .int .i64 i)], [], [VS l (A, c), pre]⟩) (fun i => l.length - i) 0 ⟨Nat.zero_le _, fun j hj => absurd hj (Nat.not_lt_zero j)⟩ (Pw.enter ⟨rfl, rfl, rfl, rfl, trivial⟩ (fun _ h => h)) ?_
  rintro i ⟨hi, hj⟩
  dsimp only at hi hj ⊢
  repeat (first | (with_reducible first | refine Pw.seq ?_ | refine Pw.region ?_ | refine Pw.nil ?_ | refine Pw.then_ ?_ | refine Pw.skip ?_ | refine Pw.block ?_ | refine Pw.exit ?_ | refine Pw.inX ?_ | refine Pw.inN ?_ | refine Pw.inR ?_ | refine Pw.thenX ?_ | refine Pw.thenR ?_ | refine Pw.ret ?_) | refine Pw.list (Pw.pure rfl rfl rfl ?_) | refine Pw.inY rfl ?_ | refine Pw.list (Pw.off rfl rfl ?_) | refine Pw.condT rfl ?_ | refine Pw.condF rfl ?_)
  refine Pw.condD rfl (fun c3 => ?_) (fun c3 => ?_)
  · obtain ⟨v, hvi, hm⟩ := get_at (show i < l.length by omega)
    repeat (first | (with_reducible first | refine Pw.seq ?_ | refine Pw.region ?_ | refine Pw.nil ?_ | refine Pw.then_ ?_ | refine Pw.skip ?_ | refine Pw.block ?_ | refine Pw.exit ?_ | refine Pw.inX ?_ | refine Pw.inN ?_ | refine Pw.inR ?_ | refine Pw.thenX ?_ | refine Pw.thenR ?_ | refine Pw.ret ?_) | refine Pw.list (Pw.pure rfl rfl rfl ?_) | refine Pw.inY rfl ?_ | refine Pw.list (Pw.off rfl rfl ?_) | refine Pw.condT rfl ?_ | refine Pw.condF rfl ?_)
    refine Pw.list (Pw.index rfl rfl rfl rfl (Int.natCast_nonneg i) c3 (fun w h => (fact0 h).has (Int.natCast_nonneg i) c3) rfl rfl ?_)
    rintro ad rfl
    refine Pw.list (Pw.loadR v rfl inferInstance rfl (by rw [Int.toNat_natCast]; exact hvi) (by kernel_rfl) rfl rfl ?_)
    refine Pw.re (d := 15) (v' := vtV v) rfl rfl ?_
    repeat (first | (with_reducible first | refine Pw.seq ?_ | refine Pw.region ?_ | refine Pw.nil ?_ | refine Pw.then_ ?_ | refine Pw.skip ?_ | refine Pw.block ?_ | refine Pw.exit ?_ | refine Pw.inX ?_ | refine Pw.inN ?_ | refine Pw.inR ?_ | refine Pw.thenX ?_ | refine Pw.thenR ?_ | refine Pw.ret ?_) | refine Pw.list (Pw.pure rfl rfl rfl ?_) | refine Pw.inY rfl ?_ | refine Pw.list (Pw.off rfl rfl ?_) | refine Pw.condT rfl ?_ | refine Pw.condF rfl ?_)
    refine Pw.list (Pw.call (hf v hm) rfl rfl rfl hcb rfl rfl (fun w h => fact2 h) ?_)
    intro _ _
    cases hp : p v
    · repeat (first | (with_reducible first | refine Pw.seq ?_ | refine Pw.region ?_ | refine Pw.nil ?_ | refine Pw.then_ ?_ | refine Pw.skip ?_ | refine Pw.block ?_ | refine Pw.exit ?_ | refine Pw.inX ?_ | refine Pw.inN ?_ | refine Pw.inR ?_ | refine Pw.thenX ?_ | refine Pw.thenR ?_ | refine Pw.ret ?_) | refine Pw.list (Pw.pure rfl rfl rfl ?_) | refine Pw.inY rfl ?_ | refine Pw.list (Pw.off rfl rfl ?_) | refine Pw.condT rfl ?_ | refine Pw.condF rfl ?_)
      refine Pw.re (d := 8) (v' := .int .i64 ((i + 1 : Nat) : Int)) rfl (congrArg (Value.int .i64) (i64s (by omega) htop)) ?_
      exact Pw.again (i + 1) ⟨by omega, below_snoc hj hvi hp⟩ (by show l.length - (i + 1) < l.length - i; omega) ⟨rfl, rfl, rfl, rfl, trivial⟩ rfl (fun w h => allCons (fact2 h) (allCons (fact3 h) allNil))
    · repeat (first | (with_reducible first | refine Pw.seq ?_ | refine Pw.region ?_ | refine Pw.nil ?_ | refine Pw.then_ ?_ | refine Pw.skip ?_ | refine Pw.block ?_ | refine Pw.exit ?_ | refine Pw.inX ?_ | refine Pw.inN ?_ | refine Pw.inR ?_ | refine Pw.thenX ?_ | refine Pw.thenR ?_ | refine Pw.ret ?_) | refine Pw.list (Pw.pure rfl rfl rfl ?_) | refine Pw.inY rfl ?_ | refine Pw.list (Pw.off rfl rfl ?_) | refine Pw.condT rfl ?_ | refine Pw.condF rfl ?_)
      exact Pw.ret_ (x := ()) (.tmp rfl .nil) (congrArg (Value.int .i64) (ixI_hit hvi hp hj).symm) trivial (fun w h => by trivial)
  · repeat (first | (with_reducible first | refine Pw.seq ?_ | refine Pw.region ?_ | refine Pw.nil ?_ | refine Pw.then_ ?_ | refine Pw.skip ?_ | refine Pw.block ?_ | refine Pw.exit ?_ | refine Pw.inX ?_ | refine Pw.inN ?_ | refine Pw.inR ?_ | refine Pw.thenX ?_ | refine Pw.thenR ?_ | refine Pw.ret ?_) | refine Pw.list (Pw.pure rfl rfl rfl ?_) | refine Pw.inY rfl ?_ | refine Pw.list (Pw.off rfl rfl ?_) | refine Pw.condT rfl ?_ | refine Pw.condF rfl ?_)
    exact Pw.ret_ (x := ()) (.tmp rfl .nil) (congrArg (Value.int .i64) (ixI_none (below_all hj (by omega))).symm) trivial (fun w h => by trivial)
theorem find_ct (s : Sn) (hW : snW s) (k : Int) : Ct Try.prog 61 #[snV s, .int .i64 k] (snF s) (fun _ : Unit => .int .i64 (findB s k)) Tt (fun _ _ => True) := by
  refine Ct.start Try.func61 rfl rfl (slots_of rfl slots2) (fun D w0 => ?_)
  repeat (first | (with_reducible first | refine Pw.seq ?_ | refine Pw.region ?_ | refine Pw.nil ?_ | refine Pw.then_ ?_ | refine Pw.skip ?_ | refine Pw.block ?_ | refine Pw.exit ?_ | refine Pw.inX ?_ | refine Pw.inN ?_ | refine Pw.inR ?_ | refine Pw.thenX ?_ | refine Pw.thenR ?_ | refine Pw.ret ?_) | refine Pw.list (Pw.pure rfl rfl rfl ?_) | refine Pw.inY rfl ?_ | refine Pw.list (Pw.off rfl rfl ?_) | refine Pw.condT rfl ?_ | refine Pw.condF rfl ?_)
  refine Pw.list (Pw.box rfl rfl rfl rfl (fun g1 => freeHead ?_))
  refine Pw.list (Pw.box rfl rfl rfl rfl (fun g2 => freeHead ?_))
  repeat (first | (with_reducible first | refine Pw.seq ?_ | refine Pw.region ?_ | refine Pw.nil ?_ | refine Pw.then_ ?_ | refine Pw.skip ?_ | refine Pw.block ?_ | refine Pw.exit ?_ | refine Pw.inX ?_ | refine Pw.inN ?_ | refine Pw.inR ?_ | refine Pw.thenX ?_ | refine Pw.thenR ?_ | refine Pw.ret ?_) | refine Pw.list (Pw.pure rfl rfl rfl ?_) | refine Pw.inY rfl ?_ | refine Pw.list (Pw.off rfl rfl ?_) | refine Pw.condT rfl ?_ | refine Pw.condF rfl ?_ | refine Pw.list (Pw.box rfl rfl rfl rfl (fun _ => ?_)) | refine Pw.list (Pw.alloc rfl rfl rfl rfl rfl (fun _ => ?_)) | refine Pw.list (Pw.build rfl rfl rfl rfl ?_) | refine Pw.list (Pw.ld rfl inferInstance rfl rfl rfl ?_) | refine Pw.list (Pw.sto rfl rfl inferInstance rfl rfl rfl rfl rfl inferInstance rfl ?_))
  refine Pw.list (Pw.call (gFormed_ct s hW) rfl rfl rfl (by kernel_rfl) rfl rfl (fun w h => (hv w h)) ?_)
  intro _ _
  cases hF : formB s
  · repeat (first | (with_reducible first | refine Pw.seq ?_ | refine Pw.region ?_ | refine Pw.nil ?_ | refine Pw.then_ ?_ | refine Pw.skip ?_ | refine Pw.block ?_ | refine Pw.exit ?_ | refine Pw.inX ?_ | refine Pw.inN ?_ | refine Pw.inR ?_ | refine Pw.thenX ?_ | refine Pw.thenR ?_ | refine Pw.ret ?_) | refine Pw.list (Pw.pure rfl rfl rfl ?_) | refine Pw.inY rfl ?_ | refine Pw.list (Pw.off rfl rfl ?_) | refine Pw.condT rfl ?_ | refine Pw.condF rfl ?_ | refine Pw.list (Pw.box rfl rfl rfl rfl (fun _ => ?_)) | refine Pw.list (Pw.alloc rfl rfl rfl rfl rfl (fun _ => ?_)) | refine Pw.list (Pw.build rfl rfl rfl rfl ?_) | refine Pw.list (Pw.ld rfl inferInstance rfl rfl rfl ?_) | refine Pw.list (Pw.sto rfl rfl inferInstance rfl rfl rfl rfl rfl inferInstance rfl ?_))
    exact Pw.ret_ (x := ()) (.tmp rfl .nil) (congrArg (Value.int .i64) (by unfold findB; rw [hF]; rfl)) trivial (fun w h => by trivial)
  repeat (first | (with_reducible first | refine Pw.seq ?_ | refine Pw.region ?_ | refine Pw.nil ?_ | refine Pw.then_ ?_ | refine Pw.skip ?_ | refine Pw.block ?_ | refine Pw.exit ?_ | refine Pw.inX ?_ | refine Pw.inN ?_ | refine Pw.inR ?_ | refine Pw.thenX ?_ | refine Pw.thenR ?_ | refine Pw.ret ?_) | refine Pw.list (Pw.pure rfl rfl rfl ?_) | refine Pw.inY rfl ?_ | refine Pw.list (Pw.off rfl rfl ?_) | refine Pw.condT rfl ?_ | refine Pw.condF rfl ?_ | refine Pw.list (Pw.box rfl rfl rfl rfl (fun _ => ?_)) | refine Pw.list (Pw.alloc rfl rfl rfl rfl rfl (fun _ => ?_)) | refine Pw.list (Pw.build rfl rfl rfl rfl ?_) | refine Pw.list (Pw.ld rfl inferInstance rfl rfl rfl ?_) | refine Pw.list (Pw.sto rfl rfl inferInstance rfl rfl rfl rfl rfl inferInstance rfl ?_))
  refine Pw.list (Pw.call (IndexV_ct s.vs s.zv 103 (.pointer (some ⟨g2, 0, none⟩)) (fun v => decide (v.id = k)) _ (fun v _ => find1_ct v k g2) (by kernel_rfl)) rfl rfl rfl (by kernel_rfl) rfl rfl (fun w h => ⟨(hv w h : snF s w).1, (by first | exact fact0 (h) | exact fact0 (allTail (h)) | exact fact0 (allTail (allTail (h))) | exact fact0 (allTail (allTail (allTail (h)))) | exact fact0 (allTail (allTail (allTail (allTail (h))))) | exact fact0 (allTail (allTail (allTail (allTail (allTail (h)))))) | exact fact0 (allTail (allTail (allTail (allTail (allTail (allTail (h))))))) | exact fact0 (allTail (allTail (allTail (allTail (allTail (allTail (allTail (h)))))))) | exact fact0 (allTail (allTail (allTail (allTail (allTail (allTail (allTail (allTail (h))))))))) | exact fact0 (allTail (allTail (allTail (allTail (allTail (allTail (allTail (allTail (allTail (h)))))))))))⟩) ?_)
  intro _ _
  repeat (first | (with_reducible first | refine Pw.seq ?_ | refine Pw.region ?_ | refine Pw.nil ?_ | refine Pw.then_ ?_ | refine Pw.skip ?_ | refine Pw.block ?_ | refine Pw.exit ?_ | refine Pw.inX ?_ | refine Pw.inN ?_ | refine Pw.inR ?_ | refine Pw.thenX ?_ | refine Pw.thenR ?_ | refine Pw.ret ?_) | refine Pw.list (Pw.pure rfl rfl rfl ?_) | refine Pw.inY rfl ?_ | refine Pw.list (Pw.off rfl rfl ?_) | refine Pw.condT rfl ?_ | refine Pw.condF rfl ?_ | refine Pw.list (Pw.box rfl rfl rfl rfl (fun _ => ?_)) | refine Pw.list (Pw.alloc rfl rfl rfl rfl rfl (fun _ => ?_)) | refine Pw.list (Pw.build rfl rfl rfl rfl ?_) | refine Pw.list (Pw.ld rfl inferInstance rfl rfl rfl ?_) | refine Pw.list (Pw.sto rfl rfl inferInstance rfl rfl rfl rfl rfl inferInstance rfl ?_))
  exact Pw.ret_ (x := ()) (.tmp rfl .nil) (congrArg (Value.int .i64) (by unfold findB; rw [hF]; rfl)) trivial (fun w h => by trivial)
theorem ap_no {s : Sn} {k c : Int} (h : findB s k < 0) : apB s k c = false := by
  unfold findB at h
  unfold apB
  cases hF : formB s
  · rfl
  · rw [if_pos hF] at h
    rcases ixI_cases (fun v : Vtr => decide (v.id = k)) s.vs with ⟨h1, h2⟩ | ⟨i, x, h1, h2, h3, h4⟩
    · rw [h2]; rfl
    · rw [h1] at h; omega
theorem ap_yes {s : Sn} {k c : Int} (h : ¬ findB s k < 0) : ∃ (i : Nat) (v : Vtr), findB s k = i ∧ s.vs[i]? = some v ∧ apB s k c = (decide (0 < v.st) && (decide (c ∈ v.pk) && decide (c ∈ s.cs))) := by
  unfold findB at h ⊢
  unfold apB
  cases hF : formB s
  · rw [hF, if_neg (by simp)] at h; exact absurd (by decide) h
  · rw [hF] at h
    rw [if_pos rfl] at h ⊢
    rcases ixI_cases (fun v : Vtr => decide (v.id = k)) s.vs with ⟨h1, h2⟩ | ⟨i, x, h1, h2, h3, h4⟩
    · rw [h1] at h; omega
    · exact ⟨i, x, h1, h2, by rw [h4]; rfl⟩
theorem gApproves_ct (s : Sn) (hW : snW s) (k c : Int) : Ct Try.prog 16 #[snV s, .int .i64 k, .int .i64 c] (snF s) (fun _ : Unit => .bool (apB s k c)) Tt (fun _ _ => True) := by
  refine Ct.start Try.func16 rfl rfl (slots_of rfl slots3) (fun D w0 => ?_)
  repeat (first | (with_reducible first | refine Pw.seq ?_ | refine Pw.region ?_ | refine Pw.nil ?_ | refine Pw.then_ ?_ | refine Pw.skip ?_ | refine Pw.block ?_ | refine Pw.exit ?_ | refine Pw.inX ?_ | refine Pw.inN ?_ | refine Pw.inR ?_ | refine Pw.thenX ?_ | refine Pw.thenR ?_ | refine Pw.ret ?_) | refine Pw.list (Pw.pure rfl rfl rfl ?_) | refine Pw.inY rfl ?_ | refine Pw.list (Pw.off rfl rfl ?_) | refine Pw.condT rfl ?_ | refine Pw.condF rfl ?_)
  refine Pw.list (Pw.box rfl rfl rfl rfl (fun g1 => freeHead ?_))
  repeat (first | (with_reducible first | refine Pw.seq ?_ | refine Pw.region ?_ | refine Pw.nil ?_ | refine Pw.then_ ?_ | refine Pw.skip ?_ | refine Pw.block ?_ | refine Pw.exit ?_ | refine Pw.inX ?_ | refine Pw.inN ?_ | refine Pw.inR ?_ | refine Pw.thenX ?_ | refine Pw.thenR ?_ | refine Pw.ret ?_) | refine Pw.list (Pw.pure rfl rfl rfl ?_) | refine Pw.inY rfl ?_ | refine Pw.list (Pw.off rfl rfl ?_) | refine Pw.condT rfl ?_ | refine Pw.condF rfl ?_ | refine Pw.list (Pw.box rfl rfl rfl rfl (fun _ => ?_)) | refine Pw.list (Pw.alloc rfl rfl rfl rfl rfl (fun _ => ?_)) | refine Pw.list (Pw.build rfl rfl rfl rfl ?_) | refine Pw.list (Pw.ld rfl inferInstance rfl rfl rfl ?_) | refine Pw.list (Pw.sto rfl rfl inferInstance rfl rfl rfl rfl rfl inferInstance rfl ?_))
  refine Pw.list (Pw.call (find_ct s hW k) rfl rfl rfl (by kernel_rfl) rfl rfl (fun w h => (hv w h)) ?_)
  intro _ _
  repeat (first | (with_reducible first | refine Pw.seq ?_ | refine Pw.region ?_ | refine Pw.nil ?_ | refine Pw.then_ ?_ | refine Pw.skip ?_ | refine Pw.block ?_ | refine Pw.exit ?_ | refine Pw.inX ?_ | refine Pw.inN ?_ | refine Pw.inR ?_ | refine Pw.thenX ?_ | refine Pw.thenR ?_ | refine Pw.ret ?_) | refine Pw.list (Pw.pure rfl rfl rfl ?_) | refine Pw.inY rfl ?_ | refine Pw.list (Pw.off rfl rfl ?_) | refine Pw.condT rfl ?_ | refine Pw.condF rfl ?_ | refine Pw.list (Pw.box rfl rfl rfl rfl (fun _ => ?_)) | refine Pw.list (Pw.alloc rfl rfl rfl rfl rfl (fun _ => ?_)) | refine Pw.list (Pw.build rfl rfl rfl rfl ?_) | refine Pw.list (Pw.ld rfl inferInstance rfl rfl rfl ?_) | refine Pw.list (Pw.sto rfl rfl inferInstance rfl rfl rfl rfl rfl inferInstance rfl ?_))
  refine Pw.split 13 rfl (fun c1 => ?_) (fun c1 => ?_)
  · obtain ⟨i, v, h1, h2, h3⟩ := ap_yes (s := s) (k := k) (c := c) (by omega)
    obtain ⟨vs, ⟨A, cp⟩, cs, zc⟩ := s
    dsimp only at h2 h3
    rw [h1]
    have hlt := (List.getElem?_eq_some_iff.1 h2).1
    refine Pw.facts (G' := [fun W => W.heap[g1]? = some (row [.slice A vs.length cp, sl cs zc] 25), VS vs (A, cp), I1 cs zc]) (fun w h => allCons (fact1 h) (allCons (fact2 h).1 (allCons (fact2 h).2 allNil))) ?_
    repeat (first | (with_reducible first | refine Pw.seq ?_ | refine Pw.region ?_ | refine Pw.nil ?_ | refine Pw.then_ ?_ | refine Pw.skip ?_ | refine Pw.block ?_ | refine Pw.exit ?_ | refine Pw.inX ?_ | refine Pw.inN ?_ | refine Pw.inR ?_ | refine Pw.thenX ?_ | refine Pw.thenR ?_ | refine Pw.ret ?_) | refine Pw.list (Pw.pure rfl rfl rfl ?_) | refine Pw.inY rfl ?_ | refine Pw.list (Pw.off rfl rfl ?_) | refine Pw.condT rfl ?_ | refine Pw.condF rfl ?_ | refine Pw.list (Pw.box rfl rfl rfl rfl (fun _ => ?_)) | refine Pw.list (Pw.alloc rfl rfl rfl rfl rfl (fun _ => ?_)) | refine Pw.list (Pw.build rfl rfl rfl rfl ?_) | refine Pw.list (Pw.ld rfl inferInstance rfl rfl rfl ?_) | refine Pw.list (Pw.sto rfl rfl inferInstance rfl rfl rfl rfl rfl inferInstance rfl ?_))
    refine Pw.list (Pw.index rfl rfl rfl rfl (Int.natCast_nonneg i) (by omega) (fun w h => (fact1 h).has (Int.natCast_nonneg i) (by omega)) rfl rfl ?_)
    rintro ad rfl
    refine Pw.list (Pw.fieldS rfl rfl rfl rfl rfl rfl rfl ?_)
    refine Pw.list (Pw.loadF v rfl inferInstance rfl (by rw [Int.toNat_natCast]; exact h2) rfl (by kernel_rfl) rfl rfl ?_)
    repeat (first | (with_reducible first | refine Pw.seq ?_ | refine Pw.region ?_ | refine Pw.nil ?_ | refine Pw.then_ ?_ | refine Pw.skip ?_ | refine Pw.block ?_ | refine Pw.exit ?_ | refine Pw.inX ?_ | refine Pw.inN ?_ | refine Pw.inR ?_ | refine Pw.thenX ?_ | refine Pw.thenR ?_ | refine Pw.ret ?_) | refine Pw.list (Pw.pure rfl rfl rfl ?_) | refine Pw.inY rfl ?_ | refine Pw.list (Pw.off rfl rfl ?_) | refine Pw.condT rfl ?_ | refine Pw.condF rfl ?_ | refine Pw.list (Pw.box rfl rfl rfl rfl (fun _ => ?_)) | refine Pw.list (Pw.alloc rfl rfl rfl rfl rfl (fun _ => ?_)) | refine Pw.list (Pw.build rfl rfl rfl rfl ?_) | refine Pw.list (Pw.ld rfl inferInstance rfl rfl rfl ?_) | refine Pw.list (Pw.sto rfl rfl inferInstance rfl rfl rfl rfl rfl inferInstance rfl ?_))
    refine Pw.split 22 rfl (fun c2 => ?_) (fun c2 => ?_)
    · repeat (first | (with_reducible first | refine Pw.seq ?_ | refine Pw.region ?_ | refine Pw.nil ?_ | refine Pw.then_ ?_ | refine Pw.skip ?_ | refine Pw.block ?_ | refine Pw.exit ?_ | refine Pw.inX ?_ | refine Pw.inN ?_ | refine Pw.inR ?_ | refine Pw.thenX ?_ | refine Pw.thenR ?_ | refine Pw.ret ?_) | refine Pw.list (Pw.pure rfl rfl rfl ?_) | refine Pw.inY rfl ?_ | refine Pw.list (Pw.off rfl rfl ?_) | refine Pw.condT rfl ?_ | refine Pw.condF rfl ?_ | refine Pw.list (Pw.box rfl rfl rfl rfl (fun _ => ?_)) | refine Pw.list (Pw.alloc rfl rfl rfl rfl rfl (fun _ => ?_)) | refine Pw.list (Pw.build rfl rfl rfl rfl ?_) | refine Pw.list (Pw.ld rfl inferInstance rfl rfl rfl ?_) | refine Pw.list (Pw.sto rfl rfl inferInstance rfl rfl rfl rfl rfl inferInstance rfl ?_))
      refine Pw.list (Pw.indexS rfl rfl rfl rfl (Int.natCast_nonneg i) (by omega) rfl rfl ?_)
      refine Pw.list (Pw.fieldS rfl rfl rfl rfl rfl rfl rfl ?_)
      refine Pw.list (Pw.loadF v rfl inferInstance rfl (by rw [Int.toNat_natCast]; exact h2) rfl (by kernel_rfl) rfl rfl ?_)
      repeat (first | (with_reducible first | refine Pw.seq ?_ | refine Pw.region ?_ | refine Pw.nil ?_ | refine Pw.then_ ?_ | refine Pw.skip ?_ | refine Pw.block ?_ | refine Pw.exit ?_ | refine Pw.inX ?_ | refine Pw.inN ?_ | refine Pw.inR ?_ | refine Pw.thenX ?_ | refine Pw.thenR ?_ | refine Pw.ret ?_) | refine Pw.list (Pw.pure rfl rfl rfl ?_) | refine Pw.inY rfl ?_ | refine Pw.list (Pw.off rfl rfl ?_) | refine Pw.condT rfl ?_ | refine Pw.condF rfl ?_ | refine Pw.list (Pw.box rfl rfl rfl rfl (fun _ => ?_)) | refine Pw.list (Pw.alloc rfl rfl rfl rfl rfl (fun _ => ?_)) | refine Pw.list (Pw.build rfl rfl rfl rfl ?_) | refine Pw.list (Pw.ld rfl inferInstance rfl rfl rfl ?_) | refine Pw.list (Pw.sto rfl rfl inferInstance rfl rfl rfl rfl rfl inferInstance rfl ?_))
      refine Pw.list (Pw.call (Contains_ct v.pk v.z c) rfl rfl rfl (by kernel_rfl) rfl rfl (fun w h => (hv w h : heldV v w)) ?_)
      intro _ _
      repeat (first | (with_reducible first | refine Pw.seq ?_ | refine Pw.region ?_ | refine Pw.nil ?_ | refine Pw.then_ ?_ | refine Pw.skip ?_ | refine Pw.block ?_ | refine Pw.exit ?_ | refine Pw.inX ?_ | refine Pw.inN ?_ | refine Pw.inR ?_ | refine Pw.thenX ?_ | refine Pw.thenR ?_ | refine Pw.ret ?_) | refine Pw.list (Pw.pure rfl rfl rfl ?_) | refine Pw.inY rfl ?_ | refine Pw.list (Pw.off rfl rfl ?_) | refine Pw.condT rfl ?_ | refine Pw.condF rfl ?_ | refine Pw.list (Pw.box rfl rfl rfl rfl (fun _ => ?_)) | refine Pw.list (Pw.alloc rfl rfl rfl rfl rfl (fun _ => ?_)) | refine Pw.list (Pw.build rfl rfl rfl rfl ?_) | refine Pw.list (Pw.ld rfl inferInstance rfl rfl rfl ?_) | refine Pw.list (Pw.sto rfl rfl inferInstance rfl rfl rfl rfl rfl inferInstance rfl ?_))
      refine Pw.split 32 rfl (fun c3 => ?_) (fun c3 => ?_)
      · repeat (first | (with_reducible first | refine Pw.seq ?_ | refine Pw.region ?_ | refine Pw.nil ?_ | refine Pw.then_ ?_ | refine Pw.skip ?_ | refine Pw.block ?_ | refine Pw.exit ?_ | refine Pw.inX ?_ | refine Pw.inN ?_ | refine Pw.inR ?_ | refine Pw.thenX ?_ | refine Pw.thenR ?_ | refine Pw.ret ?_) | refine Pw.list (Pw.pure rfl rfl rfl ?_) | refine Pw.inY rfl ?_ | refine Pw.list (Pw.off rfl rfl ?_) | refine Pw.condT rfl ?_ | refine Pw.condF rfl ?_ | refine Pw.list (Pw.box rfl rfl rfl rfl (fun _ => ?_)) | refine Pw.list (Pw.alloc rfl rfl rfl rfl rfl (fun _ => ?_)) | refine Pw.list (Pw.build rfl rfl rfl rfl ?_) | refine Pw.list (Pw.ld rfl inferInstance rfl rfl rfl ?_) | refine Pw.list (Pw.sto rfl rfl inferInstance rfl rfl rfl rfl rfl inferInstance rfl ?_))
        refine Pw.list (Pw.call (Contains_ct cs zc c) rfl rfl rfl (by kernel_rfl) rfl rfl (fun w h => (hv w h : I1 cs zc w)) ?_)
        intro _ _
        repeat (first | (with_reducible first | refine Pw.seq ?_ | refine Pw.region ?_ | refine Pw.nil ?_ | refine Pw.then_ ?_ | refine Pw.skip ?_ | refine Pw.block ?_ | refine Pw.exit ?_ | refine Pw.inX ?_ | refine Pw.inN ?_ | refine Pw.inR ?_ | refine Pw.thenX ?_ | refine Pw.thenR ?_ | refine Pw.ret ?_) | refine Pw.list (Pw.pure rfl rfl rfl ?_) | refine Pw.inY rfl ?_ | refine Pw.list (Pw.off rfl rfl ?_) | refine Pw.condT rfl ?_ | refine Pw.condF rfl ?_ | refine Pw.list (Pw.box rfl rfl rfl rfl (fun _ => ?_)) | refine Pw.list (Pw.alloc rfl rfl rfl rfl rfl (fun _ => ?_)) | refine Pw.list (Pw.build rfl rfl rfl rfl ?_) | refine Pw.list (Pw.ld rfl inferInstance rfl rfl rfl ?_) | refine Pw.list (Pw.sto rfl rfl inferInstance rfl rfl rfl rfl rfl inferInstance rfl ?_))
        exact Pw.ret_ (x := ()) (.tmp rfl .nil) (congrArg Value.bool (by rw [h3]; simp [show 0 < v.st from c2, c3])) trivial (fun w h => by trivial)
      · repeat (first | (with_reducible first | refine Pw.seq ?_ | refine Pw.region ?_ | refine Pw.nil ?_ | refine Pw.then_ ?_ | refine Pw.skip ?_ | refine Pw.block ?_ | refine Pw.exit ?_ | refine Pw.inX ?_ | refine Pw.inN ?_ | refine Pw.inR ?_ | refine Pw.thenX ?_ | refine Pw.thenR ?_ | refine Pw.ret ?_) | refine Pw.list (Pw.pure rfl rfl rfl ?_) | refine Pw.inY rfl ?_ | refine Pw.list (Pw.off rfl rfl ?_) | refine Pw.condT rfl ?_ | refine Pw.condF rfl ?_ | refine Pw.list (Pw.box rfl rfl rfl rfl (fun _ => ?_)) | refine Pw.list (Pw.alloc rfl rfl rfl rfl rfl (fun _ => ?_)) | refine Pw.list (Pw.build rfl rfl rfl rfl ?_) | refine Pw.list (Pw.ld rfl inferInstance rfl rfl rfl ?_) | refine Pw.list (Pw.sto rfl rfl inferInstance rfl rfl rfl rfl rfl inferInstance rfl ?_))
        exact Pw.ret_ (x := ()) (.tmp rfl .nil) (congrArg Value.bool (by rw [h3]; simp [c3])) trivial (fun w h => by trivial)
    · repeat (first | (with_reducible first | refine Pw.seq ?_ | refine Pw.region ?_ | refine Pw.nil ?_ | refine Pw.then_ ?_ | refine Pw.skip ?_ | refine Pw.block ?_ | refine Pw.exit ?_ | refine Pw.inX ?_ | refine Pw.inN ?_ | refine Pw.inR ?_ | refine Pw.thenX ?_ | refine Pw.thenR ?_ | refine Pw.ret ?_) | refine Pw.list (Pw.pure rfl rfl rfl ?_) | refine Pw.inY rfl ?_ | refine Pw.list (Pw.off rfl rfl ?_) | refine Pw.condT rfl ?_ | refine Pw.condF rfl ?_ | refine Pw.list (Pw.box rfl rfl rfl rfl (fun _ => ?_)) | refine Pw.list (Pw.alloc rfl rfl rfl rfl rfl (fun _ => ?_)) | refine Pw.list (Pw.build rfl rfl rfl rfl ?_) | refine Pw.list (Pw.ld rfl inferInstance rfl rfl rfl ?_) | refine Pw.list (Pw.sto rfl rfl inferInstance rfl rfl rfl rfl rfl inferInstance rfl ?_))
      exact Pw.ret_ (x := ()) (.tmp rfl .nil) (congrArg Value.bool (by rw [h3]; simp [show ¬ 0 < v.st from c2])) trivial (fun w h => by trivial)
  · repeat (first | (with_reducible first | refine Pw.seq ?_ | refine Pw.region ?_ | refine Pw.nil ?_ | refine Pw.then_ ?_ | refine Pw.skip ?_ | refine Pw.block ?_ | refine Pw.exit ?_ | refine Pw.inX ?_ | refine Pw.inN ?_ | refine Pw.inR ?_ | refine Pw.thenX ?_ | refine Pw.thenR ?_ | refine Pw.ret ?_) | refine Pw.list (Pw.pure rfl rfl rfl ?_) | refine Pw.inY rfl ?_ | refine Pw.list (Pw.off rfl rfl ?_) | refine Pw.condT rfl ?_ | refine Pw.condF rfl ?_ | refine Pw.list (Pw.box rfl rfl rfl rfl (fun _ => ?_)) | refine Pw.list (Pw.alloc rfl rfl rfl rfl rfl (fun _ => ?_)) | refine Pw.list (Pw.build rfl rfl rfl rfl ?_) | refine Pw.list (Pw.ld rfl inferInstance rfl rfl rfl ?_) | refine Pw.list (Pw.sto rfl rfl inferInstance rfl rfl rfl rfl rfl inferInstance rfl ?_))
    exact Pw.ret_ (x := ()) (.tmp rfl .nil) (congrArg Value.bool (ap_no (by omega)).symm) trivial (fun w h => by trivial)
end Go.Proofs.Wk
/- Exposures: the closure that orders parts; looking for a part. -/
namespace Go.Proofs.Wk
open Go.RowKit
set_option maxRecDepth 100000
set_option maxHeartbeats 1000000
attribute [local irreducible] Pw OpG
set_option linter.unusedVariables false
set_option linter.unusedSimpArgs false
def cmp3 (a b : Int) : Int := if a < b then -1 else if a > b then 1 else 0
theorem isNaNu_ct (a : Int) : Ct Try.prog 117 #[.int .u64 a] (fun _ => True) (fun _ : Unit => .bool false) Tt (fun _ _ => True) := by
  refine Ct.start Try.func117 rfl rfl (slots_of rfl slots1) (fun D w0 => ?_)
  repeat (first | (with_reducible first | refine Pw.seq ?_ | refine Pw.region ?_ | refine Pw.nil ?_ | refine Pw.then_ ?_ | refine Pw.skip ?_ | refine Pw.block ?_ | refine Pw.exit ?_ | refine Pw.inX ?_ | refine Pw.inN ?_ | refine Pw.inR ?_ | refine Pw.thenX ?_ | refine Pw.thenR ?_ | refine Pw.ret ?_) | refine Pw.list (Pw.pure rfl rfl rfl ?_) | refine Pw.inY rfl ?_ | refine Pw.list (Pw.off rfl rfl ?_) | refine Pw.condT rfl ?_ | refine Pw.condF rfl ?_)
  exact Pw.ret_ (x := ()) (.tmp rfl .nil) (congrArg Value.bool (decide_eq_false (fun e => e rfl))) trivial (fun w h => by trivial)
theorem isNaNi_ct (a : Int) : Ct Try.prog 118 #[.int .i64 a] (fun _ => True) (fun _ : Unit => .bool false) Tt (fun _ _ => True) := by
  refine Ct.start Try.func118 rfl rfl (slots_of rfl slots1) (fun D w0 => ?_)
  repeat (first | (with_reducible first | refine Pw.seq ?_ | refine Pw.region ?_ | refine Pw.nil ?_ | refine Pw.then_ ?_ | refine Pw.skip ?_ | refine Pw.block ?_ | refine Pw.exit ?_ | refine Pw.inX ?_ | refine Pw.inN ?_ | refine Pw.inR ?_ | refine Pw.thenX ?_ | refine Pw.thenR ?_ | refine Pw.ret ?_) | refine Pw.list (Pw.pure rfl rfl rfl ?_) | refine Pw.inY rfl ?_ | refine Pw.list (Pw.off rfl rfl ?_) | refine Pw.condT rfl ?_ | refine Pw.condF rfl ?_)
  exact Pw.ret_ (x := ()) (.tmp rfl .nil) (congrArg Value.bool (decide_eq_false (fun e => e rfl))) trivial (fun w h => by trivial)
theorem Compareu_ct (a b : Int) : Ct Try.prog 92 #[.int .u64 a, .int .u64 b] (fun _ => True) (fun _ : Unit => .int .i64 (cmp3 a b)) Tt (fun _ _ => True) := by
  refine Ct.start Try.func92 rfl rfl (slots_of rfl slots2) (fun D w0 => ?_)
  repeat (first | (with_reducible first | refine Pw.seq ?_ | refine Pw.region ?_ | refine Pw.nil ?_ | refine Pw.then_ ?_ | refine Pw.skip ?_ | refine Pw.block ?_ | refine Pw.exit ?_ | refine Pw.inX ?_ | refine Pw.inN ?_ | refine Pw.inR ?_ | refine Pw.thenX ?_ | refine Pw.thenR ?_ | refine Pw.ret ?_) | refine Pw.list (Pw.pure rfl rfl rfl ?_) | refine Pw.inY rfl ?_ | refine Pw.list (Pw.off rfl rfl ?_) | refine Pw.condT rfl ?_ | refine Pw.condF rfl ?_)
  refine Pw.list (Pw.call (isNaNu_ct a) rfl rfl rfl (by kernel_rfl) rfl rfl (fun w h => trivial) ?_)
  intro _ _
  repeat (first | (with_reducible first | refine Pw.seq ?_ | refine Pw.region ?_ | refine Pw.nil ?_ | refine Pw.then_ ?_ | refine Pw.skip ?_ | refine Pw.block ?_ | refine Pw.exit ?_ | refine Pw.inX ?_ | refine Pw.inN ?_ | refine Pw.inR ?_ | refine Pw.thenX ?_ | refine Pw.thenR ?_ | refine Pw.ret ?_) | refine Pw.list (Pw.pure rfl rfl rfl ?_) | refine Pw.inY rfl ?_ | refine Pw.list (Pw.off rfl rfl ?_) | refine Pw.condT rfl ?_ | refine Pw.condF rfl ?_)
  refine Pw.list (Pw.call (isNaNu_ct b) rfl rfl rfl (by kernel_rfl) rfl rfl (fun w h => trivial) ?_)
  intro _ _
  repeat (first | (with_reducible first | refine Pw.seq ?_ | refine Pw.region ?_ | refine Pw.nil ?_ | refine Pw.then_ ?_ | refine Pw.skip ?_ | refine Pw.block ?_ | refine Pw.exit ?_ | refine Pw.inX ?_ | refine Pw.inN ?_ | refine Pw.inR ?_ | refine Pw.thenX ?_ | refine Pw.thenR ?_ | refine Pw.ret ?_) | refine Pw.list (Pw.pure rfl rfl rfl ?_) | refine Pw.inY rfl ?_ | refine Pw.list (Pw.off rfl rfl ?_) | refine Pw.condT rfl ?_ | refine Pw.condF rfl ?_)
  refine Pw.condD rfl (fun c1 => ?_) (fun c1 => ?_)
  · repeat (first | (with_reducible first | refine Pw.seq ?_ | refine Pw.region ?_ | refine Pw.nil ?_ | refine Pw.then_ ?_ | refine Pw.skip ?_ | refine Pw.block ?_ | refine Pw.exit ?_ | refine Pw.inX ?_ | refine Pw.inN ?_ | refine Pw.inR ?_ | refine Pw.thenX ?_ | refine Pw.thenR ?_ | refine Pw.ret ?_) | refine Pw.list (Pw.pure rfl rfl rfl ?_) | refine Pw.inY rfl ?_ | refine Pw.list (Pw.off rfl rfl ?_) | refine Pw.condT rfl ?_ | refine Pw.condF rfl ?_)
    exact Pw.ret_ (x := ()) (.tmp rfl .nil) (by unfold cmp3; rw [if_pos c1]; rfl) trivial (fun w h => by trivial)
  repeat (first | (with_reducible first | refine Pw.seq ?_ | refine Pw.region ?_ | refine Pw.nil ?_ | refine Pw.then_ ?_ | refine Pw.skip ?_ | refine Pw.block ?_ | refine Pw.exit ?_ | refine Pw.inX ?_ | refine Pw.inN ?_ | refine Pw.inR ?_ | refine Pw.thenX ?_ | refine Pw.thenR ?_ | refine Pw.ret ?_) | refine Pw.list (Pw.pure rfl rfl rfl ?_) | refine Pw.inY rfl ?_ | refine Pw.list (Pw.off rfl rfl ?_) | refine Pw.condT rfl ?_ | refine Pw.condF rfl ?_)
  refine Pw.condD rfl (fun c2 => ?_) (fun c2 => ?_)
  · repeat (first | (with_reducible first | refine Pw.seq ?_ | refine Pw.region ?_ | refine Pw.nil ?_ | refine Pw.then_ ?_ | refine Pw.skip ?_ | refine Pw.block ?_ | refine Pw.exit ?_ | refine Pw.inX ?_ | refine Pw.inN ?_ | refine Pw.inR ?_ | refine Pw.thenX ?_ | refine Pw.thenR ?_ | refine Pw.ret ?_) | refine Pw.list (Pw.pure rfl rfl rfl ?_) | refine Pw.inY rfl ?_ | refine Pw.list (Pw.off rfl rfl ?_) | refine Pw.condT rfl ?_ | refine Pw.condF rfl ?_)
    exact Pw.ret_ (x := ()) (.tmp rfl .nil) (by unfold cmp3; rw [if_neg c1, if_pos c2]; rfl) trivial (fun w h => by trivial)
  repeat (first | (with_reducible first | refine Pw.seq ?_ | refine Pw.region ?_ | refine Pw.nil ?_ | refine Pw.then_ ?_ | refine Pw.skip ?_ | refine Pw.block ?_ | refine Pw.exit ?_ | refine Pw.inX ?_ | refine Pw.inN ?_ | refine Pw.inR ?_ | refine Pw.thenX ?_ | refine Pw.thenR ?_ | refine Pw.ret ?_) | refine Pw.list (Pw.pure rfl rfl rfl ?_) | refine Pw.inY rfl ?_ | refine Pw.list (Pw.off rfl rfl ?_) | refine Pw.condT rfl ?_ | refine Pw.condF rfl ?_)
  exact Pw.ret_ (x := ()) (.tmp rfl .nil) (by unfold cmp3; rw [if_neg c1, if_neg c2]; rfl) trivial (fun w h => by trivial)
theorem Comparei_ct (a b : Int) : Ct Try.prog 93 #[.int .i64 a, .int .i64 b] (fun _ => True) (fun _ : Unit => .int .i64 (cmp3 a b)) Tt (fun _ _ => True) := by
  refine Ct.start Try.func93 rfl rfl (slots_of rfl slots2) (fun D w0 => ?_)
  repeat (first | (with_reducible first | refine Pw.seq ?_ | refine Pw.region ?_ | refine Pw.nil ?_ | refine Pw.then_ ?_ | refine Pw.skip ?_ | refine Pw.block ?_ | refine Pw.exit ?_ | refine Pw.inX ?_ | refine Pw.inN ?_ | refine Pw.inR ?_ | refine Pw.thenX ?_ | refine Pw.thenR ?_ | refine Pw.ret ?_) | refine Pw.list (Pw.pure rfl rfl rfl ?_) | refine Pw.inY rfl ?_ | refine Pw.list (Pw.off rfl rfl ?_) | refine Pw.condT rfl ?_ | refine Pw.condF rfl ?_)
  refine Pw.list (Pw.call (isNaNi_ct a) rfl rfl rfl (by kernel_rfl) rfl rfl (fun w h => trivial) ?_)
  intro _ _
  repeat (first | (with_reducible first | refine Pw.seq ?_ | refine Pw.region ?_ | refine Pw.nil ?_ | refine Pw.then_ ?_ | refine Pw.skip ?_ | refine Pw.block ?_ | refine Pw.exit ?_ | refine Pw.inX ?_ | refine Pw.inN ?_ | refine Pw.inR ?_ | refine Pw.thenX ?_ | refine Pw.thenR ?_ | refine Pw.ret ?_) | refine Pw.list (Pw.pure rfl rfl rfl ?_) | refine Pw.inY rfl ?_ | refine Pw.list (Pw.off rfl rfl ?_) | refine Pw.condT rfl ?_ | refine Pw.condF rfl ?_)
  refine Pw.list (Pw.call (isNaNi_ct b) rfl rfl rfl (by kernel_rfl) rfl rfl (fun w h => trivial) ?_)
  intro _ _
  repeat (first | (with_reducible first | refine Pw.seq ?_ | refine Pw.region ?_ | refine Pw.nil ?_ | refine Pw.then_ ?_ | refine Pw.skip ?_ | refine Pw.block ?_ | refine Pw.exit ?_ | refine Pw.inX ?_ | refine Pw.inN ?_ | refine Pw.inR ?_ | refine Pw.thenX ?_ | refine Pw.thenR ?_ | refine Pw.ret ?_) | refine Pw.list (Pw.pure rfl rfl rfl ?_) | refine Pw.inY rfl ?_ | refine Pw.list (Pw.off rfl rfl ?_) | refine Pw.condT rfl ?_ | refine Pw.condF rfl ?_)
  refine Pw.condD rfl (fun c1 => ?_) (fun c1 => ?_)
  · repeat (first | (with_reducible first | refine Pw.seq ?_ | refine Pw.region ?_ | refine Pw.nil ?_ | refine Pw.then_ ?_ | refine Pw.skip ?_ | refine Pw.block ?_ | refine Pw.exit ?_ | refine Pw.inX ?_ | refine Pw.inN ?_ | refine Pw.inR ?_ | refine Pw.thenX ?_ | refine Pw.thenR ?_ | refine Pw.ret ?_) | refine Pw.list (Pw.pure rfl rfl rfl ?_) | refine Pw.inY rfl ?_ | refine Pw.list (Pw.off rfl rfl ?_) | refine Pw.condT rfl ?_ | refine Pw.condF rfl ?_)
    exact Pw.ret_ (x := ()) (.tmp rfl .nil) (by unfold cmp3; rw [if_pos c1]; rfl) trivial (fun w h => by trivial)
  repeat (first | (with_reducible first | refine Pw.seq ?_ | refine Pw.region ?_ | refine Pw.nil ?_ | refine Pw.then_ ?_ | refine Pw.skip ?_ | refine Pw.block ?_ | refine Pw.exit ?_ | refine Pw.inX ?_ | refine Pw.inN ?_ | refine Pw.inR ?_ | refine Pw.thenX ?_ | refine Pw.thenR ?_ | refine Pw.ret ?_) | refine Pw.list (Pw.pure rfl rfl rfl ?_) | refine Pw.inY rfl ?_ | refine Pw.list (Pw.off rfl rfl ?_) | refine Pw.condT rfl ?_ | refine Pw.condF rfl ?_)
  refine Pw.condD rfl (fun c2 => ?_) (fun c2 => ?_)
  · repeat (first | (with_reducible first | refine Pw.seq ?_ | refine Pw.region ?_ | refine Pw.nil ?_ | refine Pw.then_ ?_ | refine Pw.skip ?_ | refine Pw.block ?_ | refine Pw.exit ?_ | refine Pw.inX ?_ | refine Pw.inN ?_ | refine Pw.inR ?_ | refine Pw.thenX ?_ | refine Pw.thenR ?_ | refine Pw.ret ?_) | refine Pw.list (Pw.pure rfl rfl rfl ?_) | refine Pw.inY rfl ?_ | refine Pw.list (Pw.off rfl rfl ?_) | refine Pw.condT rfl ?_ | refine Pw.condF rfl ?_)
    exact Pw.ret_ (x := ()) (.tmp rfl .nil) (by unfold cmp3; rw [if_neg c1, if_pos c2]; rfl) trivial (fun w h => by trivial)
  repeat (first | (with_reducible first | refine Pw.seq ?_ | refine Pw.region ?_ | refine Pw.nil ?_ | refine Pw.then_ ?_ | refine Pw.skip ?_ | refine Pw.block ?_ | refine Pw.exit ?_ | refine Pw.inX ?_ | refine Pw.inN ?_ | refine Pw.inR ?_ | refine Pw.thenX ?_ | refine Pw.thenR ?_ | refine Pw.ret ?_) | refine Pw.list (Pw.pure rfl rfl rfl ?_) | refine Pw.inY rfl ?_ | refine Pw.list (Pw.off rfl rfl ?_) | refine Pw.condT rfl ?_ | refine Pw.condF rfl ?_)
  exact Pw.ret_ (x := ()) (.tmp rfl .nil) (by unfold cmp3; rw [if_neg c1, if_neg c2]; rfl) trivial (fun w h => by trivial)
theorem Or_ct (u v : Int) (g : Nat) : Ct Try.prog 91 #[.slice (some ⟨g, 0, none⟩) 2 2] (fun W => W.heap[g]? = some (row [.int .i64 u, .int .i64 v] 3)) (fun _ : Unit => .int .i64 (if u ≠ 0 then u else v)) Tt (fun _ _ => True) := by
  refine Ct.start Try.func91 rfl rfl (slots_of rfl slots1) (fun D w0 => ?_)
  repeat (first | (with_reducible first | refine Pw.seq ?_ | refine Pw.region ?_ | refine Pw.nil ?_ | refine Pw.then_ ?_ | refine Pw.skip ?_ | refine Pw.block ?_ | refine Pw.exit ?_ | refine Pw.inX ?_ | refine Pw.inN ?_ | refine Pw.inR ?_ | refine Pw.thenX ?_ | refine Pw.thenR ?_ | refine Pw.ret ?_) | refine Pw.list (Pw.pure rfl rfl rfl ?_) | refine Pw.inY rfl ?_ | refine Pw.list (Pw.off rfl rfl ?_) | refine Pw.condT rfl ?_ | refine Pw.condF rfl ?_ | refine Pw.list (Pw.box rfl rfl rfl rfl (fun _ => ?_)) | refine Pw.list (Pw.alloc rfl rfl rfl rfl rfl (fun _ => ?_)) | refine Pw.list (Pw.build rfl rfl rfl rfl ?_) | refine Pw.list (Pw.ld rfl inferInstance rfl rfl rfl ?_) | refine Pw.list (Pw.sto rfl rfl inferInstance rfl rfl rfl rfl rfl inferInstance rfl ?_))
  refine Pw.rounds 3 (Pw.round ?_)
  repeat (first | (with_reducible first | refine Pw.seq ?_ | refine Pw.region ?_ | refine Pw.nil ?_ | refine Pw.then_ ?_ | refine Pw.skip ?_ | refine Pw.block ?_ | refine Pw.exit ?_ | refine Pw.inX ?_ | refine Pw.inN ?_ | refine Pw.inR ?_ | refine Pw.thenX ?_ | refine Pw.thenR ?_ | refine Pw.ret ?_) | refine Pw.list (Pw.pure rfl rfl rfl ?_) | refine Pw.inY rfl ?_ | refine Pw.list (Pw.off rfl rfl ?_) | refine Pw.condT rfl ?_ | refine Pw.condF rfl ?_ | refine Pw.list (Pw.box rfl rfl rfl rfl (fun _ => ?_)) | refine Pw.list (Pw.alloc rfl rfl rfl rfl rfl (fun _ => ?_)) | refine Pw.list (Pw.build rfl rfl rfl rfl ?_) | refine Pw.list (Pw.ld rfl inferInstance rfl rfl rfl ?_) | refine Pw.list (Pw.sto rfl rfl inferInstance rfl rfl rfl rfl rfl inferInstance rfl ?_))
  refine Pw.list (Pw.indexO rfl rfl rfl rfl (Int.le_refl 0) (by show (0 : Int) < 2; omega) rfl rfl ?_)
  repeat (first | (with_reducible first | refine Pw.seq ?_ | refine Pw.region ?_ | refine Pw.nil ?_ | refine Pw.then_ ?_ | refine Pw.skip ?_ | refine Pw.block ?_ | refine Pw.exit ?_ | refine Pw.inX ?_ | refine Pw.inN ?_ | refine Pw.inR ?_ | refine Pw.thenX ?_ | refine Pw.thenR ?_ | refine Pw.ret ?_) | refine Pw.list (Pw.pure rfl rfl rfl ?_) | refine Pw.inY rfl ?_ | refine Pw.list (Pw.off rfl rfl ?_) | refine Pw.condT rfl ?_ | refine Pw.condF rfl ?_ | refine Pw.list (Pw.box rfl rfl rfl rfl (fun _ => ?_)) | refine Pw.list (Pw.alloc rfl rfl rfl rfl rfl (fun _ => ?_)) | refine Pw.list (Pw.build rfl rfl rfl rfl ?_) | refine Pw.list (Pw.ld rfl inferInstance rfl rfl rfl ?_) | refine Pw.list (Pw.sto rfl rfl inferInstance rfl rfl rfl rfl rfl inferInstance rfl ?_))
  refine Pw.condD rfl (fun c1 => ?_) (fun c1 => ?_)
  · repeat (first | (with_reducible first | refine Pw.seq ?_ | refine Pw.region ?_ | refine Pw.nil ?_ | refine Pw.then_ ?_ | refine Pw.skip ?_ | refine Pw.block ?_ | refine Pw.exit ?_ | refine Pw.inX ?_ | refine Pw.inN ?_ | refine Pw.inR ?_ | refine Pw.thenX ?_ | refine Pw.thenR ?_ | refine Pw.ret ?_) | refine Pw.list (Pw.pure rfl rfl rfl ?_) | refine Pw.inY rfl ?_ | refine Pw.list (Pw.off rfl rfl ?_) | refine Pw.condT rfl ?_ | refine Pw.condF rfl ?_ | refine Pw.list (Pw.box rfl rfl rfl rfl (fun _ => ?_)) | refine Pw.list (Pw.alloc rfl rfl rfl rfl rfl (fun _ => ?_)) | refine Pw.list (Pw.build rfl rfl rfl rfl ?_) | refine Pw.list (Pw.ld rfl inferInstance rfl rfl rfl ?_) | refine Pw.list (Pw.sto rfl rfl inferInstance rfl rfl rfl rfl rfl inferInstance rfl ?_))
    exact Pw.ret_ (x := ()) (.tmp rfl .nil) (by rw [if_pos c1]; rfl) trivial (fun w h => by trivial)
  rw [if_neg c1]
  repeat (first | (with_reducible first | refine Pw.seq ?_ | refine Pw.region ?_ | refine Pw.nil ?_ | refine Pw.then_ ?_ | refine Pw.skip ?_ | refine Pw.block ?_ | refine Pw.exit ?_ | refine Pw.inX ?_ | refine Pw.inN ?_ | refine Pw.inR ?_ | refine Pw.thenX ?_ | refine Pw.thenR ?_ | refine Pw.ret ?_) | refine Pw.list (Pw.pure rfl rfl rfl ?_) | refine Pw.inY rfl ?_ | refine Pw.list (Pw.off rfl rfl ?_) | refine Pw.condT rfl ?_ | refine Pw.condF rfl ?_ | refine Pw.list (Pw.box rfl rfl rfl rfl (fun _ => ?_)) | refine Pw.list (Pw.alloc rfl rfl rfl rfl rfl (fun _ => ?_)) | refine Pw.list (Pw.build rfl rfl rfl rfl ?_) | refine Pw.list (Pw.ld rfl inferInstance rfl rfl rfl ?_) | refine Pw.list (Pw.sto rfl rfl inferInstance rfl rfl rfl rfl rfl inferInstance rfl ?_))
  refine Pw.re (d := 8) (v' := .int .i64 1) rfl (congrArg (Value.int .i64) (wi64 (by omega) (by omega))) ?_
  refine Pw.round ?_
  repeat (first | (with_reducible first | refine Pw.seq ?_ | refine Pw.region ?_ | refine Pw.nil ?_ | refine Pw.then_ ?_ | refine Pw.skip ?_ | refine Pw.block ?_ | refine Pw.exit ?_ | refine Pw.inX ?_ | refine Pw.inN ?_ | refine Pw.inR ?_ | refine Pw.thenX ?_ | refine Pw.thenR ?_ | refine Pw.ret ?_) | refine Pw.list (Pw.pure rfl rfl rfl ?_) | refine Pw.inY rfl ?_ | refine Pw.list (Pw.off rfl rfl ?_) | refine Pw.condT rfl ?_ | refine Pw.condF rfl ?_ | refine Pw.list (Pw.box rfl rfl rfl rfl (fun _ => ?_)) | refine Pw.list (Pw.alloc rfl rfl rfl rfl rfl (fun _ => ?_)) | refine Pw.list (Pw.build rfl rfl rfl rfl ?_) | refine Pw.list (Pw.ld rfl inferInstance rfl rfl rfl ?_) | refine Pw.list (Pw.sto rfl rfl inferInstance rfl rfl rfl rfl rfl inferInstance rfl ?_))
  refine Pw.list (Pw.indexO rfl rfl rfl rfl (show (0 : Int) ≤ 1 by omega) (by show (1 : Int) < 2; omega) rfl rfl ?_)
  repeat (first | (with_reducible first | refine Pw.seq ?_ | refine Pw.region ?_ | refine Pw.nil ?_ | refine Pw.then_ ?_ | refine Pw.skip ?_ | refine Pw.block ?_ | refine Pw.exit ?_ | refine Pw.inX ?_ | refine Pw.inN ?_ | refine Pw.inR ?_ | refine Pw.thenX ?_ | refine Pw.thenR ?_ | refine Pw.ret ?_) | refine Pw.list (Pw.pure rfl rfl rfl ?_) | refine Pw.inY rfl ?_ | refine Pw.list (Pw.off rfl rfl ?_) | refine Pw.condT rfl ?_ | refine Pw.condF rfl ?_ | refine Pw.list (Pw.box rfl rfl rfl rfl (fun _ => ?_)) | refine Pw.list (Pw.alloc rfl rfl rfl rfl rfl (fun _ => ?_)) | refine Pw.list (Pw.build rfl rfl rfl rfl ?_) | refine Pw.list (Pw.ld rfl inferInstance rfl rfl rfl ?_) | refine Pw.list (Pw.sto rfl rfl inferInstance rfl rfl rfl rfl rfl inferInstance rfl ?_))
  refine Pw.condD rfl (fun c2 => ?_) (fun c2 => ?_)
  · repeat (first | (with_reducible first | refine Pw.seq ?_ | refine Pw.region ?_ | refine Pw.nil ?_ | refine Pw.then_ ?_ | refine Pw.skip ?_ | refine Pw.block ?_ | refine Pw.exit ?_ | refine Pw.inX ?_ | refine Pw.inN ?_ | refine Pw.inR ?_ | refine Pw.thenX ?_ | refine Pw.thenR ?_ | refine Pw.ret ?_) | refine Pw.list (Pw.pure rfl rfl rfl ?_) | refine Pw.inY rfl ?_ | refine Pw.list (Pw.off rfl rfl ?_) | refine Pw.condT rfl ?_ | refine Pw.condF rfl ?_ | refine Pw.list (Pw.box rfl rfl rfl rfl (fun _ => ?_)) | refine Pw.list (Pw.alloc rfl rfl rfl rfl rfl (fun _ => ?_)) | refine Pw.list (Pw.build rfl rfl rfl rfl ?_) | refine Pw.list (Pw.ld rfl inferInstance rfl rfl rfl ?_) | refine Pw.list (Pw.sto rfl rfl inferInstance rfl rfl rfl rfl rfl inferInstance rfl ?_))
    exact Pw.ret_ (x := ()) (.tmp rfl .nil) rfl trivial (fun w h => by trivial)
  have e : v = 0 := by omega
  subst e
  repeat (first | (with_reducible first | refine Pw.seq ?_ | refine Pw.region ?_ | refine Pw.nil ?_ | refine Pw.then_ ?_ | refine Pw.skip ?_ | refine Pw.block ?_ | refine Pw.exit ?_ | refine Pw.inX ?_ | refine Pw.inN ?_ | refine Pw.inR ?_ | refine Pw.thenX ?_ | refine Pw.thenR ?_ | refine Pw.ret ?_) | refine Pw.list (Pw.pure rfl rfl rfl ?_) | refine Pw.inY rfl ?_ | refine Pw.list (Pw.off rfl rfl ?_) | refine Pw.condT rfl ?_ | refine Pw.condF rfl ?_ | refine Pw.list (Pw.box rfl rfl rfl rfl (fun _ => ?_)) | refine Pw.list (Pw.alloc rfl rfl rfl rfl rfl (fun _ => ?_)) | refine Pw.list (Pw.build rfl rfl rfl rfl ?_) | refine Pw.list (Pw.ld rfl inferInstance rfl rfl rfl ?_) | refine Pw.list (Pw.sto rfl rfl inferInstance rfl rfl rfl rfl rfl inferInstance rfl ?_))
  refine Pw.re (d := 8) (v' := .int .i64 2) rfl (congrArg (Value.int .i64) (wi64 (by omega) (by omega))) ?_
  refine Pw.round ?_
  repeat (first | (with_reducible first | refine Pw.seq ?_ | refine Pw.region ?_ | refine Pw.nil ?_ | refine Pw.then_ ?_ | refine Pw.skip ?_ | refine Pw.block ?_ | refine Pw.exit ?_ | refine Pw.inX ?_ | refine Pw.inN ?_ | refine Pw.inR ?_ | refine Pw.thenX ?_ | refine Pw.thenR ?_ | refine Pw.ret ?_) | refine Pw.list (Pw.pure rfl rfl rfl ?_) | refine Pw.inY rfl ?_ | refine Pw.list (Pw.off rfl rfl ?_) | refine Pw.condT rfl ?_ | refine Pw.condF rfl ?_ | refine Pw.list (Pw.box rfl rfl rfl rfl (fun _ => ?_)) | refine Pw.list (Pw.alloc rfl rfl rfl rfl rfl (fun _ => ?_)) | refine Pw.list (Pw.build rfl rfl rfl rfl ?_) | refine Pw.list (Pw.ld rfl inferInstance rfl rfl rfl ?_) | refine Pw.list (Pw.sto rfl rfl inferInstance rfl rfl rfl rfl rfl inferInstance rfl ?_))
  exact Pw.ret_ (x := ()) (.tmp rfl .nil) rfl trivial (fun w h => by trivial)
def cfP (a b : Pt) : Int := if cmp3 b.2 a.2 ≠ 0 then cmp3 b.2 a.2 else cmp3 a.1 b.1
theorem cfP_ct (a b : Pt) : Ct Try.prog 90 #[ptV a, ptV b] (fun _ => True) (fun _ : Unit => .int .i64 (cfP a b)) Tt (fun _ _ => True) := by
  refine Ct.start Try.func90 rfl rfl (slots_of rfl slots2) (fun D w0 => ?_)
  repeat (first | (with_reducible first | refine Pw.seq ?_ | refine Pw.region ?_ | refine Pw.nil ?_ | refine Pw.then_ ?_ | refine Pw.skip ?_ | refine Pw.block ?_ | refine Pw.exit ?_ | refine Pw.inX ?_ | refine Pw.inN ?_ | refine Pw.inR ?_ | refine Pw.thenX ?_ | refine Pw.thenR ?_ | refine Pw.ret ?_) | refine Pw.list (Pw.pure rfl rfl rfl ?_) | refine Pw.inY rfl ?_ | refine Pw.list (Pw.off rfl rfl ?_) | refine Pw.condT rfl ?_ | refine Pw.condF rfl ?_)
  refine Pw.list (Pw.box rfl rfl rfl rfl (fun g1 => freeHead ?_))
  refine Pw.list (Pw.box rfl rfl rfl rfl (fun g2 => freeHead ?_))
  repeat (first | (with_reducible first | refine Pw.seq ?_ | refine Pw.region ?_ | refine Pw.nil ?_ | refine Pw.then_ ?_ | refine Pw.skip ?_ | refine Pw.block ?_ | refine Pw.exit ?_ | refine Pw.inX ?_ | refine Pw.inN ?_ | refine Pw.inR ?_ | refine Pw.thenX ?_ | refine Pw.thenR ?_ | refine Pw.ret ?_) | refine Pw.list (Pw.pure rfl rfl rfl ?_) | refine Pw.inY rfl ?_ | refine Pw.list (Pw.off rfl rfl ?_) | refine Pw.condT rfl ?_ | refine Pw.condF rfl ?_ | refine Pw.list (Pw.box rfl rfl rfl rfl (fun _ => ?_)) | refine Pw.list (Pw.alloc rfl rfl rfl rfl rfl (fun _ => ?_)) | refine Pw.list (Pw.build rfl rfl rfl rfl ?_) | refine Pw.list (Pw.ld rfl inferInstance rfl rfl rfl ?_) | refine Pw.list (Pw.sto rfl rfl inferInstance rfl rfl rfl rfl rfl inferInstance rfl ?_))
  refine Pw.drawnG mixed rfl rfl ?_
  refine Pw.takeP 0 (nb 13 1) rfl rfl rfl rfl (by kernel_rfl) np sf ?_
  refine Pw.takeF 1 (nb 13 3) rfl rfl inferInstance rfl rfl rfl (by kernel_rfl) np sf ?_
  refine Pw.takeP 2 (nb 13 7) rfl rfl rfl rfl (by kernel_rfl) np sf ?_
  refine Pw.takeF 3 (nb 13 15) rfl rfl inferInstance rfl rfl rfl (by kernel_rfl) np sf ?_
  refine Pw.takeP 5 (nb 13 47) rfl rfl rfl rfl (by kernel_rfl) np sf ?_
  refine Pw.takeF 6 (nb 13 111) rfl rfl inferInstance rfl rfl rfl (by kernel_rfl) np sf ?_
  refine Pw.takeP 7 (nb 13 239) rfl rfl rfl rfl (by kernel_rfl) np sf ?_
  refine Pw.takeF 8 (nb 13 495) rfl rfl inferInstance rfl rfl rfl (by kernel_rfl) np sf ?_
  refine Pw.one 4 (nb 13 511) rfl (by kernel_rfl) ?_
  refine Pw.call (Compareu_ct b.2 a.2) rfl rfl rfl (by kernel_rfl) rfl rfl (fun w h => trivial) ?_
  intro _ _
  refine Pw.held sf ?_
  refine Pw.one 9 (nb 13 1023) rfl (by kernel_rfl) ?_
  refine Pw.call (Comparei_ct a.1 b.1) rfl rfl rfl (by kernel_rfl) rfl rfl (fun w h => trivial) ?_
  intro _ _
  refine Pw.held sf ?_
  refine Pw.one 10 (nb 13 2047) rfl (by kernel_rfl) ?_
  refine Pw.lit2 rfl rfl rfl rfl rfl rfl rfl rfl rfl rfl rfl (fun g5 => freeHead ?_)
  refine Pw.held sf ?_
  refine Pw.one 11 (nb 13 4095) rfl (by kernel_rfl) ?_
  refine Pw.call (Or_ct (cmp3 b.2 a.2) (cmp3 a.1 b.1) g5) rfl rfl rfl (by kernel_rfl) rfl rfl (fun w h => (by first | exact fact0 (h) | exact fact0 (allTail (h)) | exact fact0 (allTail (allTail (h))) | exact fact0 (allTail (allTail (allTail (h)))) | exact fact0 (allTail (allTail (allTail (allTail (h))))) | exact fact0 (allTail (allTail (allTail (allTail (allTail (h)))))) | exact fact0 (allTail (allTail (allTail (allTail (allTail (allTail (h))))))) | exact fact0 (allTail (allTail (allTail (allTail (allTail (allTail (allTail (h)))))))) | exact fact0 (allTail (allTail (allTail (allTail (allTail (allTail (allTail (allTail (h))))))))) | exact fact0 (allTail (allTail (allTail (allTail (allTail (allTail (allTail (allTail (allTail (h)))))))))))) ?_
  intro _ _
  refine Pw.held sf ?_
  refine Pw.takeP 12 (nb 13 8191) rfl rfl rfl rfl (by kernel_rfl) np sf ?_
  refine Pw.done (by kernel_rfl) ?_
  repeat (first | (with_reducible first | refine Pw.seq ?_ | refine Pw.region ?_ | refine Pw.nil ?_ | refine Pw.then_ ?_ | refine Pw.skip ?_ | refine Pw.block ?_ | refine Pw.exit ?_ | refine Pw.inX ?_ | refine Pw.inN ?_ | refine Pw.inR ?_ | refine Pw.thenX ?_ | refine Pw.thenR ?_ | refine Pw.ret ?_) | refine Pw.list (Pw.pure rfl rfl rfl ?_) | refine Pw.inY rfl ?_ | refine Pw.list (Pw.off rfl rfl ?_) | refine Pw.condT rfl ?_ | refine Pw.condF rfl ?_)
  exact Pw.ret_ (x := ()) (.tmp rfl .nil) rfl trivial (fun w h => by trivial)
/-! ### Looking for a part -/
theorem part1_ct (p : Pt) (k : Int) (g : Nat) : Ct Try.prog 101 #[ptV p, .pointer (some ⟨g, 0, none⟩)] (fun W => W.heap[g]? = some (row [.int .i64 k] 3)) (fun _ : Unit => .bool (decide (p.1 = k))) Tt (fun _ _ => True) := by
  refine Ct.start Try.func101 rfl rfl (slots_of rfl slots2) (fun D w0 => ?_)
  repeat (first | (with_reducible first | refine Pw.seq ?_ | refine Pw.region ?_ | refine Pw.nil ?_ | refine Pw.then_ ?_ | refine Pw.skip ?_ | refine Pw.block ?_ | refine Pw.exit ?_ | refine Pw.inX ?_ | refine Pw.inN ?_ | refine Pw.inR ?_ | refine Pw.thenX ?_ | refine Pw.thenR ?_ | refine Pw.ret ?_) | refine Pw.list (Pw.pure rfl rfl rfl ?_) | refine Pw.inY rfl ?_ | refine Pw.list (Pw.off rfl rfl ?_) | refine Pw.condT rfl ?_ | refine Pw.condF rfl ?_ | refine Pw.list (Pw.box rfl rfl rfl rfl (fun _ => freeHead ?_)) | refine Pw.list (Pw.alloc rfl rfl rfl rfl rfl (fun _ => ?_)) | refine Pw.list (Pw.build rfl rfl rfl rfl ?_) | refine Pw.list (Pw.ld rfl inferInstance rfl rfl rfl ?_) | refine Pw.list (Pw.sto rfl rfl inferInstance rfl rfl rfl rfl rfl inferInstance rfl ?_))
  exact Pw.ret_ (x := ()) (.tmp rfl .nil) rfl trivial (fun w h => by trivial)
theorem IndexP_ct (l : List Pt) (x : Option Addr × Nat) (f : FuncId) (cap : Value) (p : Pt → Bool) (pre : World → Prop) (hf : ∀ v ∈ l, Ct Try.prog f #[ptV v, cap] pre (fun _ : Unit => .bool (p v)) Tt (fun _ _ => True)) (hcb : callB Try.prog f = true) :
    Ct Try.prog 100 #[psV l x, .func (.func f) #[] #[cap]] (fun W => PS l x W ∧ pre W) (fun _ : Unit => .int .i64 (ixI p l)) Tt (fun _ _ => True) := by
  obtain ⟨A, c⟩ := x
  refine Ct.start Try.func100 rfl rfl (slots_of rfl slots2) (fun D w0 => Pw.facts (G' := [PS l (A, c), pre]) (fun w h => allCons (fact0 h).1 (allCons (fact0 h).2 allNil)) ?_)
  refine Pw.use (p := l.length ≤ maxLen) (fun w h => (fact0 h).top) (fun htop => ?_)
  have htop := top63 htop
  repeat (first | (with_reducible first | refine Pw.seq ?_ | refine Pw.region ?_ | refine Pw.nil ?_ | refine Pw.then_ ?_ | refine Pw.skip ?_ | refine Pw.block ?_ | refine Pw.exit ?_ | refine Pw.inX ?_ | refine Pw.inN ?_ | refine Pw.inR ?_ | refine Pw.thenX ?_ | refine Pw.thenR ?_ | refine Pw.ret ?_) | refine Pw.list (Pw.pure rfl rfl rfl ?_) | refine Pw.inY rfl ?_ | refine Pw.list (Pw.off rfl rfl ?_) | refine Pw.condT rfl ?_ | refine Pw.condF rfl ?_)
  refine Pw.loopJ (σ := Nat) (fun i => i ≤ l.length ∧ ∀ j, j < i → ∀ y, l[j]? = some y → p y = false) (fun i => ⟨[(0, .slice A l.length c), (1, .func (.func f) #[] #[cap]), (7, .int .i64 l.length), (8, .int .i64 i)], [], [PS l (A, c), pre]⟩) (fun i => l.length - i) 0 ⟨Nat.zero_le _, fun j hj => absurd hj (Nat.not_lt_zero j)⟩ (Pw.enter ⟨rfl, rfl, rfl, rfl, trivial⟩ (fun _ h => h)) ?_
  rintro i ⟨hi, hj⟩
  dsimp only at hi hj ⊢
  repeat (first | (with_reducible first | refine Pw.seq ?_ | refine Pw.region ?_ | refine Pw.nil ?_ | refine Pw.then_ ?_ | refine Pw.skip ?_ | refine Pw.block ?_ | refine Pw.exit ?_ | refine Pw.inX ?_ | refine Pw.inN ?_ | refine Pw.inR ?_ | refine Pw.thenX ?_ | refine Pw.thenR ?_ | refine Pw.ret ?_) | refine Pw.list (Pw.pure rfl rfl rfl ?_) | refine Pw.inY rfl ?_ | refine Pw.list (Pw.off rfl rfl ?_) | refine Pw.condT rfl ?_ | refine Pw.condF rfl ?_)
  refine Pw.condD rfl (fun c3 => ?_) (fun c3 => ?_)
  · obtain ⟨v, hvi, hm⟩ := get_at (show i < l.length by omega)
    repeat (first | (with_reducible first | refine Pw.seq ?_ | refine Pw.region ?_ | refine Pw.nil ?_ | refine Pw.then_ ?_ | refine Pw.skip ?_ | refine Pw.block ?_ | refine Pw.exit ?_ | refine Pw.inX ?_ | refine Pw.inN ?_ | refine Pw.inR ?_ | refine Pw.thenX ?_ | refine Pw.thenR ?_ | refine Pw.ret ?_) | refine Pw.list (Pw.pure rfl rfl rfl ?_) | refine Pw.inY rfl ?_ | refine Pw.list (Pw.off rfl rfl ?_) | refine Pw.condT rfl ?_ | refine Pw.condF rfl ?_)
    refine Pw.list (Pw.index rfl rfl rfl rfl (Int.natCast_nonneg i) c3 (fun w h => (fact0 h).has (Int.natCast_nonneg i) c3) rfl rfl ?_)
    rintro ad rfl
    refine Pw.list (Pw.loadR v rfl inferInstance rfl (by rw [Int.toNat_natCast]; exact hvi) (by kernel_rfl) rfl rfl ?_)
    refine Pw.re (d := 15) (v' := ptV v) rfl rfl ?_
    repeat (first | (with_reducible first | refine Pw.seq ?_ | refine Pw.region ?_ | refine Pw.nil ?_ | refine Pw.then_ ?_ | refine Pw.skip ?_ | refine Pw.block ?_ | refine Pw.exit ?_ | refine Pw.inX ?_ | refine Pw.inN ?_ | refine Pw.inR ?_ | refine Pw.thenX ?_ | refine Pw.thenR ?_ | refine Pw.ret ?_) | refine Pw.list (Pw.pure rfl rfl rfl ?_) | refine Pw.inY rfl ?_ | refine Pw.list (Pw.off rfl rfl ?_) | refine Pw.condT rfl ?_ | refine Pw.condF rfl ?_)
    refine Pw.list (Pw.call (hf v hm) rfl rfl rfl hcb rfl rfl (fun w h => fact2 h) ?_)
    intro _ _
    cases hp : p v
    · repeat (first | (with_reducible first | refine Pw.seq ?_ | refine Pw.region ?_ | refine Pw.nil ?_ | refine Pw.then_ ?_ | refine Pw.skip ?_ | refine Pw.block ?_ | refine Pw.exit ?_ | refine Pw.inX ?_ | refine Pw.inN ?_ | refine Pw.inR ?_ | refine Pw.thenX ?_ | refine Pw.thenR ?_ | refine Pw.ret ?_) | refine Pw.list (Pw.pure rfl rfl rfl ?_) | refine Pw.inY rfl ?_ | refine Pw.list (Pw.off rfl rfl ?_) | refine Pw.condT rfl ?_ | refine Pw.condF rfl ?_)
      refine Pw.re (d := 8) (v' := .int .i64 ((i + 1 : Nat) : Int)) rfl (congrArg (Value.int .i64) (i64s (by omega) htop)) ?_
      exact Pw.again (i + 1) ⟨by omega, below_snoc hj hvi hp⟩ (by show l.length - (i + 1) < l.length - i; omega) ⟨rfl, rfl, rfl, rfl, trivial⟩ rfl (fun w h => allCons (fact2 h) (allCons (fact3 h) allNil))
    · repeat (first | (with_reducible first | refine Pw.seq ?_ | refine Pw.region ?_ | refine Pw.nil ?_ | refine Pw.then_ ?_ | refine Pw.skip ?_ | refine Pw.block ?_ | refine Pw.exit ?_ | refine Pw.inX ?_ | refine Pw.inN ?_ | refine Pw.inR ?_ | refine Pw.thenX ?_ | refine Pw.thenR ?_ | refine Pw.ret ?_) | refine Pw.list (Pw.pure rfl rfl rfl ?_) | refine Pw.inY rfl ?_ | refine Pw.list (Pw.off rfl rfl ?_) | refine Pw.condT rfl ?_ | refine Pw.condF rfl ?_)
      exact Pw.ret_ (x := ()) (.tmp rfl .nil) (congrArg (Value.int .i64) (ixI_hit hvi hp hj).symm) trivial (fun w h => by trivial)
  · repeat (first | (with_reducible first | refine Pw.seq ?_ | refine Pw.region ?_ | refine Pw.nil ?_ | refine Pw.then_ ?_ | refine Pw.skip ?_ | refine Pw.block ?_ | refine Pw.exit ?_ | refine Pw.inX ?_ | refine Pw.inN ?_ | refine Pw.inR ?_ | refine Pw.thenX ?_ | refine Pw.thenR ?_ | refine Pw.ret ?_) | refine Pw.list (Pw.pure rfl rfl rfl ?_) | refine Pw.inY rfl ?_ | refine Pw.list (Pw.off rfl rfl ?_) | refine Pw.condT rfl ?_ | refine Pw.condF rfl ?_)
    exact Pw.ret_ (x := ()) (.tmp rfl .nil) (congrArg (Value.int .i64) (ixI_none (below_all hj (by omega))).symm) trivial (fun w h => by trivial)
def partX (x : Ex) (k : Int) : Int := if k = x.id then x.own else match x.oth.find? (fun p : Pt => decide (p.1 = k)) with | some p => p.2 | none => 0
end Go.Proofs.Wk
/- A record of the library's own functions as this program numbers them, laid by the kit's tool. No conditions. -/
namespace Go.Proofs
open Go.Shelf
def Try.sortP_ren : Go.Shelf.Ren := ⟨fun | 6 => 115 | 15 => 128 | 14 => 127 | 28 => 144 | 29 => 145 | 20 => 136 | 21 => 137 | 22 => 138 | 23 => 139 | 24 => 140 | 25 => 141 | 26 => 142 | 27 => 143 | 46 => 146 | 47 => 147 | 48 => 148 | 49 => 149 | 50 => 150 | 57 => 151 | n => n, fun | 22 => 71 | 24 => 81 | 25 => 130 | 3 => 3 | 39 => 118 | 0 => 0 | 53 => 64 | 55 => 29 | 4 => 4 | 46 => 170 | 45 => 169 | 50 => 174 | 5 => 5 | 9 => 9 | 66 => 178 | 70 => 182 | 76 => 184 | 77 => 185 | n => n, fun | n => n⟩
theorem Try.sortP : Go.Proofs.SlLaysF0.n6 Try.prog Try.sortP_ren := {
  mixed := by kernel_rfl
  f6 := ⟨Try.f115.name, by decide, Try.func115.trans (congrArg some (by kernel_rfl))⟩
  f14 := ⟨Try.f127.name, by decide, Try.func127.trans (congrArg some (by kernel_rfl))⟩
  f15 := Try.func128.trans (congrArg some (by kernel_rfl))
  f20 := ⟨Try.f136.name, by decide, Try.func136.trans (congrArg some (by kernel_rfl))⟩
  f21 := ⟨Try.f137.name, by decide, Try.func137.trans (congrArg some (by kernel_rfl))⟩
  f22 := ⟨Try.f138.name, by decide, Try.func138.trans (congrArg some (by kernel_rfl))⟩
  f23 := ⟨Try.f139.name, by decide, Try.func139.trans (congrArg some (by kernel_rfl))⟩
  f24 := ⟨Try.f140.name, by decide, Try.func140.trans (congrArg some (by kernel_rfl))⟩
  f25 := ⟨Try.f141.name, by decide, Try.func141.trans (congrArg some (by kernel_rfl))⟩
  f26 := ⟨Try.f142.name, by decide, Try.func142.trans (congrArg some (by kernel_rfl))⟩
  f27 := ⟨Try.f143.name, by decide, Try.func143.trans (congrArg some (by kernel_rfl))⟩
  f28 := Try.func144.trans (congrArg some (by kernel_rfl))
  f29 := Try.func145.trans (congrArg some (by kernel_rfl))
  f46 := ⟨Try.f146.name, by decide, Try.func146.trans (congrArg some (by kernel_rfl))⟩
  f47 := Try.func147.trans (congrArg some (by kernel_rfl))
  f48 := Try.func148.trans (congrArg some (by kernel_rfl))
  f49 := ⟨Try.f149.name, by decide, Try.func149.trans (congrArg some (by kernel_rfl))⟩
  f50 := ⟨Try.f150.name, by decide, Try.func150.trans (congrArg some (by kernel_rfl))⟩
  f57 := ⟨Try.f151.name, by decide, Try.func151.trans (congrArg some (by kernel_rfl))⟩
  t0 := Try.underlying0
  a0 := Try.isAgg0
  z0 := Try.sizeOf0
  v0 := Try.zeroValue0
  t3 := Try.underlying3
  a3 := Try.isAgg3
  z3 := Try.sizeOf3
  v3 := Try.zeroValue3
  t4 := Try.underlying4
  a4 := Try.isAgg4
  z4 := Try.sizeOf4
  v4 := Try.zeroValue4
  t5 := Try.underlying5
  a5 := Try.isAgg5
  z5 := Try.sizeOf5
  v5 := Try.zeroValue5
  t9 := Try.underlying9
  a9 := Try.isAgg9
  z9 := Try.sizeOf9
  v9 := Try.zeroValue9
  t22 := Try.underlying71
  a22 := Try.isAgg71
  z22 := Try.sizeOf71
  v22 := Try.zeroValue71
  t25 := Try.underlying130
  a25 := Try.isAgg130
  z25 := Try.sizeOf130
  v25 := Try.zeroValue130
  t39 := Try.underlying118
  a39 := Try.isAgg118
  z39 := Try.sizeOf118
  v39 := Try.zeroValue118
  t45 := Try.underlying169
  a45 := Try.isAgg169
  z45 := Try.sizeOf169
  v45 := Try.zeroValue169
  t46 := Try.underlying170
  a46 := Try.isAgg170
  z46 := Try.sizeOf170
  v46 := Try.zeroValue170
  t50 := Try.underlying174
  a50 := Try.isAgg174
  z50 := Try.sizeOf174
  v50 := Try.zeroValue174
  t53 := Try.underlying64
  a53 := Try.isAgg64
  z53 := Try.sizeOf64
  v53 := Try.zeroValue64
  t55 := Try.underlying29
  a55 := Try.isAgg29
  z55 := Try.sizeOf29
  v55 := Try.zeroValue29
  t66 := Try.underlying178
  a66 := Try.isAgg178
  z66 := Try.sizeOf178
  v66 := Try.zeroValue178
  t70 := Try.underlying182
  a70 := Try.isAgg182
  z70 := Try.sizeOf182
  v70 := Try.zeroValue182
  t76 := Try.underlying184
  a76 := Try.isAgg184
  z76 := Try.sizeOf184
  v76 := Try.zeroValue184
  t77 := Try.underlying185
  a77 := Try.isAgg185
  z77 := Try.sizeOf185
  v77 := Try.zeroValue185 }
end Go.Proofs
/- Exposures: sorting parts, cutting them into pages: the library's functions. -/
namespace Go.Proofs.Wk
open Go.RowKit Go.Sort
set_option maxRecDepth 100000
set_option maxHeartbeats 1000000
attribute [local irreducible] Pw OpG
set_option linter.unusedVariables false
set_option linter.unusedSimpArgs false
def aheadP (a b : Pt) : Bool := decide (b.2 < a.2) || (decide (a.2 = b.2) && decide (a.1 < b.1))
theorem ltP (a b : Pt) : ltOf cfP a b = aheadP a b := by
  unfold ltOf cfP aheadP cmp3
  by_cases h1 : b.2 < a.2
  · simp [h1]
  · by_cases h2 : b.2 > a.2
    · have : ¬ a.2 = b.2 := by omega
      simp [h1, h2, this]
    · have e : a.2 = b.2 := by omega
      by_cases h3 : a.1 < b.1
      · simp [h1, h2, e, h3]
      · by_cases h4 : a.1 > b.1
        · simp [h1, h2, e, h3, h4]
        · simp [h1, h2, e, h3, h4]
theorem aheadP_iff {a b : Pt} : aheadP a b = true ↔ b.2 < a.2 ∨ (a.2 = b.2 ∧ a.1 < b.1) := by unfold aheadP; simp
theorem swoP : SWO (ltOf cfP) where
  irrefl x := by rw [ltP, ← Bool.not_eq_true, aheadP_iff]; omega
  trans x y z h1 h2 := by rw [ltP, aheadP_iff] at *; omega
  ntrans x y z h1 h2 := by rw [ltP, ← Bool.not_eq_true, aheadP_iff] at *; omega
theorem totP : ∀ x y : Pt, (ltOf cfP) x y = false → (ltOf cfP) y x = false → x = y := fun x y h1 h2 => by
  rw [ltP, ← Bool.not_eq_true, aheadP_iff] at h1 h2
  exact Prod.ext (by omega) (by omega)
def srt (l : List Pt) : List Pt := l.mergeSort fun x y => !(ltOf cfP) y x
theorem srt_len (l : List Pt) : (srt l).length = l.length := List.length_mergeSort l
theorem SortedFunc_ct (l : List Pt) (x : Option Addr × Nat) (g : Nat) (hl : l.length ≤ 1000000) :
    Ct Try.prog 88 #[vfP g, .func (.func 90) #[] #[]] (preP l x g) (fun z : Option Addr × Nat => psV (srt l) z) Tt (fun z => PS (srt l) z) := by
  refine Ct.start Try.func88 rfl rfl (slots_of rfl slots2) (fun D w0 => ?_)
  repeat (first | (with_reducible first | refine Pw.seq ?_ | refine Pw.region ?_ | refine Pw.nil ?_ | refine Pw.then_ ?_ | refine Pw.skip ?_ | refine Pw.block ?_ | refine Pw.exit ?_ | refine Pw.inX ?_ | refine Pw.inN ?_ | refine Pw.inR ?_ | refine Pw.thenX ?_ | refine Pw.thenR ?_ | refine Pw.ret ?_) | refine Pw.list (Pw.pure rfl rfl rfl ?_) | refine Pw.inY rfl ?_ | refine Pw.list (Pw.off rfl rfl ?_) | refine Pw.condT rfl ?_ | refine Pw.condF rfl ?_)
  refine Pw.list (Pw.callL (Collect_ct l x g hl) rfl rfl rfl (by kernel_rfl) rfl rfl (fun w h => fact0 h) ?_)
  intro q hq
  repeat (first | (with_reducible first | refine Pw.seq ?_ | refine Pw.region ?_ | refine Pw.nil ?_ | refine Pw.then_ ?_ | refine Pw.skip ?_ | refine Pw.block ?_ | refine Pw.exit ?_ | refine Pw.inX ?_ | refine Pw.inN ?_ | refine Pw.inR ?_ | refine Pw.thenX ?_ | refine Pw.thenR ?_ | refine Pw.ret ?_) | refine Pw.list (Pw.pure rfl rfl rfl ?_) | refine Pw.inY rfl ?_ | refine Pw.list (Pw.off rfl rfl ?_) | refine Pw.condT rfl ?_ | refine Pw.condF rfl ?_)
  refine Pw.list (Pw.sortK (α := Pt) (q := q) (l := l) (L0 := []) (e := 81) (pre := fun _ => True) Try.sortP 2 Try.isAgg81 Try.sizeOf81 encP (fun _ => rfl) (by omega) (fun x v hv => cellsP_one (l := [x]) v (by simpa [cellsP] using hv)) cfP swoP totP rfl (by kernel_rfl) (by kernel_rfl) rfl rfl rfl hq (fun x y => cfP_ct x y) (fun w h => trivial) (by omega) rfl rfl (fun hq' => ?_))
  repeat (first | (with_reducible first | refine Pw.seq ?_ | refine Pw.region ?_ | refine Pw.nil ?_ | refine Pw.then_ ?_ | refine Pw.skip ?_ | refine Pw.block ?_ | refine Pw.exit ?_ | refine Pw.inX ?_ | refine Pw.inN ?_ | refine Pw.inR ?_ | refine Pw.thenX ?_ | refine Pw.thenR ?_ | refine Pw.ret ?_) | refine Pw.list (Pw.pure rfl rfl rfl ?_) | refine Pw.inY rfl ?_ | refine Pw.list (Pw.off rfl rfl ?_) | refine Pw.condT rfl ?_ | refine Pw.condF rfl ?_)
  refine Pw.freeG hq' (fun A c e hc => ?_)
  rw [e]
  exact Pw.ret_ (x := (A, c)) (.tmp rfl .nil) (by show Value.slice A l.length c = Value.slice A (srt l).length c; rw [srt_len]) trivial (fun w h => rows_of_cells (fun _ _ => rfl) (fun _ _ => trivial) (by rw [srt_len]; exact hc) (by rw [srt_len]; simp only [maxLen]; omega) (by omega) (fact0 h))
theorem CloneP_ct (l : List Pt) (x : Option Addr × Nat) (hl : l.length ≤ 1000000) : Ct Try.prog 95 #[psV l x] (PS l x) (fun z : Option Addr × Nat => psV l z) Tt (fun z => PS l z) := by
  obtain ⟨A, c⟩ := x
  refine Ct.start Try.func95 rfl rfl (slots_of rfl slots1) (fun D w0 => ?_)
  obtain _ | ad := A
  · repeat (first | (with_reducible first | refine Pw.seq ?_ | refine Pw.region ?_ | refine Pw.nil ?_ | refine Pw.then_ ?_ | refine Pw.skip ?_ | refine Pw.block ?_ | refine Pw.exit ?_ | refine Pw.inX ?_ | refine Pw.inN ?_ | refine Pw.inR ?_ | refine Pw.thenX ?_ | refine Pw.thenR ?_ | refine Pw.ret ?_) | refine Pw.list (Pw.pure rfl rfl rfl ?_) | refine Pw.inY rfl ?_ | refine Pw.list (Pw.off rfl rfl ?_) | refine Pw.condT rfl ?_ | refine Pw.condF rfl ?_)
    refine Pw.use (p := l = []) (fun w h => ?_) (fun hm => ?_)
    · rcases l with _ | ⟨y, ys⟩
      · rfl
      · have := (fact0 h).has (i := 0) (by omega) (by simp only [List.length_cons]; omega); cases this
    · subst hm
      exact Pw.ret_ (x := (none, 0)) (.tmp rfl .nil) rfl trivial (fun w h => Rows.nil _ _ _ _ _)
  · repeat (first | (with_reducible first | refine Pw.seq ?_ | refine Pw.region ?_ | refine Pw.nil ?_ | refine Pw.then_ ?_ | refine Pw.skip ?_ | refine Pw.block ?_ | refine Pw.exit ?_ | refine Pw.inX ?_ | refine Pw.inN ?_ | refine Pw.inR ?_ | refine Pw.thenX ?_ | refine Pw.thenR ?_ | refine Pw.ret ?_) | refine Pw.list (Pw.pure rfl rfl rfl ?_) | refine Pw.inY rfl ?_ | refine Pw.list (Pw.off rfl rfl ?_) | refine Pw.condT rfl ?_ | refine Pw.condF rfl ?_)
    refine Pw.list (Pw.lit0 rfl rfl rfl rfl (fun g => ?_))
    repeat (first | (with_reducible first | refine Pw.seq ?_ | refine Pw.region ?_ | refine Pw.nil ?_ | refine Pw.then_ ?_ | refine Pw.skip ?_ | refine Pw.block ?_ | refine Pw.exit ?_ | refine Pw.inX ?_ | refine Pw.inN ?_ | refine Pw.inR ?_ | refine Pw.thenX ?_ | refine Pw.thenR ?_ | refine Pw.ret ?_) | refine Pw.list (Pw.pure rfl rfl rfl ?_) | refine Pw.inY rfl ?_ | refine Pw.list (Pw.off rfl rfl ?_) | refine Pw.condT rfl ?_ | refine Pw.condF rfl ?_)
    refine Pw.list (Pw.appendCopyK (news := cellsP l) rfl rfl rfl rfl rfl rfl (cellsP_len l) (fun w hs j u hu => ⟨ad, rfl, (fact0 hs.all).toCells (by omega) j u hu⟩) (by show 0 < 2; omega) (by simp only [maxLen]; omega) (by show l.length * 16 ≤ _; omega) (.head _) rfl rfl (fun g2 cap ex h1 h2 => freeHead (Pw.drop ?_)) (fun h0 => Pw.drop ?_))
    · repeat (first | (with_reducible first | refine Pw.seq ?_ | refine Pw.region ?_ | refine Pw.nil ?_ | refine Pw.then_ ?_ | refine Pw.skip ?_ | refine Pw.block ?_ | refine Pw.exit ?_ | refine Pw.inX ?_ | refine Pw.inN ?_ | refine Pw.inR ?_ | refine Pw.thenX ?_ | refine Pw.thenR ?_ | refine Pw.ret ?_) | refine Pw.list (Pw.pure rfl rfl rfl ?_) | refine Pw.inY rfl ?_ | refine Pw.list (Pw.off rfl rfl ?_) | refine Pw.condT rfl ?_ | refine Pw.condF rfl ?_)
      exact Pw.ret_ (x := (some ⟨g2, 0, none⟩, cap)) (.tmp rfl .nil) rfl trivial (fun w h => rows_of_row (fact0 h) (fun _ _ => rfl) (fun _ _ => trivial) h1 (by simp only [maxLen]; omega) (by omega))
    · have hnil : l = [] := List.eq_nil_of_length_eq_zero h0
      subst hnil
      repeat (first | (with_reducible first | refine Pw.seq ?_ | refine Pw.region ?_ | refine Pw.nil ?_ | refine Pw.then_ ?_ | refine Pw.skip ?_ | refine Pw.block ?_ | refine Pw.exit ?_ | refine Pw.inX ?_ | refine Pw.inN ?_ | refine Pw.inR ?_ | refine Pw.thenX ?_ | refine Pw.thenR ?_ | refine Pw.ret ?_) | refine Pw.list (Pw.pure rfl rfl rfl ?_) | refine Pw.inY rfl ?_ | refine Pw.list (Pw.off rfl rfl ?_) | refine Pw.condT rfl ?_ | refine Pw.condF rfl ?_)
      exact Pw.ret_ (x := (some ⟨g, 0, none⟩, 0)) (.tmp rfl .nil) rfl trivial (fun w h => Rows.nil _ _ _ _ _)
/-! ### Chunks -/
def nCh (k n : Nat) : Nat := (n + k - 1) / k
theorem nCh_lt {k n i : Nat} (hk : 0 < k) : i < nCh k n ↔ i * k < n := by
  unfold nCh
  rw [show (i < (n + k - 1) / k) ↔ i + 1 ≤ (n + k - 1) / k from Iff.rfl, Nat.le_div_iff_mul_le hk, Nat.add_mul, Nat.one_mul]
  omega
def chunkAt (k : Nat) (l : List Pt) (i : Nat) : List Pt := (l.drop (i * k)).take k
abbrev fcP (g1 g2 : Nat) : Value := .func (.func 119) #[] #[.pointer (some ⟨g1, 0, none⟩), .pointer (some ⟨g2, 0, none⟩)]
abbrev preC (l : List Pt) (x : Option Addr × Nat) (k : Int) (g1 g2 : Nat) (W : World) : Prop := W.heap[g1]? = some (row [psV l x] 71) ∧ W.heap[g2]? = some (row [.int .i64 k] 3) ∧ PS l x W
theorem Chunk_ct (l : List Pt) (x : Option Addr × Nat) (k : Int) (hk : 1 ≤ k) : Ct Try.prog 94 #[psV l x, .int .i64 k] (PS l x) (fun g : Nat × Nat => fcP g.1 g.2) Tt (fun g => preC l x k g.1 g.2) := by
  refine Ct.start Try.func94 rfl rfl (slots_of rfl slots2) (fun D w0 => ?_)
  repeat (first | (with_reducible first | refine Pw.seq ?_ | refine Pw.region ?_ | refine Pw.nil ?_ | refine Pw.then_ ?_ | refine Pw.skip ?_ | refine Pw.block ?_ | refine Pw.exit ?_ | refine Pw.inX ?_ | refine Pw.inN ?_ | refine Pw.inR ?_ | refine Pw.thenX ?_ | refine Pw.thenR ?_ | refine Pw.ret ?_) | refine Pw.list (Pw.pure rfl rfl rfl ?_) | refine Pw.inY rfl ?_ | refine Pw.list (Pw.off rfl rfl ?_) | refine Pw.condT rfl ?_ | refine Pw.condF rfl ?_)
  refine Pw.list (Pw.box rfl rfl rfl rfl (fun g1 => freeHead ?_))
  refine Pw.list (Pw.box rfl rfl rfl rfl (fun g2 => freeHead ?_))
  repeat (first | (with_reducible first | refine Pw.seq ?_ | refine Pw.region ?_ | refine Pw.nil ?_ | refine Pw.then_ ?_ | refine Pw.skip ?_ | refine Pw.block ?_ | refine Pw.exit ?_ | refine Pw.inX ?_ | refine Pw.inN ?_ | refine Pw.inR ?_ | refine Pw.thenX ?_ | refine Pw.thenR ?_ | refine Pw.ret ?_) | refine Pw.list (Pw.pure rfl rfl rfl ?_) | refine Pw.inY rfl ?_ | refine Pw.list (Pw.off rfl rfl ?_) | refine Pw.condT rfl ?_ | refine Pw.condF rfl ?_ | refine Pw.list (Pw.box rfl rfl rfl rfl (fun _ => ?_)) | refine Pw.list (Pw.alloc rfl rfl rfl rfl rfl (fun _ => ?_)) | refine Pw.list (Pw.build rfl rfl rfl rfl ?_) | refine Pw.list (Pw.ld rfl inferInstance rfl rfl rfl ?_) | refine Pw.list (Pw.sto rfl rfl inferInstance rfl rfl rfl rfl rfl inferInstance rfl ?_))
  refine Pw.condD rfl (fun c1 => absurd c1 (by omega)) (fun c1 => ?_)
  repeat (first | (with_reducible first | refine Pw.seq ?_ | refine Pw.region ?_ | refine Pw.nil ?_ | refine Pw.then_ ?_ | refine Pw.skip ?_ | refine Pw.block ?_ | refine Pw.exit ?_ | refine Pw.inX ?_ | refine Pw.inN ?_ | refine Pw.inR ?_ | refine Pw.thenX ?_ | refine Pw.thenR ?_ | refine Pw.ret ?_) | refine Pw.list (Pw.pure rfl rfl rfl ?_) | refine Pw.inY rfl ?_ | refine Pw.list (Pw.off rfl rfl ?_) | refine Pw.condT rfl ?_ | refine Pw.condF rfl ?_ | refine Pw.list (Pw.box rfl rfl rfl rfl (fun _ => ?_)) | refine Pw.list (Pw.alloc rfl rfl rfl rfl rfl (fun _ => ?_)) | refine Pw.list (Pw.build rfl rfl rfl rfl ?_) | refine Pw.list (Pw.ld rfl inferInstance rfl rfl rfl ?_) | refine Pw.list (Pw.sto rfl rfl inferInstance rfl rfl rfl rfl rfl inferInstance rfl ?_))
  exact Pw.ret_ (x := (g1, g2)) (.tmp rfl .nil) rfl trivial (fun w h => ⟨fact1 h, fact0 h, fact2 h⟩)
def endC (k n i : Nat) : Nat := i * k + min k (n - i * k)
theorem endC_len {k : Nat} {l : List Pt} {i : Nat} : (chunkAt k l i).length = endC k l.length i - i * k := by
  unfold chunkAt endC; rw [List.length_take, List.length_drop]; omega
def chunkV (k : Nat) (l : List Pt) (A : Option Addr) (i : Nat) : Value := .slice (cutA A (i * k) (endC k l.length i) 2) (chunkAt k l i).length (chunkAt k l i).length
theorem chunk_PS {l : List Pt} {A : Option Addr} {c k i : Nat} {W : World} (h : PS l (A, c) W) (hk : 0 < k) (hi : i < nCh k l.length) : PS (chunkAt k l i) (cutA A (i * k) (endC k l.length i) 2, (chunkAt k l i).length) W := by
  have h1 := h.cut3 (i * k) (endC k l.length i)
  have hlt := (nCh_lt hk).1 hi
  have e : (l.drop (i * k)).take (endC k l.length i - i * k) = chunkAt k l i := by
    unfold chunkAt endC
    rw [show i * k + min k (l.length - i * k) - i * k = min k (l.length - i * k) by omega]
    rw [← List.length_drop, ← List.take_take, List.take_of_length_le (Nat.le_refl _)]
  rw [e] at h1
  exact h1.cap (Nat.le_refl _)
theorem Chunk_it (l : List Pt) (A : Option Addr) (c k : Nat) (g1 g2 : Nat) (hk : 0 < k) (hl : l.length ≤ 1000000) (hs : l = [] ∨ k ≤ 1000000) (hk63 : k ≤ 9223372036854775807) : Iter Try.prog 119 #[.pointer (some ⟨g1, 0, none⟩), .pointer (some ⟨g2, 0, none⟩)] (nCh k l.length) (chunkV k l A) (preC l (A, c) k g1 g2) := by
  refine Iter.start (n := 3 + (Try.f119.ntmps - 3)) Try.func119 rfl (fun r => [(0, .func (.yield r) #[] #[]), (1, .pointer (some ⟨g1, 0, none⟩)), (2, .pointer (some ⟨g2, 0, none⟩))]) (fun r => rfl) (fun r => slots_of rfl slots3) (fun r J hY hst hpre w0 h0 => ?_)
  repeat (first | (with_reducible first | refine Pw.seq ?_ | refine Pw.region ?_ | refine Pw.nil ?_ | refine Pw.then_ ?_ | refine Pw.skip ?_ | refine Pw.block ?_ | refine Pw.exit ?_ | refine Pw.inX ?_ | refine Pw.inN ?_ | refine Pw.inR ?_ | refine Pw.thenX ?_ | refine Pw.thenR ?_ | refine Pw.ret ?_) | refine Pw.list (Pw.pure rfl rfl rfl ?_) | refine Pw.inY rfl ?_ | refine Pw.list (Pw.off rfl rfl ?_) | refine Pw.condT rfl ?_ | refine Pw.condF rfl ?_ | refine Pw.list (Pw.box rfl rfl rfl rfl (fun _ => ?_)) | refine Pw.list (Pw.alloc rfl rfl rfl rfl rfl (fun _ => ?_)) | refine Pw.list (Pw.build rfl rfl rfl rfl ?_) | refine Pw.list (Pw.ld rfl inferInstance rfl rfl rfl ?_) | refine Pw.list (Pw.sto rfl rfl inferInstance rfl rfl rfl rfl rfl inferInstance rfl ?_))
  refine Pw.loopY (NN := nCh k l.length) hst hpre (fun i => [(0, .func (.yield r) #[] #[]), (1, .pointer (some ⟨g1, 0, none⟩)), (2, .pointer (some ⟨g2, 0, none⟩)), (4, .int .i64 ((i * k : Nat) : Int))]) h0 ⟨rfl, rfl, rfl, by simp; rfl, trivial⟩ ?_
  intro i w1 hi hJ
  refine Pw.facts (G' := [fun W => W.heap[g1]? = some (row [.slice A l.length c] 71), fun W => W.heap[g2]? = some (row [.int .i64 k] 3), PS l (A, c)]) (fun w h => allCons (fact0 h).1 (allCons (fact0 h).2.1 (allCons (fact0 h).2.2 allNil))) ?_
  refine Pw.use (p := l.length ≤ c) (fun w h => (fact2 h).le) (fun hlc => ?_)
  repeat (first | (with_reducible first | refine Pw.seq ?_ | refine Pw.region ?_ | refine Pw.nil ?_ | refine Pw.then_ ?_ | refine Pw.skip ?_ | refine Pw.block ?_ | refine Pw.exit ?_ | refine Pw.inX ?_ | refine Pw.inN ?_ | refine Pw.inR ?_ | refine Pw.thenX ?_ | refine Pw.thenR ?_ | refine Pw.ret ?_) | refine Pw.list (Pw.pure rfl rfl rfl ?_) | refine Pw.inY rfl ?_ | refine Pw.list (Pw.off rfl rfl ?_) | refine Pw.condT rfl ?_ | refine Pw.condF rfl ?_ | refine Pw.list (Pw.box rfl rfl rfl rfl (fun _ => ?_)) | refine Pw.list (Pw.alloc rfl rfl rfl rfl rfl (fun _ => ?_)) | refine Pw.list (Pw.build rfl rfl rfl rfl ?_) | refine Pw.list (Pw.ld rfl inferInstance rfl rfl rfl ?_) | refine Pw.list (Pw.sto rfl rfl inferInstance rfl rfl rfl rfl rfl inferInstance rfl ?_))
  refine Pw.condD rfl (fun c3 => ?_) (fun c3 => ?_)
  · have hlt : i * k < l.length := by omega
    have hiN : i < nCh k l.length := (nCh_lt hk).2 hlt
    have hkb : k ≤ 1000000 := by
      rcases hs with rfl | h
      · simp at hlt
      · exact h
    have hEnd : endC k l.length i = i * k + min k (l.length - i * k) := rfl
    refine Pw.skip (Pw.then_ (Pw.seq (Pw.block (Pw.seq ?_))))
    refine Pw.drawnG mixed rfl rfl ?_
    refine Pw.takeF 0 (nb 7 1) rfl rfl inferInstance rfl rfl rfl (by kernel_rfl) np sf ?_
    refine Pw.takeF 1 (nb 7 3) rfl rfl inferInstance rfl rfl rfl (by kernel_rfl) np sf ?_
    refine Pw.takeP 2 (nb 7 7) rfl rfl rfl rfl (by kernel_rfl) np sf ?_
    refine Pw.takeCutA 3 (nb 7 15) rfl rfl rfl rfl rfl (by first | assumption | omega) (by first | assumption | omega) (by first | assumption | omega) rfl rfl (by kernel_rfl) np sf ?_
    refine Pw.takeP 4 (nb 7 31) rfl rfl rfl rfl (by kernel_rfl) np sf ?_
    refine Pw.takeMin 5 (nb 7 63) rfl rfl rfl rfl rfl (by kernel_rfl) np sf ?_
    refine Pw.takeP 6 (nb 7 127) rfl rfl rfl rfl (by kernel_rfl) np sf ?_
    refine Pw.done (by kernel_rfl) ?_
    have e5 : (if ((l.length - (((i * k : Nat) : Int)).toNat : Nat) : Int) < (k : Int) then ((l.length - (((i * k : Nat) : Int)).toNat : Nat) : Int) else (k : Int)) = ((min k (l.length - i * k) : Nat) : Int) := by
      rw [Int.toNat_natCast]; split <;> omega
    refine Pw.re (d := 5) (v' := .int .i64 ((min k (l.length - i * k) : Nat) : Int)) rfl (congrArg (Value.int .i64) e5) ?_
    refine Pw.then_ (Pw.seq (Pw.regionY ?_))
    refine Pw.listI rfl (Pw.pure rfl rfl rfl ?_)
    refine Pw.listI rfl (Pw.ld rfl inferInstance rfl rfl rfl ?_)
    refine Pw.listI rfl (Pw.pure rfl rfl rfl (Pw.listI rfl (Pw.pure rfl rfl rfl (Pw.listI rfl (Pw.pure rfl rfl rfl (Pw.listI rfl (Pw.pure rfl rfl rfl (Pw.listI rfl (Pw.pure rfl rfl rfl (Pw.listI rfl (Pw.pure rfl rfl rfl (Pw.listI rfl (Pw.pure rfl rfl rfl ?_)))))))))))))
    have ew : wrap64 (((i * k : Nat) : Int) + ((min k (l.length - i * k) : Nat) : Int)) = ((endC k l.length i : Nat) : Int) := by rw [wi64 (by omega) (by omega)]; omega
    refine Pw.re (d := 24) (v' := .int .i64 ((endC k l.length i : Nat) : Int)) rfl (congrArg (Value.int .i64) ew) ?_
    refine Pw.re (d := 27) (v' := .int .i64 ((endC k l.length i : Nat) : Int)) rfl (congrArg (Value.int .i64) ew) ?_
    refine Pw.listI rfl (Pw.cut3 rfl rfl rfl rfl rfl rfl (by omega) (by omega) (by omega) rfl rfl ?_)
    refine Pw.re (d := 28) (v' := chunkV k l A i) rfl (by unfold chunkV; rw [endC_len, Int.toNat_natCast, Int.toNat_natCast]; rfl) ?_
    refine Pw.yield hY hst hpre hiN hJ rfl rfl rfl rfl ?_
    intro w3 hJ3
    refine Pw.listI rfl (Pw.pure rfl rfl rfl ?_)
    refine Pw.nilI ?_
    refine Pw.facts (G' := [fun W => W.heap[g1]? = some (row [.slice A l.length c] 71), fun W => W.heap[g2]? = some (row [.int .i64 k] 3), PS l (A, c)]) (fun w h => allCons (fact0 h).1 (allCons (fact0 h).2.1 (allCons (fact0 h).2.2 allNil))) ?_
    repeat (first | (with_reducible first | refine Pw.seq ?_ | refine Pw.region ?_ | refine Pw.nil ?_ | refine Pw.then_ ?_ | refine Pw.skip ?_ | refine Pw.block ?_ | refine Pw.exit ?_ | refine Pw.inX ?_ | refine Pw.inN ?_ | refine Pw.inR ?_ | refine Pw.thenX ?_ | refine Pw.thenR ?_ | refine Pw.ret ?_) | refine Pw.list (Pw.pure rfl rfl rfl ?_) | refine Pw.inY rfl ?_ | refine Pw.list (Pw.off rfl rfl ?_) | refine Pw.condT rfl ?_ | refine Pw.condF rfl ?_ | refine Pw.list (Pw.box rfl rfl rfl rfl (fun _ => ?_)) | refine Pw.list (Pw.alloc rfl rfl rfl rfl rfl (fun _ => ?_)) | refine Pw.list (Pw.build rfl rfl rfl rfl ?_) | refine Pw.list (Pw.ld rfl inferInstance rfl rfl rfl ?_) | refine Pw.list (Pw.sto rfl rfl inferInstance rfl rfl rfl rfl rfl inferInstance rfl ?_))
    refine Pw.re (d := 4) (v' := .int .i64 (((i + 1) * k : Nat) : Int)) rfl (congrArg (Value.int .i64) (by rw [Nat.add_mul, Nat.one_mul]; rw [wi64 (by omega) (by omega)]; omega)) ?_
    exact Pw.againY hst (i + 1) (by omega) (by omega) hJ3 ⟨rfl, rfl, rfl, rfl, trivial⟩
  · repeat (first | (with_reducible first | refine Pw.seq ?_ | refine Pw.region ?_ | refine Pw.nil ?_ | refine Pw.then_ ?_ | refine Pw.skip ?_ | refine Pw.block ?_ | refine Pw.exit ?_ | refine Pw.inX ?_ | refine Pw.inN ?_ | refine Pw.inR ?_ | refine Pw.thenX ?_ | refine Pw.thenR ?_ | refine Pw.ret ?_) | refine Pw.list (Pw.pure rfl rfl rfl ?_) | refine Pw.inY rfl ?_ | refine Pw.list (Pw.off rfl rfl ?_) | refine Pw.condT rfl ?_ | refine Pw.condF rfl ?_)
    obtain rfl : i = nCh k l.length := by
      rcases Nat.lt_or_ge i (nCh k l.length) with h | h
      · have := (nCh_lt hk).1 h; omega
      · omega
    exact Pw.retY hst hJ .nil
end Go.Proofs.Wk
/- Exposures: pages.Pages walked. -/
namespace Go.Proofs.Wk
open Go.RowKit Go.Sort
set_option maxRecDepth 100000
set_option maxHeartbeats 2000000
attribute [local irreducible] Pw OpG
set_option linter.unusedVariables false
set_option linter.unusedSimpArgs false
def chunks (k : Nat) (l : List Pt) : List (List Pt) := (List.range (nCh k l.length)).map (chunkAt k l)
theorem chunks_len {k : Nat} {l : List Pt} : (chunks k l).length = nCh k l.length := by unfold chunks; rw [List.length_map, List.length_range]
theorem nCh_le {k n : Nat} (hk : 0 < k) : nCh k n ≤ n := by
  rcases Nat.lt_or_ge n (nCh k n) with h | h
  · have h1 := (nCh_lt hk).1 h
    have h2 : n ≤ n * k := Nat.le_mul_of_pos_right n hk
    omega
  · exact h
def pagesS (x : Ex) (k : Nat) : List (List Pt) := ((x.id, x.own) :: (srt x.oth).take k) :: chunks k ((srt x.oth).drop k)
def pagesR (x : Ex) (size : Int) : List (List Pt) × Int := if size < 1 ∨ formX x = false then ([], 1) else if (totX x).2 ≠ 0 then ([], (totX x).2) else (pagesS x size.toNat, 0)
abbrev Pg := List Pt × (Option Addr × Nat)
abbrev pgV (p : Pg) : Value := psV p.1 p.2
def encPg (p : Pg) : List Value := [pgV p]
def heldPg (p : Pg) : World → Prop := PS p.1 p.2
abbrev PGS (l : List Pg) (x : Option Addr × Nat) : World → Prop := Rows (RR encPg heldPg) 1 l x.1 x.2
def cellsPg (l : List Pg) : List Value := l.flatMap encPg
theorem cellsPg_len (l : List Pg) : (cellsPg l).length = l.length * 1 := by
  induction l with
  | nil => rfl
  | cons p r ih => unfold cellsPg at *; rw [List.flatMap_cons, List.length_append, ih]; simp [encPg]; omega
abbrev HeldAll (l : List Pg) (W : World) : Prop := ∀ p ∈ l, PS p.1 p.2 W
theorem sumM_err {l : List Int} : (sumM l).2 = 0 ∨ (sumM l).2 = 3 := by unfold sumM; split <;> simp
theorem enters_chunk : ∀ args w, (callFunc 119 args).run Try.prog w = .ok (.enter 119 args) w := enters_callB (by kernel_rfl)
section
variable {α : Type} {a b c : α}
theorem perm3a : [a, b, c].Perm [a, b, c] := .refl _
theorem perm3b : [b, a, c].Perm [a, b, c] := .swap ..
theorem perm3c : [a, c, b].Perm [a, b, c] := .cons _ (.swap ..)
theorem perm3d : [b, c, a].Perm [a, b, c] := (List.Perm.cons b (.swap a c [])).trans (.swap ..)
theorem perm3e : [c, a, b].Perm [a, b, c] := (List.Perm.swap a c [b]).trans (.cons _ (.swap ..))
theorem perm3f : [c, b, a].Perm [a, b, c] := (List.Perm.swap b c [a]).trans perm3d
end
theorem pPages_ct (x : Ex) (hx : ExW x) (hl : x.oth.length ≤ 1000) (size : Int) (hs : size ≤ 9223372036854775807) :
    Ct Try.prog 49 #[exV x, .int .i64 size] (exF x) (fun r : List Pg × (Option Addr × Nat) => .tuple #[.slice r.2.1 (pagesR x size).1.length r.2.2, .int .i64 (pagesR x size).2]) (fun r => r.1.map Prod.fst = (pagesR x size).1) (fun r => PGS r.1 r.2) := by
  refine Ct.startM Try.func49 rfl rfl (slots_of rfl slots2) (fun D w0 => ?_)
  repeat (first | (with_reducible first | refine Pw.seq ?_ | refine Pw.region ?_ | refine Pw.nil ?_ | refine Pw.then_ ?_ | refine Pw.skip ?_ | refine Pw.block ?_ | refine Pw.exit ?_ | refine Pw.inX ?_ | refine Pw.inN ?_ | refine Pw.inR ?_ | refine Pw.thenX ?_ | refine Pw.thenR ?_ | refine Pw.ret ?_) | refine Pw.list (Pw.pure rfl rfl rfl ?_) | refine Pw.inY rfl ?_ | refine Pw.list (Pw.off rfl rfl ?_) | refine Pw.condT rfl ?_ | refine Pw.condF rfl ?_)
  refine Pw.list (Pw.box rfl rfl rfl rfl (fun g2 => freeHead ?_))
  repeat (first | (with_reducible first | refine Pw.seq ?_ | refine Pw.region ?_ | refine Pw.nil ?_ | refine Pw.then_ ?_ | refine Pw.skip ?_ | refine Pw.block ?_ | refine Pw.exit ?_ | refine Pw.inX ?_ | refine Pw.inN ?_ | refine Pw.inR ?_ | refine Pw.thenX ?_ | refine Pw.thenR ?_ | refine Pw.ret ?_) | refine Pw.list (Pw.pure rfl rfl rfl ?_) | refine Pw.inY rfl ?_ | refine Pw.list (Pw.off rfl rfl ?_) | refine Pw.condT rfl ?_ | refine Pw.condF rfl ?_ | refine Pw.list (Pw.box rfl rfl rfl rfl (fun _ => ?_)) | refine Pw.list (Pw.alloc rfl rfl rfl rfl rfl (fun _ => ?_)) | refine Pw.list (Pw.build rfl rfl rfl rfl ?_) | refine Pw.list (Pw.ld rfl inferInstance rfl rfl rfl ?_) | refine Pw.list (Pw.sto rfl rfl inferInstance rfl rfl rfl rfl rfl inferInstance rfl ?_))
  refine Pw.split 14 rfl (fun c1 => ?_) (fun c1 => ?_)
  · have e : pagesR x size = ([], 1) := if_pos (.inl c1)
    repeat (first | (with_reducible first | refine Pw.seq ?_ | refine Pw.region ?_ | refine Pw.nil ?_ | refine Pw.then_ ?_ | refine Pw.skip ?_ | refine Pw.block ?_ | refine Pw.exit ?_ | refine Pw.inX ?_ | refine Pw.inN ?_ | refine Pw.inR ?_ | refine Pw.thenX ?_ | refine Pw.thenR ?_ | refine Pw.ret ?_) | refine Pw.list (Pw.pure rfl rfl rfl ?_) | refine Pw.inY rfl ?_ | refine Pw.list (Pw.off rfl rfl ?_) | refine Pw.condT rfl ?_ | refine Pw.condF rfl ?_ | refine Pw.list (Pw.box rfl rfl rfl rfl (fun _ => ?_)) | refine Pw.list (Pw.alloc rfl rfl rfl rfl rfl (fun _ => ?_)) | refine Pw.list (Pw.build rfl rfl rfl rfl ?_) | refine Pw.list (Pw.ld rfl inferInstance rfl rfl rfl ?_) | refine Pw.list (Pw.sto rfl rfl inferInstance rfl rfl rfl rfl rfl inferInstance rfl ?_))
    exact Pw.retMo (x := ([], (none, 0))) (.tmp rfl (.tmp rfl .nil)) (by rw [e]; rfl) (by rw [e]; rfl) (fun w h => Rows.nil _ _ _ _ _)
  repeat (first | (with_reducible first | refine Pw.seq ?_ | refine Pw.region ?_ | refine Pw.nil ?_ | refine Pw.then_ ?_ | refine Pw.skip ?_ | refine Pw.block ?_ | refine Pw.exit ?_ | refine Pw.inX ?_ | refine Pw.inN ?_ | refine Pw.inR ?_ | refine Pw.thenX ?_ | refine Pw.thenR ?_ | refine Pw.ret ?_) | refine Pw.list (Pw.pure rfl rfl rfl ?_) | refine Pw.inY rfl ?_ | refine Pw.list (Pw.off rfl rfl ?_) | refine Pw.condT rfl ?_ | refine Pw.condF rfl ?_ | refine Pw.list (Pw.box rfl rfl rfl rfl (fun _ => ?_)) | refine Pw.list (Pw.alloc rfl rfl rfl rfl rfl (fun _ => ?_)) | refine Pw.list (Pw.build rfl rfl rfl rfl ?_) | refine Pw.list (Pw.ld rfl inferInstance rfl rfl rfl ?_) | refine Pw.list (Pw.sto rfl rfl inferInstance rfl rfl rfl rfl rfl inferInstance rfl ?_))
  refine Pw.list (Pw.call (pFormed_ct x) rfl rfl rfl (by kernel_rfl) rfl rfl (fun w h => (hv w h)) ?_)
  intro _ _
  cases hF : formX x
  · have e : pagesR x size = ([], 1) := if_pos (.inr hF)
    repeat (first | (with_reducible first | refine Pw.seq ?_ | refine Pw.region ?_ | refine Pw.nil ?_ | refine Pw.then_ ?_ | refine Pw.skip ?_ | refine Pw.block ?_ | refine Pw.exit ?_ | refine Pw.inX ?_ | refine Pw.inN ?_ | refine Pw.inR ?_ | refine Pw.thenX ?_ | refine Pw.thenR ?_ | refine Pw.ret ?_) | refine Pw.list (Pw.pure rfl rfl rfl ?_) | refine Pw.inY rfl ?_ | refine Pw.list (Pw.off rfl rfl ?_) | refine Pw.condT rfl ?_ | refine Pw.condF rfl ?_ | refine Pw.list (Pw.box rfl rfl rfl rfl (fun _ => ?_)) | refine Pw.list (Pw.alloc rfl rfl rfl rfl rfl (fun _ => ?_)) | refine Pw.list (Pw.build rfl rfl rfl rfl ?_) | refine Pw.list (Pw.ld rfl inferInstance rfl rfl rfl ?_) | refine Pw.list (Pw.sto rfl rfl inferInstance rfl rfl rfl rfl rfl inferInstance rfl ?_))
    exact Pw.retMo (x := ([], (none, 0))) (.tmp rfl (.tmp rfl .nil)) (by rw [e]; rfl) (by rw [e]; rfl) (fun w h => Rows.nil _ _ _ _ _)
  repeat (first | (with_reducible first | refine Pw.seq ?_ | refine Pw.region ?_ | refine Pw.nil ?_ | refine Pw.then_ ?_ | refine Pw.skip ?_ | refine Pw.block ?_ | refine Pw.exit ?_ | refine Pw.inX ?_ | refine Pw.inN ?_ | refine Pw.inR ?_ | refine Pw.thenX ?_ | refine Pw.thenR ?_ | refine Pw.ret ?_) | refine Pw.list (Pw.pure rfl rfl rfl ?_) | refine Pw.inY rfl ?_ | refine Pw.list (Pw.off rfl rfl ?_) | refine Pw.condT rfl ?_ | refine Pw.condF rfl ?_ | refine Pw.list (Pw.box rfl rfl rfl rfl (fun _ => ?_)) | refine Pw.list (Pw.alloc rfl rfl rfl rfl rfl (fun _ => ?_)) | refine Pw.list (Pw.build rfl rfl rfl rfl ?_) | refine Pw.list (Pw.ld rfl inferInstance rfl rfl rfl ?_) | refine Pw.list (Pw.sto rfl rfl inferInstance rfl rfl rfl rfl rfl inferInstance rfl ?_))
  refine Pw.list (Pw.call (pTotal_ct x hx (by omega)) rfl rfl rfl (by kernel_rfl) rfl rfl (fun w h => (hv w h)) ?_)
  intro _ _
  repeat (first | (with_reducible first | refine Pw.seq ?_ | refine Pw.region ?_ | refine Pw.nil ?_ | refine Pw.then_ ?_ | refine Pw.skip ?_ | refine Pw.block ?_ | refine Pw.exit ?_ | refine Pw.inX ?_ | refine Pw.inN ?_ | refine Pw.inR ?_ | refine Pw.thenX ?_ | refine Pw.thenR ?_ | refine Pw.ret ?_) | refine Pw.list (Pw.pure rfl rfl rfl ?_) | refine Pw.inY rfl ?_ | refine Pw.list (Pw.off rfl rfl ?_) | refine Pw.condT rfl ?_ | refine Pw.condF rfl ?_ | refine Pw.list (Pw.box rfl rfl rfl rfl (fun _ => ?_)) | refine Pw.list (Pw.alloc rfl rfl rfl rfl rfl (fun _ => ?_)) | refine Pw.list (Pw.build rfl rfl rfl rfl ?_) | refine Pw.list (Pw.ld rfl inferInstance rfl rfl rfl ?_) | refine Pw.list (Pw.sto rfl rfl inferInstance rfl rfl rfl rfl rfl inferInstance rfl ?_))
  refine Pw.condD rfl (fun c2 => ?_) (fun c2 => ?_)
  · have e : pagesR x size = ([], (totX x).2) := by unfold pagesR; rw [if_neg (by rw [hF]; simp; omega), if_pos c2]
    repeat (first | (with_reducible first | refine Pw.seq ?_ | refine Pw.region ?_ | refine Pw.nil ?_ | refine Pw.then_ ?_ | refine Pw.skip ?_ | refine Pw.block ?_ | refine Pw.exit ?_ | refine Pw.inX ?_ | refine Pw.inN ?_ | refine Pw.inR ?_ | refine Pw.thenX ?_ | refine Pw.thenR ?_ | refine Pw.ret ?_) | refine Pw.list (Pw.pure rfl rfl rfl ?_) | refine Pw.inY rfl ?_ | refine Pw.list (Pw.off rfl rfl ?_) | refine Pw.condT rfl ?_ | refine Pw.condF rfl ?_ | refine Pw.list (Pw.box rfl rfl rfl rfl (fun _ => ?_)) | refine Pw.list (Pw.alloc rfl rfl rfl rfl rfl (fun _ => ?_)) | refine Pw.list (Pw.build rfl rfl rfl rfl ?_) | refine Pw.list (Pw.ld rfl inferInstance rfl rfl rfl ?_) | refine Pw.list (Pw.sto rfl rfl inferInstance rfl rfl rfl rfl rfl inferInstance rfl ?_))
    exact Pw.retMo (x := ([], (none, 0))) (.tmp rfl (.tmp rfl .nil)) (by rw [e]; rfl) (by rw [e]; rfl) (fun w h => Rows.nil _ _ _ _ _)
  have eR : pagesR x size = (pagesS x size.toNat, 0) := by unfold pagesR; rw [if_neg (by rw [hF]; simp; omega), if_neg c2]
  rw [eR]
  obtain ⟨k, rfl⟩ : ∃ k : Nat, size = k := ⟨size.toNat, by omega⟩
  rw [Int.toNat_natCast]
  have hk : 1 ≤ k := by omega
  clear eR c1 c2
  repeat (first | (with_reducible first | refine Pw.seq ?_ | refine Pw.region ?_ | refine Pw.nil ?_ | refine Pw.then_ ?_ | refine Pw.skip ?_ | refine Pw.block ?_ | refine Pw.exit ?_ | refine Pw.inX ?_ | refine Pw.inN ?_ | refine Pw.inR ?_ | refine Pw.thenX ?_ | refine Pw.thenR ?_ | refine Pw.ret ?_) | refine Pw.list (Pw.pure rfl rfl rfl ?_) | refine Pw.inY rfl ?_ | refine Pw.list (Pw.off rfl rfl ?_) | refine Pw.condT rfl ?_ | refine Pw.condF rfl ?_ | refine Pw.list (Pw.box rfl rfl rfl rfl (fun _ => ?_)) | refine Pw.list (Pw.alloc rfl rfl rfl rfl rfl (fun _ => ?_)) | refine Pw.list (Pw.build rfl rfl rfl rfl ?_) | refine Pw.list (Pw.ld rfl inferInstance rfl rfl rfl ?_) | refine Pw.list (Pw.sto rfl rfl inferInstance rfl rfl rfl rfl rfl inferInstance rfl ?_))
  refine Pw.list (Pw.call (Values_ct x.oth x.z) rfl rfl rfl (by kernel_rfl) rfl rfl (fun w h => trivial) ?_)
  intro gv1 _
  repeat (first | (with_reducible first | refine Pw.seq ?_ | refine Pw.region ?_ | refine Pw.nil ?_ | refine Pw.then_ ?_ | refine Pw.skip ?_ | refine Pw.block ?_ | refine Pw.exit ?_ | refine Pw.inX ?_ | refine Pw.inN ?_ | refine Pw.inR ?_ | refine Pw.thenX ?_ | refine Pw.thenR ?_ | refine Pw.ret ?_) | refine Pw.list (Pw.pure rfl rfl rfl ?_) | refine Pw.inY rfl ?_ | refine Pw.list (Pw.off rfl rfl ?_) | refine Pw.condT rfl ?_ | refine Pw.condF rfl ?_ | refine Pw.list (Pw.box rfl rfl rfl rfl (fun _ => ?_)) | refine Pw.list (Pw.alloc rfl rfl rfl rfl rfl (fun _ => ?_)) | refine Pw.list (Pw.build rfl rfl rfl rfl ?_) | refine Pw.list (Pw.ld rfl inferInstance rfl rfl rfl ?_) | refine Pw.list (Pw.sto rfl rfl inferInstance rfl rfl rfl rfl rfl inferInstance rfl ?_))
  refine Pw.list (Pw.call (SortedFunc_ct x.oth x.z gv1 (by omega)) rfl rfl rfl (by kernel_rfl) rfl rfl (fun w h => ⟨(by first | exact fact0 (h) | exact fact0 (allTail (h)) | exact fact0 (allTail (allTail (h))) | exact fact0 (allTail (allTail (allTail (h)))) | exact fact0 (allTail (allTail (allTail (allTail (h))))) | exact fact0 (allTail (allTail (allTail (allTail (allTail (h)))))) | exact fact0 (allTail (allTail (allTail (allTail (allTail (allTail (h))))))) | exact fact0 (allTail (allTail (allTail (allTail (allTail (allTail (allTail (h)))))))) | exact fact0 (allTail (allTail (allTail (allTail (allTail (allTail (allTail (allTail (h))))))))) | exact fact0 (allTail (allTail (allTail (allTail (allTail (allTail (allTail (allTail (allTail (h))))))))))), (hv w h)⟩) ?_)
  intro zs _
  obtain ⟨A, c⟩ := zs
  have hsl := srt_len x.oth
  obtain ⟨l, hl0⟩ : ∃ l, srt x.oth = l := ⟨_, rfl⟩
  rw [hl0] at hsl ⊢
  have hS : pagesS x k = ((x.id, x.own) :: l.take k) :: chunks k (l.drop k) := by unfold pagesS; rw [hl0]
  rw [hS]
  repeat (first | (with_reducible first | refine Pw.seq ?_ | refine Pw.region ?_ | refine Pw.nil ?_ | refine Pw.then_ ?_ | refine Pw.skip ?_ | refine Pw.block ?_ | refine Pw.exit ?_ | refine Pw.inX ?_ | refine Pw.inN ?_ | refine Pw.inR ?_ | refine Pw.thenX ?_ | refine Pw.thenR ?_ | refine Pw.ret ?_) | refine Pw.list (Pw.pure rfl rfl rfl ?_) | refine Pw.inY rfl ?_ | refine Pw.list (Pw.off rfl rfl ?_) | refine Pw.condT rfl ?_ | refine Pw.condF rfl ?_ | refine Pw.list (Pw.box rfl rfl rfl rfl (fun _ => ?_)) | refine Pw.list (Pw.alloc rfl rfl rfl rfl rfl (fun _ => ?_)) | refine Pw.list (Pw.build rfl rfl rfl rfl ?_) | refine Pw.list (Pw.ld rfl inferInstance rfl rfl rfl ?_) | refine Pw.list (Pw.sto rfl rfl inferInstance rfl rfl rfl rfl rfl inferInstance rfl ?_))
  refine Pw.list (Pw.bmin rfl rfl rfl rfl ?_)
  repeat (first | (with_reducible first | refine Pw.seq ?_ | refine Pw.region ?_ | refine Pw.nil ?_ | refine Pw.then_ ?_ | refine Pw.skip ?_ | refine Pw.block ?_ | refine Pw.exit ?_ | refine Pw.inX ?_ | refine Pw.inN ?_ | refine Pw.inR ?_ | refine Pw.thenX ?_ | refine Pw.thenR ?_ | refine Pw.ret ?_) | refine Pw.list (Pw.pure rfl rfl rfl ?_) | refine Pw.inY rfl ?_ | refine Pw.list (Pw.off rfl rfl ?_) | refine Pw.condT rfl ?_ | refine Pw.condF rfl ?_ | refine Pw.list (Pw.box rfl rfl rfl rfl (fun _ => ?_)) | refine Pw.list (Pw.alloc rfl rfl rfl rfl rfl (fun _ => ?_)) | refine Pw.list (Pw.build rfl rfl rfl rfl ?_) | refine Pw.list (Pw.ld rfl inferInstance rfl rfl rfl ?_) | refine Pw.list (Pw.sto rfl rfl inferInstance rfl rfl rfl rfl rfl inferInstance rfl ?_))
  refine Pw.use (p := l.length ≤ c) (fun w h => (fact0 h).le) (fun hlc => ?_)
  obtain ⟨m, hm⟩ : ∃ m, m = min k l.length := ⟨_, rfl⟩
  have e9 : (if ((l.length : Nat) : Int) < (k : Int) then ((l.length : Nat) : Int) else (k : Int)) = (m : Int) := by split <;> omega
  refine Pw.re (d := 9) (v' := .int .i64 (m : Int)) rfl (congrArg (Value.int .i64) e9) ?_
  refine Pw.facts (G' := [PS l (A, c), fun W => W.heap[g2]? = some (row (exL x) 78)]) (fun w h => allCons (hv w h) (allCons (by first | exact fact0 (h) | exact fact0 (allTail (h)) | exact fact0 (allTail (allTail (h))) | exact fact0 (allTail (allTail (allTail (h)))) | exact fact0 (allTail (allTail (allTail (allTail (h))))) | exact fact0 (allTail (allTail (allTail (allTail (allTail (h)))))) | exact fact0 (allTail (allTail (allTail (allTail (allTail (allTail (h))))))) | exact fact0 (allTail (allTail (allTail (allTail (allTail (allTail (allTail (h)))))))) | exact fact0 (allTail (allTail (allTail (allTail (allTail (allTail (allTail (allTail (h))))))))) | exact fact0 (allTail (allTail (allTail (allTail (allTail (allTail (allTail (allTail (allTail (h))))))))))) allNil)) ?_
  have hml : m ≤ l.length := by omega
  have em : l.take k = l.take m := by
    rw [hm, ← List.take_take, List.take_length]
  rw [em]
  have ed : l.drop k = l.drop m := by
    rcases Nat.le_total k l.length with h | h
    · rw [show m = k by omega]
    · rw [List.drop_of_length_le h, List.drop_of_length_le (by omega)]
  rw [ed]
  refine (Pw.joinF (σ := Nat × Nat × (Option Addr × Nat)) (fun _ => True) (fun s => ⟨[(1, .int .i64 k), (2, .pointer (some ⟨g2, 0, none⟩)), (8, psV l (A, c)), (9, .int .i64 m), (10, .pointer (some ⟨s.1, 0, none⟩))], [⟨s.2.1, row [psV ((x.id, x.own) :: l.take m) s.2.2] 71⟩, ⟨s.1, row [.slice (some ⟨s.2.1, 0, none⟩) 1 1] 75⟩], [PS ((x.id, x.own) :: l.take m) s.2.2, PS l (A, c)]⟩) ?_ ?_)
  · rcases Nat.eq_zero_or_pos m with hm0 | hm0
    · subst hm0
      have et : (x.id, x.own) :: l.take 0 = [(x.id, x.own)] := by rw [List.take_zero]
      rw [et]
      refine Pw.drawnG mixed rfl rfl ?_
      refine Pw.takeP 0 (nb 13 1) rfl rfl rfl rfl (by kernel_rfl) np sf ?_
      refine Pw.takeF 1 (nb 13 3) rfl rfl inferInstance rfl rfl rfl (by kernel_rfl) np sf ?_
      refine Pw.takeP 2 (nb 13 7) rfl rfl rfl rfl (by kernel_rfl) np sf ?_
      refine Pw.takeF 3 (nb 13 15) rfl rfl inferInstance rfl rfl rfl (by kernel_rfl) np sf ?_
      refine Pw.takeBuild 4 (nb 13 31) rfl rfl rfl rfl rfl (by kernel_rfl) np sf ?_
      refine Pw.takeP 6 (nb 13 95) rfl rfl rfl rfl (by kernel_rfl) np sf ?_
      refine Pw.takeP 7 (nb 13 223) rfl rfl rfl rfl (by kernel_rfl) np sf ?_
      refine Pw.takeCut 8 (nb 13 479) rfl rfl rfl rfl rfl (by first | assumption | omega) (by first | assumption | omega) rfl rfl (by kernel_rfl) np sf ?_
      refine Pw.two 5 11 (nb 13 511) (nb 13 2527) rfl rfl (by kernel_rfl) ?_ ?_
      · skip
        refine Pw.lit12 rfl rfl rfl rfl rfl rfl rfl rfl rfl (fun g5 => ?_)
        refine Pw.held sf ?_
        refine Pw.two 9 11 (nb 13 1023) (nb 13 2559) rfl rfl (by kernel_rfl) ?_ ?_
        · skip
          refine Pw.appendE rfl rfl rfl rfl (Nat.le_refl _) rfl rfl ?_
          refine Pw.held sf ?_
          refine Pw.two 10 11 (nb 13 2047) (nb 13 3071) rfl rfl (by kernel_rfl) ?_ ?_
          · skip
            refine Pw.lit1 rfl rfl rfl rfl rfl rfl rfl rfl rfl (fun g10 => ?_)
            refine Pw.held sf ?_
            refine Pw.one 11 (nb 13 4095) rfl (by kernel_rfl) ?_
            refine Pw.alloc rfl rfl rfl rfl rfl (fun g11 => ?_)
            refine Pw.held sf ?_
            refine Pw.one 12 (nb 13 8191) rfl (by kernel_rfl) ?_
            refine Pw.sto rfl rfl inferInstance rfl rfl rfl rfl rfl inferInstance rfl ?_
            refine Pw.held sf ?_
            refine Pw.done (by kernel_rfl) ?_
            refine Pw.perm (L' := [⟨g5, row [.int .i64 x.id, .int .u64 x.own] 81⟩, ⟨g10, row [.slice (some ⟨g5, 0, none⟩) 1 1] 71⟩, ⟨g11, row [.slice (some ⟨g10, 0, none⟩) 1 1] 75⟩]) (by first | exact perm3a | exact perm3b | exact perm3c | exact perm3d | exact perm3e | exact perm3f) (freeHead ?_)
            exact Pw.arrive (g11, g10, (some ⟨g5, 0, none⟩, 1)) trivial ⟨rfl, rfl, rfl, rfl, rfl, trivial⟩ rfl (fun w h => allCons (rows_of_row (ex := []) (fact0 h) (fun _ _ => rfl) (fun _ _ => trivial) (Nat.le_refl _) (by simp [maxLen]) (by omega)) (allCons (hv w h) allNil))
          · skip
            refine Pw.alloc rfl rfl rfl rfl rfl (fun g11 => ?_)
            refine Pw.held sf ?_
            refine Pw.one 10 (nb 13 4095) rfl (by kernel_rfl) ?_
            refine Pw.lit1 rfl rfl rfl rfl rfl rfl rfl rfl rfl (fun g10 => ?_)
            refine Pw.held sf ?_
            refine Pw.one 12 (nb 13 8191) rfl (by kernel_rfl) ?_
            refine Pw.sto rfl rfl inferInstance rfl rfl rfl rfl rfl inferInstance rfl ?_
            refine Pw.held sf ?_
            refine Pw.done (by kernel_rfl) ?_
            refine Pw.perm (L' := [⟨g5, row [.int .i64 x.id, .int .u64 x.own] 81⟩, ⟨g10, row [.slice (some ⟨g5, 0, none⟩) 1 1] 71⟩, ⟨g11, row [.slice (some ⟨g10, 0, none⟩) 1 1] 75⟩]) (by first | exact perm3a | exact perm3b | exact perm3c | exact perm3d | exact perm3e | exact perm3f) (freeHead ?_)
            exact Pw.arrive (g11, g10, (some ⟨g5, 0, none⟩, 1)) trivial ⟨rfl, rfl, rfl, rfl, rfl, trivial⟩ rfl (fun w h => allCons (rows_of_row (ex := []) (fact0 h) (fun _ _ => rfl) (fun _ _ => trivial) (Nat.le_refl _) (by simp [maxLen]) (by omega)) (allCons (hv w h) allNil))
        · skip
          refine Pw.alloc rfl rfl rfl rfl rfl (fun g11 => ?_)
          refine Pw.held sf ?_
          refine Pw.one 9 (nb 13 3071) rfl (by kernel_rfl) ?_
          refine Pw.appendE rfl rfl rfl rfl (Nat.le_refl _) rfl rfl ?_
          refine Pw.held sf ?_
          refine Pw.one 10 (nb 13 4095) rfl (by kernel_rfl) ?_
          refine Pw.lit1 rfl rfl rfl rfl rfl rfl rfl rfl rfl (fun g10 => ?_)
          refine Pw.held sf ?_
          refine Pw.one 12 (nb 13 8191) rfl (by kernel_rfl) ?_
          refine Pw.sto rfl rfl inferInstance rfl rfl rfl rfl rfl inferInstance rfl ?_
          refine Pw.held sf ?_
          refine Pw.done (by kernel_rfl) ?_
          refine Pw.perm (L' := [⟨g5, row [.int .i64 x.id, .int .u64 x.own] 81⟩, ⟨g10, row [.slice (some ⟨g5, 0, none⟩) 1 1] 71⟩, ⟨g11, row [.slice (some ⟨g10, 0, none⟩) 1 1] 75⟩]) (by first | exact perm3a | exact perm3b | exact perm3c | exact perm3d | exact perm3e | exact perm3f) (freeHead ?_)
          exact Pw.arrive (g11, g10, (some ⟨g5, 0, none⟩, 1)) trivial ⟨rfl, rfl, rfl, rfl, rfl, trivial⟩ rfl (fun w h => allCons (rows_of_row (ex := []) (fact0 h) (fun _ _ => rfl) (fun _ _ => trivial) (Nat.le_refl _) (by simp [maxLen]) (by omega)) (allCons (hv w h) allNil))
      · skip
        refine Pw.alloc rfl rfl rfl rfl rfl (fun g11 => ?_)
        refine Pw.held sf ?_
        refine Pw.one 5 (nb 13 2559) rfl (by kernel_rfl) ?_
        refine Pw.lit12 rfl rfl rfl rfl rfl rfl rfl rfl rfl (fun g5 => ?_)
        refine Pw.held sf ?_
        refine Pw.one 9 (nb 13 3071) rfl (by kernel_rfl) ?_
        refine Pw.appendE rfl rfl rfl rfl (Nat.le_refl _) rfl rfl ?_
        refine Pw.held sf ?_
        refine Pw.one 10 (nb 13 4095) rfl (by kernel_rfl) ?_
        refine Pw.lit1 rfl rfl rfl rfl rfl rfl rfl rfl rfl (fun g10 => ?_)
        refine Pw.held sf ?_
        refine Pw.one 12 (nb 13 8191) rfl (by kernel_rfl) ?_
        refine Pw.sto rfl rfl inferInstance rfl rfl rfl rfl rfl inferInstance rfl ?_
        refine Pw.held sf ?_
        refine Pw.done (by kernel_rfl) ?_
        refine Pw.perm (L' := [⟨g5, row [.int .i64 x.id, .int .u64 x.own] 81⟩, ⟨g10, row [.slice (some ⟨g5, 0, none⟩) 1 1] 71⟩, ⟨g11, row [.slice (some ⟨g10, 0, none⟩) 1 1] 75⟩]) (by first | exact perm3a | exact perm3b | exact perm3c | exact perm3d | exact perm3e | exact perm3f) (freeHead ?_)
        exact Pw.arrive (g11, g10, (some ⟨g5, 0, none⟩, 1)) trivial ⟨rfl, rfl, rfl, rfl, rfl, trivial⟩ rfl (fun w h => allCons (rows_of_row (ex := []) (fact0 h) (fun _ _ => rfl) (fun _ _ => trivial) (Nat.le_refl _) (by simp [maxLen]) (by omega)) (allCons (hv w h) allNil))
    · refine Pw.use (p := A.isSome = true) (fun w h => (fact0 h).has (i := 0) (by omega) (by omega)) (fun hA => ?_)
      obtain ⟨ad, rfl⟩ := Option.isSome_iff_exists.1 hA
      have htl : (l.take m).length = m := by rw [List.length_take]; omega
      refine Pw.drawnG mixed rfl rfl ?_
      refine Pw.takeP 0 (nb 13 1) rfl rfl rfl rfl (by kernel_rfl) np sf ?_
      refine Pw.takeF 1 (nb 13 3) rfl rfl inferInstance rfl rfl rfl (by kernel_rfl) np sf ?_
      refine Pw.takeP 2 (nb 13 7) rfl rfl rfl rfl (by kernel_rfl) np sf ?_
      refine Pw.takeF 3 (nb 13 15) rfl rfl inferInstance rfl rfl rfl (by kernel_rfl) np sf ?_
      refine Pw.takeBuild 4 (nb 13 31) rfl rfl rfl rfl rfl (by kernel_rfl) np sf ?_
      refine Pw.takeP 6 (nb 13 95) rfl rfl rfl rfl (by kernel_rfl) np sf ?_
      refine Pw.takeP 7 (nb 13 223) rfl rfl rfl rfl (by kernel_rfl) np sf ?_
      refine Pw.takeCut 8 (nb 13 479) rfl rfl rfl rfl rfl (by first | assumption | omega) (by first | assumption | omega) rfl rfl (by kernel_rfl) np sf ?_
      refine Pw.two 5 11 (nb 13 511) (nb 13 2527) rfl rfl (by kernel_rfl) ?_ ?_
      · skip
        refine Pw.lit12 rfl rfl rfl rfl rfl rfl rfl rfl rfl (fun g5 => ?_)
        refine Pw.held sf ?_
        refine Pw.two 9 11 (nb 13 1023) (nb 13 2559) rfl rfl (by kernel_rfl) ?_ ?_
        · skip
          first
          | refine Pw.append (olds := encP (x.id, x.own)) (ex := []) (news := cellsP (l.take m)) (L' := fun g' ex' => ⟨g', row (encP (x.id, x.own) ++ cellsP (l.take m) ++ ex') 81⟩ :: _) rfl rfl rfl rfl rfl rfl rfl rfl (by rw [cellsP_len, htl]; rfl) cellsP_one (fun w hs j u hu => ((fact0 hs.all).take m).toCells (by omega) j u hu) (by simp only [maxLen]; omega) (by show (1 + m) * 16 ≤ _; omega) (fun g' ex' => .head) rfl rfl (fun g' cap' ex' h1 h2 => ?_)
          | refine Pw.append (olds := encP (x.id, x.own)) (ex := []) (news := cellsP (l.take m)) (L' := fun g' ex' => _ :: ⟨g', row (encP (x.id, x.own) ++ cellsP (l.take m) ++ ex') 81⟩ :: _) rfl rfl rfl rfl rfl rfl rfl rfl (by rw [cellsP_len, htl]; rfl) cellsP_one (fun w hs j u hu => ((fact0 hs.all).take m).toCells (by omega) j u hu) (by simp only [maxLen]; omega) (by show (1 + m) * 16 ≤ _; omega) (fun g' ex' => .tail .head) rfl rfl (fun g' cap' ex' h1 h2 => ?_)
          refine Pw.re (d := 44) (v' := psV ((x.id, x.own) :: l.take m) (some ⟨g', 0, none⟩, cap')) rfl (by show Value.slice _ _ _ = Value.slice _ ((l.take m).length + 1) _; rw [htl, Int.toNat_natCast, Nat.add_comm]) ?_
          refine Pw.held sf ?_
          refine Pw.two 10 11 (nb 13 2047) (nb 13 3071) rfl rfl (by kernel_rfl) ?_ ?_
          · skip
            refine Pw.lit1 rfl rfl rfl rfl rfl rfl rfl rfl rfl (fun g10 => ?_)
            refine Pw.held sf ?_
            refine Pw.one 11 (nb 13 4095) rfl (by kernel_rfl) ?_
            refine Pw.alloc rfl rfl rfl rfl rfl (fun g11 => ?_)
            refine Pw.held sf ?_
            refine Pw.one 12 (nb 13 8191) rfl (by kernel_rfl) ?_
            refine Pw.sto rfl rfl inferInstance rfl rfl rfl rfl rfl inferInstance rfl ?_
            refine Pw.held sf ?_
            refine Pw.done (by kernel_rfl) ?_
            refine Pw.perm (L' := [⟨g', row (encP (x.id, x.own) ++ cellsP (l.take m) ++ ex') 81⟩, ⟨g10, row [psV ((x.id, x.own) :: l.take m) (some ⟨g', 0, none⟩, cap')] 71⟩, ⟨g11, row [.slice (some ⟨g10, 0, none⟩) 1 1] 75⟩]) (by first | exact perm3a | exact perm3b | exact perm3c | exact perm3d | exact perm3e | exact perm3f) (freeHead ?_)
            exact Pw.arrive (g11, g10, (some ⟨g', 0, none⟩, cap')) trivial ⟨rfl, rfl, rfl, rfl, rfl, trivial⟩ rfl (fun w h => allCons (rows_of_row (l := (x.id, x.own) :: l.take m) (ex := ex') (fact0 h) (fun _ _ => rfl) (fun _ _ => trivial) (by show _ ≤ cap'; rw [List.length_cons, htl]; omega) (by rw [List.length_cons, htl]; simp only [maxLen]; omega) (by omega)) (allCons (hv w h) allNil))
          · skip
            refine Pw.alloc rfl rfl rfl rfl rfl (fun g11 => ?_)
            refine Pw.held sf ?_
            refine Pw.one 10 (nb 13 4095) rfl (by kernel_rfl) ?_
            refine Pw.lit1 rfl rfl rfl rfl rfl rfl rfl rfl rfl (fun g10 => ?_)
            refine Pw.held sf ?_
            refine Pw.one 12 (nb 13 8191) rfl (by kernel_rfl) ?_
            refine Pw.sto rfl rfl inferInstance rfl rfl rfl rfl rfl inferInstance rfl ?_
            refine Pw.held sf ?_
            refine Pw.done (by kernel_rfl) ?_
            refine Pw.perm (L' := [⟨g', row (encP (x.id, x.own) ++ cellsP (l.take m) ++ ex') 81⟩, ⟨g10, row [psV ((x.id, x.own) :: l.take m) (some ⟨g', 0, none⟩, cap')] 71⟩, ⟨g11, row [.slice (some ⟨g10, 0, none⟩) 1 1] 75⟩]) (by first | exact perm3a | exact perm3b | exact perm3c | exact perm3d | exact perm3e | exact perm3f) (freeHead ?_)
            exact Pw.arrive (g11, g10, (some ⟨g', 0, none⟩, cap')) trivial ⟨rfl, rfl, rfl, rfl, rfl, trivial⟩ rfl (fun w h => allCons (rows_of_row (l := (x.id, x.own) :: l.take m) (ex := ex') (fact0 h) (fun _ _ => rfl) (fun _ _ => trivial) (by show _ ≤ cap'; rw [List.length_cons, htl]; omega) (by rw [List.length_cons, htl]; simp only [maxLen]; omega) (by omega)) (allCons (hv w h) allNil))
        · skip
          refine Pw.alloc rfl rfl rfl rfl rfl (fun g11 => ?_)
          refine Pw.held sf ?_
          refine Pw.one 9 (nb 13 3071) rfl (by kernel_rfl) ?_
          first
          | refine Pw.append (olds := encP (x.id, x.own)) (ex := []) (news := cellsP (l.take m)) (L' := fun g' ex' => ⟨g', row (encP (x.id, x.own) ++ cellsP (l.take m) ++ ex') 81⟩ :: _) rfl rfl rfl rfl rfl rfl rfl rfl (by rw [cellsP_len, htl]; rfl) cellsP_one (fun w hs j u hu => ((fact0 hs.all).take m).toCells (by omega) j u hu) (by simp only [maxLen]; omega) (by show (1 + m) * 16 ≤ _; omega) (fun g' ex' => .head) rfl rfl (fun g' cap' ex' h1 h2 => ?_)
          | refine Pw.append (olds := encP (x.id, x.own)) (ex := []) (news := cellsP (l.take m)) (L' := fun g' ex' => _ :: ⟨g', row (encP (x.id, x.own) ++ cellsP (l.take m) ++ ex') 81⟩ :: _) rfl rfl rfl rfl rfl rfl rfl rfl (by rw [cellsP_len, htl]; rfl) cellsP_one (fun w hs j u hu => ((fact0 hs.all).take m).toCells (by omega) j u hu) (by simp only [maxLen]; omega) (by show (1 + m) * 16 ≤ _; omega) (fun g' ex' => .tail .head) rfl rfl (fun g' cap' ex' h1 h2 => ?_)
          refine Pw.re (d := 44) (v' := psV ((x.id, x.own) :: l.take m) (some ⟨g', 0, none⟩, cap')) rfl (by show Value.slice _ _ _ = Value.slice _ ((l.take m).length + 1) _; rw [htl, Int.toNat_natCast, Nat.add_comm]) ?_
          refine Pw.held sf ?_
          refine Pw.one 10 (nb 13 4095) rfl (by kernel_rfl) ?_
          refine Pw.lit1 rfl rfl rfl rfl rfl rfl rfl rfl rfl (fun g10 => ?_)
          refine Pw.held sf ?_
          refine Pw.one 12 (nb 13 8191) rfl (by kernel_rfl) ?_
          refine Pw.sto rfl rfl inferInstance rfl rfl rfl rfl rfl inferInstance rfl ?_
          refine Pw.held sf ?_
          refine Pw.done (by kernel_rfl) ?_
          refine Pw.perm (L' := [⟨g', row (encP (x.id, x.own) ++ cellsP (l.take m) ++ ex') 81⟩, ⟨g10, row [psV ((x.id, x.own) :: l.take m) (some ⟨g', 0, none⟩, cap')] 71⟩, ⟨g11, row [.slice (some ⟨g10, 0, none⟩) 1 1] 75⟩]) (by first | exact perm3a | exact perm3b | exact perm3c | exact perm3d | exact perm3e | exact perm3f) (freeHead ?_)
          exact Pw.arrive (g11, g10, (some ⟨g', 0, none⟩, cap')) trivial ⟨rfl, rfl, rfl, rfl, rfl, trivial⟩ rfl (fun w h => allCons (rows_of_row (l := (x.id, x.own) :: l.take m) (ex := ex') (fact0 h) (fun _ _ => rfl) (fun _ _ => trivial) (by show _ ≤ cap'; rw [List.length_cons, htl]; omega) (by rw [List.length_cons, htl]; simp only [maxLen]; omega) (by omega)) (allCons (hv w h) allNil))
      · skip
        refine Pw.alloc rfl rfl rfl rfl rfl (fun g11 => ?_)
        refine Pw.held sf ?_
        refine Pw.one 5 (nb 13 2559) rfl (by kernel_rfl) ?_
        refine Pw.lit12 rfl rfl rfl rfl rfl rfl rfl rfl rfl (fun g5 => ?_)
        refine Pw.held sf ?_
        refine Pw.one 9 (nb 13 3071) rfl (by kernel_rfl) ?_
        first
        | refine Pw.append (olds := encP (x.id, x.own)) (ex := []) (news := cellsP (l.take m)) (L' := fun g' ex' => ⟨g', row (encP (x.id, x.own) ++ cellsP (l.take m) ++ ex') 81⟩ :: _) rfl rfl rfl rfl rfl rfl rfl rfl (by rw [cellsP_len, htl]; rfl) cellsP_one (fun w hs j u hu => ((fact0 hs.all).take m).toCells (by omega) j u hu) (by simp only [maxLen]; omega) (by show (1 + m) * 16 ≤ _; omega) (fun g' ex' => .head) rfl rfl (fun g' cap' ex' h1 h2 => ?_)
        | refine Pw.append (olds := encP (x.id, x.own)) (ex := []) (news := cellsP (l.take m)) (L' := fun g' ex' => _ :: ⟨g', row (encP (x.id, x.own) ++ cellsP (l.take m) ++ ex') 81⟩ :: _) rfl rfl rfl rfl rfl rfl rfl rfl (by rw [cellsP_len, htl]; rfl) cellsP_one (fun w hs j u hu => ((fact0 hs.all).take m).toCells (by omega) j u hu) (by simp only [maxLen]; omega) (by show (1 + m) * 16 ≤ _; omega) (fun g' ex' => .tail .head) rfl rfl (fun g' cap' ex' h1 h2 => ?_)
        refine Pw.re (d := 44) (v' := psV ((x.id, x.own) :: l.take m) (some ⟨g', 0, none⟩, cap')) rfl (by show Value.slice _ _ _ = Value.slice _ ((l.take m).length + 1) _; rw [htl, Int.toNat_natCast, Nat.add_comm]) ?_
        refine Pw.held sf ?_
        refine Pw.one 10 (nb 13 4095) rfl (by kernel_rfl) ?_
        refine Pw.lit1 rfl rfl rfl rfl rfl rfl rfl rfl rfl (fun g10 => ?_)
        refine Pw.held sf ?_
        refine Pw.one 12 (nb 13 8191) rfl (by kernel_rfl) ?_
        refine Pw.sto rfl rfl inferInstance rfl rfl rfl rfl rfl inferInstance rfl ?_
        refine Pw.held sf ?_
        refine Pw.done (by kernel_rfl) ?_
        refine Pw.perm (L' := [⟨g', row (encP (x.id, x.own) ++ cellsP (l.take m) ++ ex') 81⟩, ⟨g10, row [psV ((x.id, x.own) :: l.take m) (some ⟨g', 0, none⟩, cap')] 71⟩, ⟨g11, row [.slice (some ⟨g10, 0, none⟩) 1 1] 75⟩]) (by first | exact perm3a | exact perm3b | exact perm3c | exact perm3d | exact perm3e | exact perm3f) (freeHead ?_)
        exact Pw.arrive (g11, g10, (some ⟨g', 0, none⟩, cap')) trivial ⟨rfl, rfl, rfl, rfl, rfl, trivial⟩ rfl (fun w h => allCons (rows_of_row (l := (x.id, x.own) :: l.take m) (ex := ex') (fact0 h) (fun _ _ => rfl) (fun _ _ => trivial) (by show _ ≤ cap'; rw [List.length_cons, htl]; omega) (by rw [List.length_cons, htl]; simp only [maxLen]; omega) (by omega)) (allCons (hv w h) allNil))
  rintro ⟨g11, g10, z1⟩ _
  dsimp only
  obtain ⟨f0, hf0⟩ : ∃ f0, f0 = (x.id, x.own) :: l.take m := ⟨_, rfl⟩
  rw [← hf0]
  have hdl : (l.drop m).length ≤ 1000 := by rw [List.length_drop]; omega
  obtain ⟨r, hr⟩ : ∃ r, r = l.drop m := ⟨_, rfl⟩
  have hsm : r = [] ∨ k ≤ 1000000 := by
    rcases Nat.lt_or_ge l.length k with h | h
    · left; rw [hr, List.drop_of_length_le (by omega)]
    · right; omega
  repeat (first | (with_reducible first | refine Pw.seq ?_ | refine Pw.region ?_ | refine Pw.nil ?_ | refine Pw.then_ ?_ | refine Pw.skip ?_ | refine Pw.block ?_ | refine Pw.exit ?_ | refine Pw.inX ?_ | refine Pw.inN ?_ | refine Pw.inR ?_ | refine Pw.thenX ?_ | refine Pw.thenR ?_ | refine Pw.ret ?_) | refine Pw.list (Pw.pure rfl rfl rfl ?_) | refine Pw.inY rfl ?_ | refine Pw.list (Pw.off rfl rfl ?_) | refine Pw.condT rfl ?_ | refine Pw.condF rfl ?_ | refine Pw.list (Pw.box rfl rfl rfl rfl (fun _ => ?_)) | refine Pw.list (Pw.alloc rfl rfl rfl rfl rfl (fun _ => ?_)) | refine Pw.list (Pw.build rfl rfl rfl rfl ?_) | refine Pw.list (Pw.ld rfl inferInstance rfl rfl rfl ?_) | refine Pw.list (Pw.sto rfl rfl inferInstance rfl rfl rfl rfl rfl inferInstance rfl ?_))
  refine Pw.list (Pw.cutA rfl rfl rfl rfl (by omega) (by omega) hlc rfl rfl ?_)
  refine Pw.re (d := 48) (v' := psV r (cutA A m c 2, c - m)) rfl (by show Value.slice _ _ _ = Value.slice _ r.length _; rw [hr, List.length_drop]; rfl) ?_
  repeat (first | (with_reducible first | refine Pw.seq ?_ | refine Pw.region ?_ | refine Pw.nil ?_ | refine Pw.then_ ?_ | refine Pw.skip ?_ | refine Pw.block ?_ | refine Pw.exit ?_ | refine Pw.inX ?_ | refine Pw.inN ?_ | refine Pw.inR ?_ | refine Pw.thenX ?_ | refine Pw.thenR ?_ | refine Pw.ret ?_) | refine Pw.list (Pw.pure rfl rfl rfl ?_) | refine Pw.inY rfl ?_ | refine Pw.list (Pw.off rfl rfl ?_) | refine Pw.condT rfl ?_ | refine Pw.condF rfl ?_ | refine Pw.list (Pw.box rfl rfl rfl rfl (fun _ => ?_)) | refine Pw.list (Pw.alloc rfl rfl rfl rfl rfl (fun _ => ?_)) | refine Pw.list (Pw.build rfl rfl rfl rfl ?_) | refine Pw.list (Pw.ld rfl inferInstance rfl rfl rfl ?_) | refine Pw.list (Pw.sto rfl rfl inferInstance rfl rfl rfl rfl rfl inferInstance rfl ?_))
  refine Pw.list (Pw.call (Chunk_ct r (cutA A m c 2, c - m) k (by omega)) rfl rfl rfl (by kernel_rfl) rfl rfl (fun w h => by rw [hr]; exact (hv w h : PS l (A, c) w).dropC m) ?_)
  rintro ⟨gc1, gc2⟩ _
  rw [← hr] at hdl ⊢
  repeat (first | (with_reducible first | refine Pw.seq ?_ | refine Pw.region ?_ | refine Pw.nil ?_ | refine Pw.then_ ?_ | refine Pw.skip ?_ | refine Pw.block ?_ | refine Pw.exit ?_ | refine Pw.inX ?_ | refine Pw.inN ?_ | refine Pw.inR ?_ | refine Pw.thenX ?_ | refine Pw.thenR ?_ | refine Pw.ret ?_) | refine Pw.list (Pw.pure rfl rfl rfl ?_) | refine Pw.inY rfl ?_ | refine Pw.list (Pw.off rfl rfl ?_) | refine Pw.condT rfl ?_ | refine Pw.condF rfl ?_ | refine Pw.list (Pw.box rfl rfl rfl rfl (fun _ => ?_)) | refine Pw.list (Pw.alloc rfl rfl rfl rfl rfl (fun _ => ?_)) | refine Pw.list (Pw.build rfl rfl rfl rfl ?_) | refine Pw.list (Pw.ld rfl inferInstance rfl rfl rfl ?_) | refine Pw.list (Pw.sto rfl rfl inferInstance rfl rfl rfl rfl rfl inferInstance rfl ?_))
  obtain ⟨A', hA'⟩ : ∃ A', A' = cutA A m c 2 := ⟨_, rfl⟩
  rw [← hA']
  have hkb : k ≤ 9223372036854775807 := by omega
  refine Pw.rangeFunc (σ := Gr × List Pg) (τ := Unit) (fun i t => gOk t.1 (cellsPg t.2) t.2.length 1 ∧ t.2.map Prod.fst = f0 :: (List.range i).map (chunkAt k r))
    (fun i t => ⟨gL t.1 (cellsPg t.2) 71 ++ [⟨g11, row [gv t.1 t.2.length] 75⟩], [preC r (A', c - m) k gc1 gc2, HeldAll t.2]⟩) (some (g10, 1, []), [(f0, z1)]) (fun _ _ _ => True)
    (fun i t _ => ⟨[(10, .pointer (some ⟨g11, 0, none⟩)), (11, chunkV k r A' i)], gL t.1 (cellsPg t.2) 71 ++ [⟨g11, row [gv t.1 t.2.length] 75⟩], [preC r (A', c - m) k gc1 gc2, HeldAll t.2]⟩)
    rfl enters_chunk (Chunk_it r A' (c - m) k gc1 gc2 (by omega) (by omega) hsm hkb) rfl ⟨⟨rfl, Nat.le_refl _, rfl⟩, rfl⟩ rfl (fun w h => allCons (hv w h) (allCons (fun p hp => by rw [List.mem_singleton.1 hp]; exact (hv w h : PS f0 z1 w)) allNil)) (fun i t _ w h => fact0 h) ?_ ?_ ?_
  · rintro i ⟨q, pgs⟩ T rr hi hJ
    refine Pw.regionI rfl (Pw.list (Pw.pure rfl rfl rfl (Pw.nil (Pw.then_ ?_))))
    refine Pw.arriveR (A := fun _ : Unit => True) (B := fun _ : Unit => ⟨[(10, .pointer (some ⟨g11, 0, none⟩)), (11, chunkV k r A' i)], gL q (cellsPg pgs) 71 ++ [⟨g11, row [gv q pgs.length] 75⟩], [preC r (A', c - m) k gc1 gc2, HeldAll pgs]⟩) () trivial ?_ rfl ?_
    · exact ⟨rfl, rfl, trivial⟩
    · exact fun w h => h
  · rintro i ⟨q, pgs⟩ _ T rr hi ⟨hq, hp⟩ _
    dsimp only at hq hp ⊢
    have hpl : pgs.length = 1 + i := by
      have := congrArg List.length hp
      rw [List.length_map, List.length_cons, List.length_map, List.length_range] at this; omega
    have hik := (nCh_lt (show 0 < k by omega)).1 hi
    have hib : i ≤ 1000 := by
      have : i ≤ i * k := Nat.le_mul_of_pos_right i (by omega)
      omega
    have hcl : (chunkAt k r i).length ≤ 1000 := by unfold chunkAt; rw [List.length_take, List.length_drop]; omega
    refine Pw.eqL (L' := gL q (cellsPg pgs) 71 ++ (⟨g11, row [gv q pgs.length] 75⟩ :: T)) (by simp) ?_
    refine Pw.blockI (Pw.regionD (S := All [preC r (A', c - m) k gc1 gc2, HeldAll pgs]) mixed rfl rfl rfl ?_)
    refine Pw.takeP 1 (nb 6 2) rfl rfl rfl rfl (by kernel_rfl) np sf ?_
    refine Pw.two 0 2 (nb 6 3) (nb 6 6) rfl rfl (by kernel_rfl) ?_ ?_
    · skip
      refine Pw.ld rfl inferInstance rfl rfl rfl ?_
      refine Pw.held sf ?_
      refine Pw.one 2 (nb 6 7) rfl (by kernel_rfl) ?_
      refine Pw.call (CloneP_ct (chunkAt k r i) (cutA A' (i * k) (endC k r.length i) 2, (chunkAt k r i).length) (by omega)) rfl rfl rfl (by kernel_rfl) rfl rfl (fun w h => chunk_PS (c := c - m) (hv w h : preC r (A', c - m) k gc1 gc2 w).2.2 (by omega) hi) ?_
      intro z _
      refine Pw.held sf ?_
      refine Pw.one 3 (nb 6 15) rfl (by kernel_rfl) ?_
      refine Pw.lit1 rfl rfl rfl rfl rfl rfl rfl rfl rfl (fun g5 => freeHead ?_)
      refine Pw.held sf ?_
      refine Pw.one 4 (nb 6 31) rfl (by kernel_rfl) ?_
      refine Pw.push (s := q) (m := pgs.length) (cells := cellsPg pgs) (news := [psV (chunkAt k r i) z]) (L0 := ⟨g11, row [gv q pgs.length] 75⟩ :: T) rfl rfl rfl rfl rfl rfl rfl hq rfl (fun u hu => by rw [List.mem_singleton.1 hu]; rfl) (fun w hs j u hu => by
        have h1 := fact0 hs.all
        rw [add_none, cell_of_blk h1]
        simpa using hu) (by omega) (by simp only [maxLen]; omega) (by show (pgs.length + 1) * 24 ≤ _; omega) rfl rfl (fun q' hq' => ?_)
      refine Pw.held sf ?_
      refine Pw.one 5 (nb 6 63) rfl (by kernel_rfl) ?_
      refine Pw.sto (vs := [gv q' (pgs.length + 1)]) rfl rfl inferInstance (by cases q' <;> rfl) rfl rfl (by cases q' <;> rfl) rfl inferInstance rfl ?_
      refine Pw.held sf ?_
      refine Pw.done (by kernel_rfl) ?_
      refine Pw.inN (Pw.roundEnd ?_)
      have e1 : cellsPg (pgs ++ [(chunkAt k r i, z)]) = cellsPg pgs ++ [psV (chunkAt k r i) z] := by unfold cellsPg; simp [encPg]
      have e2 : (pgs ++ [(chunkAt k r i, z)]).length = pgs.length + 1 := by simp
      refine Pw.eqL (L' := (gL q' (cellsPg (pgs ++ [(chunkAt k r i, z)])) 71 ++ [⟨g11, row [gv q' (pgs ++ [(chunkAt k r i, z)]).length] 75⟩]) ++ T) (by rw [e1, e2]; simp) ?_
      refine Pw.arriveE (J := fun t : Gr × List Pg => gOk t.1 (cellsPg t.2) t.2.length 1 ∧ t.2.map Prod.fst = f0 :: (List.range (i + 1)).map (chunkAt k r)) (I := fun t => ⟨gL t.1 (cellsPg t.2) 71 ++ [⟨g11, row [gv t.1 t.2.length] 75⟩], [preC r (A', c - m) k gc1 gc2, HeldAll t.2]⟩) (q', pgs ++ [(chunkAt k r i, z)]) ?_ rfl ?_
      · exact ⟨by rw [e1, e2]; exact hq', by rw [List.map_append, hp, List.range_succ, List.map_append]; rfl⟩
      · exact fun w h => allCons (hv w h) (allCons (fun p hp => by
          rcases List.mem_append.1 hp with hp | hp
          · exact (hv w h : HeldAll pgs w) p hp
          · rw [List.mem_singleton.1 hp]; exact (hv w h : PS (chunkAt k r i) z w)) allNil)
    · skip
      refine Pw.call (CloneP_ct (chunkAt k r i) (cutA A' (i * k) (endC k r.length i) 2, (chunkAt k r i).length) (by omega)) rfl rfl rfl (by kernel_rfl) rfl rfl (fun w h => chunk_PS (c := c - m) (hv w h : preC r (A', c - m) k gc1 gc2 w).2.2 (by omega) hi) ?_
      intro z _
      refine Pw.held sf ?_
      refine Pw.two 0 3 (nb 6 7) (nb 6 14) rfl rfl (by kernel_rfl) ?_ ?_
      · skip
        refine Pw.ld rfl inferInstance rfl rfl rfl ?_
        refine Pw.held sf ?_
        refine Pw.one 3 (nb 6 15) rfl (by kernel_rfl) ?_
        refine Pw.lit1 rfl rfl rfl rfl rfl rfl rfl rfl rfl (fun g5 => freeHead ?_)
        refine Pw.held sf ?_
        refine Pw.one 4 (nb 6 31) rfl (by kernel_rfl) ?_
        refine Pw.push (s := q) (m := pgs.length) (cells := cellsPg pgs) (news := [psV (chunkAt k r i) z]) (L0 := ⟨g11, row [gv q pgs.length] 75⟩ :: T) rfl rfl rfl rfl rfl rfl rfl hq rfl (fun u hu => by rw [List.mem_singleton.1 hu]; rfl) (fun w hs j u hu => by
          have h1 := fact0 hs.all
          rw [add_none, cell_of_blk h1]
          simpa using hu) (by omega) (by simp only [maxLen]; omega) (by show (pgs.length + 1) * 24 ≤ _; omega) rfl rfl (fun q' hq' => ?_)
        refine Pw.held sf ?_
        refine Pw.one 5 (nb 6 63) rfl (by kernel_rfl) ?_
        refine Pw.sto (vs := [gv q' (pgs.length + 1)]) rfl rfl inferInstance (by cases q' <;> rfl) rfl rfl (by cases q' <;> rfl) rfl inferInstance rfl ?_
        refine Pw.held sf ?_
        refine Pw.done (by kernel_rfl) ?_
        refine Pw.inN (Pw.roundEnd ?_)
        have e1 : cellsPg (pgs ++ [(chunkAt k r i, z)]) = cellsPg pgs ++ [psV (chunkAt k r i) z] := by unfold cellsPg; simp [encPg]
        have e2 : (pgs ++ [(chunkAt k r i, z)]).length = pgs.length + 1 := by simp
        refine Pw.eqL (L' := (gL q' (cellsPg (pgs ++ [(chunkAt k r i, z)])) 71 ++ [⟨g11, row [gv q' (pgs ++ [(chunkAt k r i, z)]).length] 75⟩]) ++ T) (by rw [e1, e2]; simp) ?_
        refine Pw.arriveE (J := fun t : Gr × List Pg => gOk t.1 (cellsPg t.2) t.2.length 1 ∧ t.2.map Prod.fst = f0 :: (List.range (i + 1)).map (chunkAt k r)) (I := fun t => ⟨gL t.1 (cellsPg t.2) 71 ++ [⟨g11, row [gv t.1 t.2.length] 75⟩], [preC r (A', c - m) k gc1 gc2, HeldAll t.2]⟩) (q', pgs ++ [(chunkAt k r i, z)]) ?_ rfl ?_
        · exact ⟨by rw [e1, e2]; exact hq', by rw [List.map_append, hp, List.range_succ, List.map_append]; rfl⟩
        · exact fun w h => allCons (hv w h) (allCons (fun p hp => by
            rcases List.mem_append.1 hp with hp | hp
            · exact (hv w h : HeldAll pgs w) p hp
            · rw [List.mem_singleton.1 hp]; exact (hv w h : PS (chunkAt k r i) z w)) allNil)
      · skip
        refine Pw.lit1 rfl rfl rfl rfl rfl rfl rfl rfl rfl (fun g5 => freeHead ?_)
        refine Pw.held sf ?_
        refine Pw.one 0 (nb 6 15) rfl (by kernel_rfl) ?_
        refine Pw.ld rfl inferInstance rfl rfl rfl ?_
        refine Pw.held sf ?_
        refine Pw.one 4 (nb 6 31) rfl (by kernel_rfl) ?_
        refine Pw.push (s := q) (m := pgs.length) (cells := cellsPg pgs) (news := [psV (chunkAt k r i) z]) (L0 := ⟨g11, row [gv q pgs.length] 75⟩ :: T) rfl rfl rfl rfl rfl rfl rfl hq rfl (fun u hu => by rw [List.mem_singleton.1 hu]; rfl) (fun w hs j u hu => by
          have h1 := fact0 hs.all
          rw [add_none, cell_of_blk h1]
          simpa using hu) (by omega) (by simp only [maxLen]; omega) (by show (pgs.length + 1) * 24 ≤ _; omega) rfl rfl (fun q' hq' => ?_)
        refine Pw.held sf ?_
        refine Pw.one 5 (nb 6 63) rfl (by kernel_rfl) ?_
        refine Pw.sto (vs := [gv q' (pgs.length + 1)]) rfl rfl inferInstance (by cases q' <;> rfl) rfl rfl (by cases q' <;> rfl) rfl inferInstance rfl ?_
        refine Pw.held sf ?_
        refine Pw.done (by kernel_rfl) ?_
        refine Pw.inN (Pw.roundEnd ?_)
        have e1 : cellsPg (pgs ++ [(chunkAt k r i, z)]) = cellsPg pgs ++ [psV (chunkAt k r i) z] := by unfold cellsPg; simp [encPg]
        have e2 : (pgs ++ [(chunkAt k r i, z)]).length = pgs.length + 1 := by simp
        refine Pw.eqL (L' := (gL q' (cellsPg (pgs ++ [(chunkAt k r i, z)])) 71 ++ [⟨g11, row [gv q' (pgs ++ [(chunkAt k r i, z)]).length] 75⟩]) ++ T) (by rw [e1, e2]; simp) ?_
        refine Pw.arriveE (J := fun t : Gr × List Pg => gOk t.1 (cellsPg t.2) t.2.length 1 ∧ t.2.map Prod.fst = f0 :: (List.range (i + 1)).map (chunkAt k r)) (I := fun t => ⟨gL t.1 (cellsPg t.2) 71 ++ [⟨g11, row [gv t.1 t.2.length] 75⟩], [preC r (A', c - m) k gc1 gc2, HeldAll t.2]⟩) (q', pgs ++ [(chunkAt k r i, z)]) ?_ rfl ?_
        · exact ⟨by rw [e1, e2]; exact hq', by rw [List.map_append, hp, List.range_succ, List.map_append]; rfl⟩
        · exact fun w h => allCons (hv w h) (allCons (fun p hp => by
            rcases List.mem_append.1 hp with hp | hp
            · exact (hv w h : HeldAll pgs w) p hp
            · rw [List.mem_singleton.1 hp]; exact (hv w h : PS (chunkAt k r i) z w)) allNil)
  · rintro ⟨q, pgs⟩ Dm ⟨hq, hp⟩
    dsimp only at hq hp ⊢
    have hpl : pgs.length = (f0 :: chunks k r).length := by
      rw [← List.length_map (f := Prod.fst), hp]; rfl
    refine Pw.tail (i := 12) rfl ?_
    refine Pw.list (Pw.ld rfl inferInstance rfl rfl rfl ?_)
    refine Pw.list (Pw.pure rfl rfl rfl (Pw.list (Pw.pure rfl rfl rfl (Pw.nil ?_))))
    refine Pw.perm (L' := gL q (cellsPg pgs) 71 ++ [⟨Dm, .deferred (some [])⟩, ⟨g11, row [gv q pgs.length] 75⟩]) (List.perm_middle.symm) ?_
    refine Pw.freeG hq (fun B cb e hc => ?_)
    rw [e]
    exact Pw.retM (x := (pgs, (B, cb))) .head (.tmp rfl (.tmp rfl .nil)) (by show Value.tuple #[.slice B pgs.length cb, _] = Value.tuple #[.slice B (f0 :: chunks k r).length cb, _]; rw [hpl]) (by exact hp) (fun w h => rows_of_cells (fun _ _ => rfl) (fun y hy => (hv w h : HeldAll pgs w) y hy) hc (by rw [hpl, List.length_cons, chunks_len]; have := nCh_le (k := k) (n := r.length) (by omega); simp only [maxLen]; omega) (by omega) (fact0 h))
end Go.Proofs.Wk
