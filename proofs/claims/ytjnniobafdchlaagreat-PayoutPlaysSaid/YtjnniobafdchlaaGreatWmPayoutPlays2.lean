/- Walks and their mathematics, merged. No conditions beyond those written. -/
import Derived.Test.YtjnniobafdchlaaGreatWmPayoutPlays1
import Derived.Test.YtjnniobafdchlaaGreatProg
import Derived.Shelf.SlLaysF0
/- Words for the walks of a seat's program: slices of limbs «as» values. -/
namespace Go.Proofs.Wk
open Go.RowKit
set_option linter.unusedVariables false
set_option linter.unusedSimpArgs false
theorem mixed : Tryz.prog.follows .mixedOrders = true := by kernel_rfl
abbrev sl (l : List Int) (x : Option Addr × Nat) : Value := .slice x.1 l.length x.2
abbrev S1 (l : List Int) (x : Option Addr × Nat) : World → Prop := Ints .u32 l x.1 x.2
abbrev Tt {α : Type} (_ : α) : Prop := True
theorem Rows.top' {k : IntKind} {l : List Int} {A : Option Addr} {c : Nat} {W : World} (h : Ints k l A c W) : (l.length : Int) ≤ 9223372036854775807 := by
  have := h.top; simp only [maxLen] at this; omega
end Go.Proofs.Wk
/- Snapshots «as» data: what the walks of layer 10 say of them. -/
namespace Go.Proofs.Wk
open Go.RowKit
set_option linter.unusedVariables false
set_option linter.unusedSimpArgs false
structure Vtr where
  id : Int
  st : Int
  pk : List Int
  z : Option Addr × Nat
abbrev gL1 (s : Gr) (cells : List Value) (e : TypeId) : List Blk := gL s cells e ++ []
structure Sn where
  vs : List Vtr
  zv : Option Addr × Nat
  cs : List Int
  zc : Option Addr × Nat
theorem get_at {α : Type} {l : List α} {i : Nat} (h : i < l.length) : ∃ x, l[i]? = some x ∧ x ∈ l := ⟨l[i], List.getElem?_eq_getElem h, List.getElem_mem h⟩
theorem get_rd {l : List Int} {i : Nat} {x : Int} (h : l[i]? = some x) : rd l (i : Int) = x := by
  unfold rd; rw [List.getD_eq_getElem?_getD, Int.toNat_natCast, h]; rfl
/-! ### Rising lists -/
theorem top63 {n : Nat} (h : n ≤ maxLen) : n ≤ 9223372036854775807 := by simpa [maxLen] using h
theorem i64s {i n : Nat} (h : i < n) (hn : n ≤ 9223372036854775807) : wrap64 ((i : Int) + 1) = ((i + 1 : Nat) : Int) := by unfold wrap64; omega
def allB (n : Nat) (p : Nat → Bool) : Bool := (List.range n).all p
theorem allB_true {n : Nat} {p : Nat → Bool} (h : ∀ i, i < n → p i = true) : allB n p = true := by
  unfold allB; rw [List.all_eq_true]; intro x hx; exact h x (List.mem_range.1 hx)
theorem allB_false {n : Nat} {p : Nat → Bool} {i : Nat} (h : i < n) (hp : p i = false) : allB n p = false := by
  unfold allB; rw [List.all_eq_false]; exact ⟨i, List.mem_range.2 h, by simp [hp]⟩
/-! ### Formed snapshots -/
theorem take_snoc {α : Type} {l : List α} {i : Nat} {x : α} (h : l[i]? = some x) : l.take (i + 1) = l.take i ++ [x] := by
  rw [List.take_add_one, h]; rfl
end Go.Proofs.Wk
/- Parts of exposures; walks of slices.Values, Collect at them. -/
namespace Go.Proofs.Wk
open Go.RowKit
set_option maxRecDepth 100000
set_option maxHeartbeats 1000000
attribute [local irreducible] Pw OpG
set_option linter.unusedVariables false
set_option linter.unusedSimpArgs false
abbrev Pt := Int × Int
def encP (p : Pt) : List Value := [.int .i64 p.1, .int .u64 p.2]
abbrev ptV (p : Pt) : Value := .agg #[.int .i64 p.1, .int .u64 p.2]
def heldP (_ : Pt) (_ : World) : Prop := True
abbrev PS (l : List Pt) (x : Option Addr × Nat) : World → Prop := Rows (RR encP heldP) 2 l x.1 x.2
abbrev psV (l : List Pt) (x : Option Addr × Nat) : Value := .slice x.1 l.length x.2
def cellsP (l : List Pt) : List Value := l.flatMap encP
theorem cellsP_snoc (l : List Pt) (p : Pt) : cellsP (l ++ [p]) = cellsP l ++ encP p := by unfold cellsP; simp
theorem cellsP_one {l : List Pt} : ∀ v ∈ cellsP l, v.oneCell' = true := fun v hv => by
  obtain ⟨p, _, hp⟩ := List.mem_flatMap.1 hv
  unfold encP at hp
  rcases List.mem_cons.1 hp with rfl | hp
  · rfl
  · rcases List.mem_cons.1 hp with rfl | hp
    · rfl
    · cases hp
theorem cellsP_len (l : List Pt) : (cellsP l).length = l.length * 2 := by
  induction l with
  | nil => rfl
  | cons p r ih => unfold cellsP at *; rw [List.flatMap_cons, List.length_append, ih]; simp [encP]; omega
def gtP (l : List Pt) (i : Nat) : Value := match l[i]? with | some p => ptV p | none => undef
theorem gtP_at {l : List Pt} {i : Nat} {p : Pt} (h : l[i]? = some p) : gtP l i = ptV p := by unfold gtP; rw [h]
theorem Values_ct (l : List Pt) (x : Option Addr × Nat) : Ct Tryz.prog 40 #[psV l x] (fun _ => True) (fun g : Nat => .func (.func 59) #[] #[.pointer (some ⟨g, 0, none⟩)]) Tt (fun g W => W.heap[g]? = some (row [psV l x] 44)) := by
  refine Ct.start Tryz.func40 rfl rfl (slots_of rfl slots1) (fun D w0 => ?_)
  try refine Pw.run ?_
  refine Pw.list (Pw.box rfl rfl rfl rfl (fun g => freeHead ?_))
  repeat (first | refine Pw.runs ?_ | refine Pw.list (Pw.box rfl rfl rfl rfl (fun _ => ?_)) | refine Pw.list (Pw.alloc rfl rfl rfl rfl rfl (fun _ => ?_)))
  exact Pw.ret_ (x := g) (.tmp rfl .nil) rfl trivial (fun w h => fact0 h)
theorem Values_it (l : List Pt) (x : Option Addr × Nat) (g : Nat) (htop : l.length ≤ 9223372036854775807) : Iter Tryz.prog 59 #[.pointer (some ⟨g, 0, none⟩)] l.length (gtP l) (fun W => W.heap[g]? = some (row [psV l x] 44) ∧ PS l x W) := by
  obtain ⟨A, c⟩ := x
  refine Iter.start (n := 2 + (Tryz.f59.ntmps - 2)) Tryz.func59 rfl (fun r => [(0, .func (.yield r) #[] #[]), (1, .pointer (some ⟨g, 0, none⟩))]) (fun r => rfl) (fun r => slots_of rfl slots2) (fun r J hY hst hpre w0 h0 => ?_)
  refine Pw.facts (G' := [fun W => W.heap[g]? = some (row [.slice A l.length c] 44), PS l (A, c)]) (fun w h => allCons (fact0 h).1 (allCons (fact0 h).2 allNil)) ?_
  repeat (first | refine Pw.runs ?_ | refine Pw.list (Pw.box rfl rfl rfl rfl (fun _ => ?_)) | refine Pw.list (Pw.alloc rfl rfl rfl rfl rfl (fun _ => ?_)))
  refine Pw.loopY (NN := l.length) hst hpre (fun i => [(0, .func (.yield r) #[] #[]), (1, .pointer (some ⟨g, 0, none⟩)), (5, .slice A l.length c), (6, .int .i64 l.length), (7, .int .i64 i)]) h0 ⟨rfl, rfl, rfl, rfl, rfl, trivial⟩ ?_
  intro i w1 hi hJ
  refine Pw.facts (G' := [fun W => W.heap[g]? = some (row [.slice A l.length c] 44), PS l (A, c)]) (fun w h => allCons (fact0 h).1 (allCons (fact0 h).2 allNil)) ?_
  try refine Pw.run ?_
  refine Pw.condD rfl (fun c3 => ?_) (fun c3 => ?_)
  · obtain ⟨p, hp, hm⟩ := get_at (show i < l.length by omega)
    try refine Pw.run ?_
    refine Pw.list (Pw.index rfl rfl rfl rfl (Int.natCast_nonneg i) c3 (fun w h => (fact1 h).has (Int.natCast_nonneg i) c3) rfl rfl ?_)
    rintro ad rfl
    refine Pw.list (Pw.loadR p rfl inferInstance rfl (by rw [Int.toNat_natCast]; exact hp) (by kernel_rfl) rfl rfl ?_)
    refine Pw.re (d := 10) (v' := ptV p) rfl rfl ?_
    refine Pw.list (Pw.alloc rfl rfl rfl rfl rfl (fun g4 => ?_))
    refine Pw.list (Pw.sto rfl rfl inferInstance rfl rfl rfl rfl rfl inferInstance rfl ?_)
    refine Pw.nil (Pw.then_ (Pw.seq (Pw.regionY ?_)))
    refine Pw.listI rfl (Pw.pure rfl rfl rfl ?_)
    refine Pw.listI rfl (Pw.ld rfl inferInstance rfl rfl rfl ?_)
    have hY' := hY
    refine Pw.yield hY hst hpre (show i < l.length by omega) hJ rfl (by rw [gtP_at hp]; rfl) rfl rfl ?_
    intro w3 hJ3
    refine Pw.listI rfl (Pw.pure rfl rfl rfl ?_)
    refine Pw.nilI ?_
    try refine Pw.run ?_
    refine Pw.re (d := 7) (v' := .int .i64 ((i + 1 : Nat) : Int)) rfl (congrArg (Value.int .i64) (i64s (by omega) htop)) ?_
    exact Pw.againY hst (i + 1) (by omega) (by omega) hJ3 ⟨rfl, rfl, rfl, rfl, rfl, trivial⟩
  · obtain rfl : i = l.length := by omega
    try refine Pw.run ?_
    exact Pw.retY hst hJ .nil
end Go.Proofs.Wk
/- Parts of exposures: walks of slices.AppendSeq, Collect over slices.Values. -/
namespace Go.Proofs.Wk
open Go.RowKit
set_option maxRecDepth 100000
set_option maxHeartbeats 1000000
attribute [local irreducible] Pw OpG
set_option linter.unusedVariables false
set_option linter.unusedSimpArgs false
theorem enters_values : ∀ args w, (callFunc 59 args).run Tryz.prog w = .ok (.enter 59 args) w := enters_callB (by kernel_rfl)
abbrev vfP (g : Nat) : Value := .func (.func 59) #[] #[.pointer (some ⟨g, 0, none⟩)]
abbrev preP (l : List Pt) (x : Option Addr × Nat) (g : Nat) (W : World) : Prop := W.heap[g]? = some (row [psV l x] 44) ∧ PS l x W
theorem AppendSeq_ct (l : List Pt) (x : Option Addr × Nat) (g : Nat) (hl : l.length ≤ 1000000) :
    CtL Tryz.prog 73 #[.slice none 0 0, vfP g] (preP l x g) (fun q : Gr => gv q l.length) (fun q => gOk q (cellsP l) l.length 2) (fun q => gL q (cellsP l) 93) (fun _ _ => True) := by
  have htop : l.length ≤ 9223372036854775807 := by omega
  refine CtL.startM Tryz.func73 rfl rfl (slots_of rfl slots2) (fun D w0 => ?_)
  try refine Pw.run ?_
  refine Pw.list (Pw.box rfl rfl rfl rfl (fun g2 => ?_))
  repeat (first | refine Pw.runs ?_ | refine Pw.list (Pw.box rfl rfl rfl rfl (fun _ => ?_)) | refine Pw.list (Pw.alloc rfl rfl rfl rfl rfl (fun _ => ?_)))
  refine Pw.rangeFunc (σ := Gr) (τ := Nat) (fun i q => gOk q (cellsP (l.take i)) i 2) (fun i q => ⟨gL q (cellsP (l.take i)) 93 ++ [⟨g2, row [gv q i] 44⟩], [preP l x g]⟩) none (fun _ _ _ => True)
    (fun i q g5 => ⟨[(2, .pointer (some ⟨g2, 0, none⟩)), (5, .pointer (some ⟨g5, 0, none⟩))], gL q (cellsP (l.take i)) 93 ++ [⟨g2, row [gv q i] 44⟩], [fun W => W.heap[g5]? = some (row (encP (l.getD i (0, 0))) 93), preP l x g]⟩)
    rfl enters_values (Values_it l x g htop) rfl ⟨rfl, rfl⟩ rfl (fun w h => h) (fun i q hq w h => fact0 h) ?_ ?_ ?_
  · intro i q T rr hi hq
    obtain ⟨p, hp, _⟩ := get_at hi
    rw [gtP_at hp]
    refine Pw.regionI rfl ?_
    refine Pw.list (Pw.alloc rfl rfl rfl rfl rfl (fun g5 => ?_))
    refine Pw.list (Pw.sto rfl rfl inferInstance rfl rfl rfl rfl rfl inferInstance rfl ?_)
    refine Pw.nil (Pw.then_ (freeHead ?_))
    exact Pw.arriveR g5 trivial ⟨rfl, rfl, trivial⟩ rfl (fun w h => allCons (by rw [List.getD_eq_getElem?_getD, hp]; exact fact0 h) (allTail h))
  · intro i q g5 T rr hi hq _
    obtain ⟨p, hp, _⟩ := get_at hi
    have eD : l.getD i (0, 0) = p := by rw [List.getD_eq_getElem?_getD, hp]; rfl
    dsimp only at hq ⊢
    rw [eD]
    refine Pw.eqL (L' := gL q (cellsP (l.take i)) 93 ++ (⟨g2, row [gv q i] 44⟩ :: T)) (by simp) ?_
    refine Pw.blockI (Pw.regionI rfl ?_)
    refine Pw.list (Pw.ld rfl inferInstance rfl rfl rfl ?_)
    refine Pw.list (Pw.ld rfl inferInstance rfl rfl rfl ?_)
    refine Pw.re (d := 9) (v' := ptV p) rfl rfl ?_
    refine Pw.list (Pw.lit12 rfl rfl rfl rfl rfl rfl rfl rfl rfl (fun g1 => freeHead ?_))
    refine Pw.list (Pw.push (s := q) (m := i) (news := encP p) (L0 := ⟨g2, row [gv q i] 44⟩ :: T) rfl rfl rfl rfl rfl rfl rfl hq rfl (fun u hu => cellsP_one (l := [p]) u (by simpa [cellsP] using hu)) (fun w hs j u hu => by
      have h1 := fact0 hs.all
      rw [add_none, cell_of_blk h1]
      simpa [encP] using hu) (by omega) (by simp only [maxLen]; omega) (by show (i + 1) * 16 ≤ _; omega) rfl rfl (fun q' hq' => ?_))
    refine Pw.list (Pw.sto (vs := [gv q' (i + 1)]) rfl rfl inferInstance (by cases q' <;> rfl) rfl rfl (by cases q' <;> rfl) rfl inferInstance rfl ?_)
    refine Pw.nil ?_
    have e1 : cellsP (l.take (i + 1)) = cellsP (l.take i) ++ encP p := by rw [take_snoc hp, cellsP_snoc]
    refine Pw.inN (Pw.roundEnd ?_)
    refine Pw.eqL (L' := (gL q' (cellsP (l.take (i + 1))) 93 ++ [⟨g2, row [gv q' (i + 1)] 44⟩]) ++ T) (by simp [e1]) ?_
    refine Pw.arriveE (J := fun q => gOk q (cellsP (l.take (i + 1))) (i + 1) 2) (I := fun q => ⟨gL q (cellsP (l.take (i + 1))) 93 ++ [⟨g2, row [gv q (i + 1)] 44⟩], [preP l x g]⟩) q' ?_ rfl ?_
    · show gOk q' _ _ _; rw [e1]; exact hq'
    · exact fun w h => allCons (hv w h) allNil
  · intro q Dm hq
    dsimp only at hq ⊢
    rw [List.take_length] at hq ⊢
    refine Pw.tail (i := 4) rfl ?_
    refine Pw.list (Pw.ld rfl inferInstance rfl rfl rfl ?_)
    refine Pw.list (Pw.pure rfl rfl rfl ?_)
    refine Pw.nil ?_
    exact Pw.retLM (x := q) .head (.cons _ (List.sublist_append_left _ _)) (.tmp rfl .nil) rfl hq (fun w h => trivial)
theorem Collect_ct (l : List Pt) (x : Option Addr × Nat) (g : Nat) (hl : l.length ≤ 1000000) :
    CtL Tryz.prog 57 #[vfP g] (preP l x g) (fun q : Gr => gv q l.length) (fun q => gOk q (cellsP l) l.length 2) (fun q => gL q (cellsP l) 93) (fun _ _ => True) := by
  refine CtL.start Tryz.func57 rfl rfl (slots_of rfl slots1) (fun D w0 => ?_)
  try refine Pw.run ?_
  refine Pw.list (Pw.callL (AppendSeq_ct l x g hl) rfl rfl rfl (by kernel_rfl) rfl rfl (fun w h => fact0 h) ?_)
  intro q hq
  try refine Pw.run ?_
  exact Pw.retL (x := q) (List.sublist_append_left _ _) (.tmp rfl .nil) rfl hq (fun w h => trivial)
end Go.Proofs.Wk
/- Walks of layer 10 (graph): rising, money.Add. -/
namespace Go.Proofs.Wk
open Go.RowKit
set_option maxRecDepth 100000
attribute [local irreducible] Pw OpG
set_option linter.unusedVariables false
set_option linter.unusedSimpArgs false
end Go.Proofs.Wk
/- Money: sums. -/
namespace Go.Proofs.Wk
open Go.RowKit
set_option maxRecDepth 100000
set_option maxHeartbeats 1000000
attribute [local irreducible] Pw OpG
set_option linter.unusedVariables false
set_option linter.unusedSimpArgs false
def U64 (n : Int) : Prop := 0 ≤ n ∧ n ≤ 18446744073709551615
def lsum : List Int → Int
  | [] => 0
  | n :: r => n + lsum r
theorem lsum_append (a b : List Int) : lsum (a ++ b) = lsum a + lsum b := by
  induction a with
  | nil => simp [lsum]
  | cons x r ih => simp only [List.cons_append, lsum, ih]; omega
theorem lsum_snoc (a : List Int) (n : Int) : lsum (a ++ [n]) = lsum a + n := by rw [lsum_append]; simp [lsum]
theorem lsum_nonneg {l : List Int} (h : ∀ n ∈ l, U64 n) : 0 ≤ lsum l := by
  induction l with
  | nil => simp [lsum]
  | cons x r ih =>
    have h1 := (h x (List.mem_cons_self ..)).1
    have h2 := ih (fun v hv => h v (List.mem_cons_of_mem _ hv))
    simp only [lsum]; omega
theorem lsum_take_le {l : List Int} (h : ∀ n ∈ l, U64 n) (k : Nat) : lsum (l.take k) ≤ lsum l := by
  have e : l = l.take k ++ l.drop k := (List.take_append_drop k l).symm
  have h2 := lsum_nonneg (l := l.drop k) (fun n hn => h n (List.mem_of_mem_drop hn))
  have h3 : lsum l = lsum (l.take k) + lsum (l.drop k) := by rw [← lsum_append, List.take_append_drop]
  omega
def sumM (l : List Int) : Int × Int := if lsum l ≤ 18446744073709551615 then (lsum l, 0) else (0, 3)
abbrev U1 (l : List Int) (x : Option Addr × Nat) : World → Prop := Ints .u64 l x.1 x.2
theorem mSum_ct (l : List Int) (x : Option Addr × Nat) (hb : ∀ n ∈ l, U64 n) : Ct Tryz.prog 22 #[sl l x] (U1 l x) (fun _ : Unit => .tuple #[.int .u64 (sumM l).1, .int .i64 (sumM l).2]) Tt (fun _ _ => True) := by
  obtain ⟨A, c⟩ := x
  refine Ct.start Tryz.func22 rfl rfl (slots_of rfl slots1) (fun D w0 => ?_)
  refine Pw.use (p := l.length ≤ maxLen) (fun w h => (fact0 h).top) (fun htop => ?_)
  have htop := top63 htop
  try refine Pw.run ?_
  refine Pw.loopJ (σ := Nat) (fun i => i ≤ l.length ∧ lsum (l.take i) ≤ 18446744073709551615) (fun i => ⟨[(4, .int .u64 (lsum (l.take i))), (7, .slice A l.length c), (8, .int .i64 l.length), (9, .int .i64 i)], [], [Ints .u64 l A c]⟩) (fun i => l.length - i) 0 ⟨Nat.zero_le _, by simp [lsum]⟩ (Pw.enter ⟨rfl, rfl, rfl, rfl, trivial⟩ (fun _ h => h)) ?_
  rintro i ⟨hi, hs⟩
  dsimp only at hi hs ⊢
  try refine Pw.run ?_
  refine Pw.condD rfl (fun c3 => ?_) (fun c3 => ?_)
  · obtain ⟨y, hy, hm⟩ := get_at (show i < l.length by omega)
    have hyb := hb y hm
    unfold U64 at hyb
    have h0 := lsum_nonneg (l := l.take i) (fun n hn => hb n (List.mem_of_mem_take hn))
    have e1 : lsum (l.take (i + 1)) = lsum (l.take i) + y := by rw [take_snoc hy, lsum_snoc]
    try refine Pw.run ?_
    refine Pw.list (Pw.index rfl rfl rfl rfl (Int.natCast_nonneg i) c3 (fun w h => (fact0 h).has (Int.natCast_nonneg i) c3) rfl rfl ?_)
    rintro ad rfl
    refine Pw.list (Pw.load1 rfl rfl (fun w hs => by first | exact (fact0 hs.all).cell (by first | assumption | omega) (by first | assumption | omega) | exact (fact1 hs.all).cell (by first | assumption | omega) (by first | assumption | omega) | exact (fact2 hs.all).cell (by first | assumption | omega) (by first | assumption | omega) | exact (fact3 hs.all).cell (by first | assumption | omega) (by first | assumption | omega)) rfl rfl ?_)
    rw [get_rd hy]
    try refine Pw.run ?_
    refine Pw.condD rfl (fun c4 => ?_) (fun c4 => ?_)
    · rw [wu64] at c4
      have h2 := lsum_take_le hb (i + 1)
      try refine Pw.run ?_
      exact Pw.ret_ (x := ()) (.tmp rfl (.tmp rfl .nil)) (by unfold sumM; rw [if_neg (by omega)]; rfl) trivial (fun w h => by trivial)
    · rw [wu64] at c4
      try refine Pw.run ?_
      refine Pw.re (d := 4) (v' := .int .u64 (lsum (l.take (i + 1)))) rfl (congrArg (Value.int .u64) (by rw [e1]; exact wu (by omega) (by omega))) ?_
      refine Pw.re (d := 9) (v' := .int .i64 ((i + 1 : Nat) : Int)) rfl (congrArg (Value.int .i64) (i64s (by omega) htop)) ?_
      exact Pw.again (i + 1) ⟨by omega, by omega⟩ (by show l.length - (i + 1) < l.length - i; omega) ⟨rfl, rfl, rfl, rfl, trivial⟩ rfl (fun w h => h)
  · try refine Pw.run ?_
    rw [List.take_of_length_le (by omega)] at hs ⊢
    exact Pw.ret_ (x := ()) (.tmp rfl (.tmp rfl .nil)) (by unfold sumM; rw [if_pos hs]; rfl) trivial (fun w h => by trivial)
def addR (a b : Int) : Int × Int := if a + b ≤ 18446744073709551615 then (a + b, 0) else (0, 3)
theorem rAdd_ct (a b : Int) (ha : U64 a) (hb : U64 b) : Ct Tryz.prog 47 #[.int .u64 a, .int .u64 b] (fun _ => True) (fun _ : Unit => .tuple #[.int .u64 (addR a b).1, .int .i64 (addR a b).2]) Tt (fun _ _ => True) := by
  unfold U64 at ha hb
  refine Ct.start Tryz.func47 rfl rfl (slots_of rfl slots2) (fun D w0 => ?_)
  repeat (first | refine Pw.runs ?_ | refine Pw.list (Pw.box rfl rfl rfl rfl (fun _ => ?_)) | refine Pw.list (Pw.alloc rfl rfl rfl rfl rfl (fun _ => ?_)))
  refine Pw.condD rfl (fun c => ?_) (fun c => ?_)
  · rw [wu64] at c
    repeat (first | refine Pw.runs ?_ | refine Pw.list (Pw.box rfl rfl rfl rfl (fun _ => ?_)) | refine Pw.list (Pw.alloc rfl rfl rfl rfl rfl (fun _ => ?_)))
    exact Pw.ret_ (x := ()) (.tmp rfl (.tmp rfl .nil)) (by unfold addR; rw [if_neg (by omega)]; rfl) trivial (fun w h => by trivial)
  · rw [wu64] at c
    repeat (first | refine Pw.runs ?_ | refine Pw.list (Pw.box rfl rfl rfl rfl (fun _ => ?_)) | refine Pw.list (Pw.alloc rfl rfl rfl rfl rfl (fun _ => ?_)))
    refine Pw.re (d := 4) (v' := .int .u64 (a + b)) rfl (congrArg (Value.int .u64) (wu (by omega) (by omega))) ?_
    exact Pw.ret_ (x := ()) (.tmp rfl (.tmp rfl .nil)) (by unfold addR; rw [if_pos (by omega)]; rfl) trivial (fun w h => by trivial)
theorem rSum_ct (l : List Int) (x : Option Addr × Nat) (hb : ∀ n ∈ l, U64 n) : Ct Tryz.prog 28 #[sl l x] (U1 l x) (fun _ : Unit => .tuple #[.int .u64 (sumM l).1, .int .i64 (sumM l).2]) Tt (fun _ _ => True) := by
  obtain ⟨A, c⟩ := x
  refine Ct.start Tryz.func28 rfl rfl (slots_of rfl slots1) (fun D w0 => ?_)
  refine Pw.use (p := l.length ≤ maxLen) (fun w h => (fact0 h).top) (fun htop => ?_)
  have htop := top63 htop
  try refine Pw.run ?_
  refine Pw.loopJ (σ := Nat) (fun i => i ≤ l.length ∧ lsum (l.take i) ≤ 18446744073709551615) (fun i => ⟨[(0, .slice A l.length c), (4, .int .u64 (lsum (l.take i))), (9, .int .i64 l.length), (10, .int .i64 i)], [], [Ints .u64 l A c]⟩) (fun i => l.length - i) 0 ⟨Nat.zero_le _, by simp [lsum]⟩ (Pw.enter ⟨rfl, rfl, rfl, rfl, trivial⟩ (fun _ h => h)) ?_
  rintro i ⟨hi, hs⟩
  dsimp only at hi hs ⊢
  try refine Pw.run ?_
  refine Pw.condD rfl (fun c3 => ?_) (fun c3 => ?_)
  · obtain ⟨y, hy, hm⟩ := get_at (show i < l.length by omega)
    have hyb := hb y hm
    have h0 := lsum_nonneg (l := l.take i) (fun n hn => hb n (List.mem_of_mem_take hn))
    have e1 : lsum (l.take (i + 1)) = lsum (l.take i) + y := by rw [take_snoc hy, lsum_snoc]
    try refine Pw.run ?_
    refine Pw.list (Pw.index rfl rfl rfl rfl (Int.natCast_nonneg i) c3 (fun w h => (fact0 h).has (Int.natCast_nonneg i) c3) rfl rfl ?_)
    rintro ad rfl
    refine Pw.list (Pw.load1 rfl rfl (fun w hs => by first | exact (fact0 hs.all).cell (by first | assumption | omega) (by first | assumption | omega) | exact (fact1 hs.all).cell (by first | assumption | omega) (by first | assumption | omega) | exact (fact2 hs.all).cell (by first | assumption | omega) (by first | assumption | omega) | exact (fact3 hs.all).cell (by first | assumption | omega) (by first | assumption | omega)) rfl rfl ?_)
    rw [get_rd hy]
    try refine Pw.run ?_
    refine Pw.list (Pw.call (rAdd_ct (lsum (l.take i)) y ⟨h0, hs⟩ hyb) rfl rfl rfl (by kernel_rfl) rfl rfl (fun w h => trivial) ?_)
    intro _ _
    by_cases h1 : lsum (l.take i) + y ≤ 18446744073709551615
    · have ea : addR (lsum (l.take i)) y = (lsum (l.take (i + 1)), 0) := by unfold addR; rw [if_pos h1, e1]
      rw [ea]
      repeat (first | refine Pw.runs ?_ | refine Pw.list (Pw.box rfl rfl rfl rfl (fun _ => ?_)) | refine Pw.list (Pw.alloc rfl rfl rfl rfl rfl (fun _ => ?_)))
      refine Pw.re (d := 10) (v' := .int .i64 ((i + 1 : Nat) : Int)) rfl (congrArg (Value.int .i64) (i64s (by omega) htop)) ?_
      exact Pw.again (i + 1) ⟨by omega, by omega⟩ (by show l.length - (i + 1) < l.length - i; omega) ⟨rfl, rfl, rfl, rfl, trivial⟩ rfl (fun w h => allTail h)
    · have ea : addR (lsum (l.take i)) y = (0, 3) := by unfold addR; rw [if_neg h1]
      rw [ea]
      have h2 := lsum_take_le hb (i + 1)
      repeat (first | refine Pw.runs ?_ | refine Pw.list (Pw.box rfl rfl rfl rfl (fun _ => ?_)) | refine Pw.list (Pw.alloc rfl rfl rfl rfl rfl (fun _ => ?_)))
      exact Pw.ret_ (x := ()) (.tmp rfl (.tmp rfl .nil)) (by unfold sumM; rw [if_neg (by omega)]; rfl) trivial (fun w h => by trivial)
  · try refine Pw.run ?_
    rw [List.take_of_length_le (by omega)] at hs ⊢
    exact Pw.ret_ (x := ()) (.tmp rfl (.tmp rfl .nil)) (by unfold sumM; rw [if_pos hs]; rfl) trivial (fun w h => by trivial)
end Go.Proofs.Wk
/- Exposures: walks of money.Sum, pages.Stakes, Formed, Total. -/
namespace Go.Proofs.Wk
open Go.RowKit
set_option maxRecDepth 100000
set_option maxHeartbeats 1000000
attribute [local irreducible] Pw OpG
set_option linter.unusedVariables false
set_option linter.unusedSimpArgs false
structure Ex where
  id : Int
  com : Int
  own : Int
  oth : List Pt
  z : Option Addr × Nat
abbrev exV (x : Ex) : Value := .agg #[.int .i64 x.id, .int .u64 x.com, .int .u64 x.own, psV x.oth x.z]
abbrev exL (x : Ex) : List Value := [.int .i64 x.id, .int .u64 x.com, .int .u64 x.own, psV x.oth x.z]
abbrev exF (x : Ex) : World → Prop := PS x.oth x.z
structure ExW (x : Ex) : Prop where
  com : U64 x.com
  own : U64 x.own
  oth : ∀ p ∈ x.oth, U64 p.2
def stk (l : List Pt) : List Int := l.map Prod.snd
theorem stk_snoc {l : List Pt} {i : Nat} {p : Pt} (h : l[i]? = some p) : stk (l.take (i + 1)) = stk (l.take i) ++ [p.2] := by unfold stk; rw [take_snoc h, List.map_append]; rfl
theorem stk_len (l : List Pt) : (stk l).length = l.length := by unfold stk; rw [List.length_map]
theorem Stakes_ct (l : List Pt) (x : Option Addr × Nat) (hl : l.length ≤ 1000000) :
    CtL Tryz.prog 23 #[psV l x] (PS l x) (fun q : Gr => gv q l.length) (fun q => gOk q ((stk l).map (Value.int .u64)) l.length 1) (fun q => gL q ((stk l).map (Value.int .u64)) 22) (fun _ _ => True) := by
  have htop : l.length ≤ 9223372036854775807 := by omega
  obtain ⟨A, c⟩ := x
  refine CtL.start Tryz.func23 rfl rfl (slots_of rfl slots1) (fun D w0 => ?_)
  try refine Pw.run ?_
  refine Pw.loopJ (σ := Nat × Gr) (fun t => t.1 ≤ l.length ∧ gOk t.2 ((stk (l.take t.1)).map (Value.int .u64)) t.1 1) (fun t => ⟨[(3, gv t.2 t.1), (6, .slice A l.length c), (7, .int .i64 l.length), (8, .int .i64 t.1)], gL1 t.2 ((stk (l.take t.1)).map (Value.int .u64)) 22, [PS l (A, c)]⟩) (fun t => l.length - t.1) (0, none) ⟨Nat.zero_le _, rfl, rfl⟩ (Pw.enter ⟨rfl, rfl, rfl, rfl, trivial⟩ (fun _ h => h)) ?_
  rintro ⟨i, q⟩ ⟨hi, hq⟩
  dsimp only at hi hq ⊢
  try refine Pw.run ?_
  refine Pw.condD rfl (fun c3 => ?_) (fun c3 => ?_)
  · obtain ⟨p, hp, hm⟩ := get_at (show i < l.length by omega)
    try refine Pw.run ?_
    refine Pw.list (Pw.index rfl rfl rfl rfl (Int.natCast_nonneg i) c3 (fun w h => (fact0 h).has (Int.natCast_nonneg i) c3) rfl rfl ?_)
    rintro ad rfl
    refine Pw.list (Pw.loadR p rfl inferInstance rfl (by rw [Int.toNat_natCast]; exact hp) (by kernel_rfl) rfl rfl ?_)
    refine Pw.re (d := 11) (v' := ptV p) rfl rfl ?_
    repeat (first | refine Pw.runs ?_ | refine Pw.list (Pw.box rfl rfl rfl rfl (fun _ => ?_)) | refine Pw.list (Pw.alloc rfl rfl rfl rfl rfl (fun _ => ?_)))
    refine freeHead ?_
    refine Pw.list (Pw.lit1 rfl rfl rfl rfl rfl rfl rfl rfl rfl (fun g1 => freeHead ?_))
    refine Pw.list (Pw.push (s := q) (news := [.int .u64 p.2]) (L0 := []) rfl rfl rfl rfl rfl rfl rfl hq rfl (fun u hu => by rw [List.mem_singleton.1 hu]; rfl) (fun w hs j u hu => by
      have h1 := fact0 hs.all
      rw [add_none, cell_of_blk h1]
      simpa using hu) (by omega) (by simp only [maxLen]; omega) (by show (i + 1) * 8 ≤ _; omega) rfl rfl (fun q' hq' => ?_))
    repeat (first | refine Pw.runs ?_ | refine Pw.list (Pw.box rfl rfl rfl rfl (fun _ => ?_)) | refine Pw.list (Pw.alloc rfl rfl rfl rfl rfl (fun _ => ?_)))
    refine Pw.re (d := 8) (v' := .int .i64 ((i + 1 : Nat) : Int)) rfl (congrArg (Value.int .i64) (i64s (by omega) htop)) ?_
    have e2 : (stk (l.take (i + 1))).map (Value.int .u64) = (stk (l.take i)).map (Value.int .u64) ++ [.int .u64 p.2] := by rw [stk_snoc hp]; simp
    exact Pw.again (i + 1, q') ⟨by omega, by rw [e2]; exact hq'⟩ (by show l.length - (i + 1) < l.length - i; omega) ⟨rfl, rfl, rfl, rfl, trivial⟩ (by rw [e2]) (fun w h => allCons (hv w h) allNil)
  · repeat (first | refine Pw.runs ?_ | refine Pw.list (Pw.box rfl rfl rfl rfl (fun _ => ?_)) | refine Pw.list (Pw.alloc rfl rfl rfl rfl rfl (fun _ => ?_)))
    obtain rfl : i = l.length := by omega
    rw [List.take_length] at hq ⊢
    exact Pw.retL (x := q) (List.sublist_append_left _ _) (.tmp rfl .nil) rfl hq (fun w h => trivial)
/-! ### Formed -/
def dupAt (x : Ex) (i : Nat) : Bool := match x.oth[i]? with | none => true | some p => !decide (p.1 ∈ x.id :: (x.oth.take i).map Prod.fst)
def formX (x : Ex) : Bool := allB x.oth.length (dupAt x) && decide (x.com ≤ 1000000000)
theorem dupAt_eq {x : Ex} {i : Nat} {p : Pt} (h : x.oth[i]? = some p) : dupAt x i = !decide (p.1 ∈ x.id :: (x.oth.take i).map Prod.fst) := by unfold dupAt; rw [h]
theorem pFormed_ct (x : Ex) : Ct Tryz.prog 18 #[exV x] (exF x) (fun _ : Unit => .bool (formX x)) Tt (fun _ _ => True) := by
  obtain ⟨id, com, own, oth, ⟨A, c⟩⟩ := x
  refine Ct.start Tryz.func18 rfl rfl (slots_of rfl slots1) (fun D w0 => ?_)
  refine Pw.use (p := oth.length ≤ maxLen) (fun w h => (fact0 h).top) (fun htop => ?_)
  have htop := top63 htop
  try refine Pw.run ?_
  refine Pw.list (Pw.box rfl rfl rfl rfl (fun g1 => freeHead ?_))
  repeat (first | refine Pw.runs ?_ | refine Pw.list (Pw.box rfl rfl rfl rfl (fun _ => ?_)) | refine Pw.list (Pw.alloc rfl rfl rfl rfl rfl (fun _ => ?_)))
  refine Pw.list (Pw.makeMap rfl rfl (fun g3 => ?_))
  repeat (first | refine Pw.runs ?_ | refine Pw.list (Pw.box rfl rfl rfl rfl (fun _ => ?_)) | refine Pw.list (Pw.alloc rfl rfl rfl rfl rfl (fun _ => ?_)))
  refine Pw.list (Pw.insertNew rfl rfl rfl rfl rfl (fun p hp => by cases hp) .head rfl ?_)
  repeat (first | refine Pw.runs ?_ | refine Pw.list (Pw.box rfl rfl rfl rfl (fun _ => ?_)) | refine Pw.list (Pw.alloc rfl rfl rfl rfl rfl (fun _ => ?_)))
  refine Pw.loopJ (σ := Nat) (fun i => i ≤ oth.length ∧ ∀ j, j < i → dupAt ⟨id, com, own, oth, (A, c)⟩ j = true) (fun i => ⟨[(1, .pointer (some ⟨g1, 0, none⟩)), (3, .map (some g3)), (11, .slice A oth.length c), (12, .int .i64 oth.length), (13, .int .i64 i)], [⟨g3, mapO (setM (id :: (oth.take i).map Prod.fst))⟩], [PS oth (A, c), fun W => W.heap[g1]? = some (row [.int .i64 id, .int .u64 com, .int .u64 own, .slice A oth.length c] 57)]⟩) (fun i => oth.length - i) 0 ⟨Nat.zero_le _, fun j hj => absurd hj (Nat.not_lt_zero j)⟩ (Pw.enter ⟨rfl, rfl, rfl, rfl, rfl, trivial⟩ (fun w h => allCons (hv w h) (allCons (fx h) allNil))) ?_
  rintro i ⟨hi, hj⟩
  dsimp only at hi hj ⊢
  repeat (first | refine Pw.runs ?_ | refine Pw.list (Pw.box rfl rfl rfl rfl (fun _ => ?_)) | refine Pw.list (Pw.alloc rfl rfl rfl rfl rfl (fun _ => ?_)))
  refine Pw.condD rfl (fun c3 => ?_) (fun c3 => ?_)
  · obtain ⟨p, hp, hm⟩ := get_at (show i < oth.length by omega)
    repeat (first | refine Pw.runs ?_ | refine Pw.list (Pw.box rfl rfl rfl rfl (fun _ => ?_)) | refine Pw.list (Pw.alloc rfl rfl rfl rfl rfl (fun _ => ?_)))
    refine Pw.list (Pw.index rfl rfl rfl rfl (Int.natCast_nonneg i) c3 (fun w h => (fact0 h).has (Int.natCast_nonneg i) c3) rfl rfl ?_)
    rintro ad rfl
    refine Pw.list (Pw.loadR p rfl inferInstance rfl (by rw [Int.toNat_natCast]; exact hp) (by kernel_rfl) rfl rfl ?_)
    refine Pw.re (d := 16) (v' := ptV p) rfl rfl ?_
    repeat (first | refine Pw.runs ?_ | refine Pw.list (Pw.box rfl rfl rfl rfl (fun _ => ?_)) | refine Pw.list (Pw.alloc rfl rfl rfl rfl rfl (fun _ => ?_)))
    refine freeHead ?_
    refine Pw.list (Pw.lookup rfl rfl rfl rfl rfl rfl (List.mem_cons_self ..) rfl rfl ?_)
    rw [mval_set]
    repeat (first | refine Pw.runs ?_ | refine Pw.list (Pw.box rfl rfl rfl rfl (fun _ => ?_)) | refine Pw.list (Pw.alloc rfl rfl rfl rfl rfl (fun _ => ?_)))
    refine Pw.condD rfl (fun c4 => ?_) (fun c4 => ?_)
    · repeat (first | refine Pw.runs ?_ | refine Pw.list (Pw.box rfl rfl rfl rfl (fun _ => ?_)) | refine Pw.list (Pw.alloc rfl rfl rfl rfl rfl (fun _ => ?_)))
      exact Pw.ret_ (x := ()) (.tmp rfl .nil) (congrArg Value.bool (by unfold formX; rw [allB_false (i := i) (by simp only; omega) (by rw [dupAt_eq (p := p) hp]; exact congrArg (fun b => !b) (decide_eq_true c4))]; rfl)) trivial (fun w h => by trivial)
    repeat (first | refine Pw.runs ?_ | refine Pw.list (Pw.box rfl rfl rfl rfl (fun _ => ?_)) | refine Pw.list (Pw.alloc rfl rfl rfl rfl rfl (fun _ => ?_)))
    refine Pw.list (Pw.mapNew rfl rfl rfl rfl rfl (fun q hq => ?_) .head rfl ?_)
    · obtain ⟨k, hk, rfl⟩ := List.mem_map.1 hq
      exact fun e => c4 (e ▸ hk)
    repeat (first | refine Pw.runs ?_ | refine Pw.list (Pw.box rfl rfl rfl rfl (fun _ => ?_)) | refine Pw.list (Pw.alloc rfl rfl rfl rfl rfl (fun _ => ?_)))
    refine Pw.re (d := 13) (v' := .int .i64 ((i + 1 : Nat) : Int)) rfl (congrArg (Value.int .i64) (i64s (by omega) htop)) ?_
    exact Pw.again (i + 1) ⟨by omega, fun j h => by
      rcases Nat.lt_or_ge j i with h' | h'
      · exact hj j h'
      · obtain rfl : j = i := by omega
        rw [dupAt_eq (p := p) hp]; exact congrArg (fun b => !b) (decide_eq_false c4)⟩ (by show oth.length - (i + 1) < oth.length - i; omega) ⟨rfl, rfl, rfl, rfl, rfl, trivial⟩ (by show _ = [_]; rw [take_snoc hp, List.map_append, ← List.cons_append]; show _ = [(⟨g3, mapO (setM ((id :: (oth.take i).map Prod.fst) ++ [p.1]))⟩ : Blk)]; rw [← setM_snoc]) (fun w h => allCons (hv w h) (allCons (fx h) allNil))
  · repeat (first | refine Pw.runs ?_ | refine Pw.list (Pw.box rfl rfl rfl rfl (fun _ => ?_)) | refine Pw.list (Pw.alloc rfl rfl rfl rfl rfl (fun _ => ?_)))
    exact Pw.ret_ (x := ()) (.tmp rfl .nil) (congrArg Value.bool (by unfold formX; rw [allB_true (fun j h => hj j (by simp only at h; omega))]; rfl)) trivial (fun w h => by trivial)
/-! ### Total -/
def totX (x : Ex) : Int × Int := sumM (stk x.oth ++ [x.own])
theorem totX_b {x : Ex} (h : ExW x) : ∀ n ∈ stk x.oth ++ [x.own], U64 n := fun n hn => by
  rcases List.mem_append.1 hn with hn | hn
  · obtain ⟨p, hp, rfl⟩ := List.mem_map.1 hn
    exact h.oth p hp
  · rw [List.mem_singleton.1 hn]; exact h.own
theorem pTotal_ct (x : Ex) (hx : ExW x) (hl : x.oth.length ≤ 1000000) : Ct Tryz.prog 37 #[exV x] (exF x) (fun _ : Unit => .tuple #[.int .u64 (totX x).1, .int .i64 (totX x).2]) Tt (fun _ _ => True) := by
  have hb := totX_b hx
  refine Ct.start Tryz.func37 rfl rfl (slots_of rfl slots1) (fun D w0 => ?_)
  try refine Pw.run ?_
  refine Pw.list (Pw.box rfl rfl rfl rfl (fun g1 => freeHead ?_))
  repeat (first | refine Pw.runs ?_ | refine Pw.list (Pw.box rfl rfl rfl rfl (fun _ => ?_)) | refine Pw.list (Pw.alloc rfl rfl rfl rfl rfl (fun _ => ?_)))
  refine Pw.drawnG mixed rfl rfl ?_
  refine Pw.takeP 0 (nb 12 1) rfl rfl rfl rfl (by kernel_rfl) np sf ?_
  refine Pw.takeF 1 (nb 12 3) rfl rfl inferInstance rfl rfl rfl (by kernel_rfl) np sf ?_
  refine Pw.takeP 3 (nb 12 11) rfl rfl rfl rfl (by kernel_rfl) np sf ?_
  refine Pw.takeF 4 (nb 12 27) rfl rfl inferInstance rfl rfl rfl (by kernel_rfl) np sf ?_
  refine Pw.two 2 5 (nb 12 31) (nb 12 59) rfl rfl (by kernel_rfl) ?_ ?_
  · skip
    refine Pw.callL (Stakes_ct x.oth x.z hl) rfl rfl rfl (by kernel_rfl) rfl rfl (fun w h => (hv w h)) ?_
    intro q hq
    refine Pw.held sf ?_
    refine Pw.one 5 (nb 12 63) rfl (by kernel_rfl) ?_
    refine Pw.lit1 rfl rfl rfl rfl rfl rfl rfl rfl rfl (fun g5 => freeHead ?_)
    refine Pw.held sf ?_
    refine Pw.one 6 (nb 12 127) rfl (by kernel_rfl) ?_
    refine Pw.push (s := q) (m := x.oth.length) (news := [.int .u64 x.own]) (L0 := []) rfl rfl rfl rfl rfl rfl rfl hq rfl (fun u hu => by rw [List.mem_singleton.1 hu]; rfl) (fun w hs j u hu => by
      have h1 : w.heap[g5]? = some (row [.int .u64 x.own] 22) := by first | exact fact0 hs.all | exact fact1 hs.all
      rw [add_none, cell_of_blk h1]
      simpa using hu) (by omega) (by simp only [maxLen]; omega) (by show (x.oth.length + 1) * 8 ≤ _; omega) rfl rfl (fun q' hq' => ?_)
    have e2 : (stk x.oth).map (Value.int .u64) ++ [.int .u64 x.own] = (stk x.oth ++ [x.own]).map (Value.int .u64) := by simp
    rw [e2] at hq' ⊢
    refine Pw.freeG hq' (fun A c e hc => ?_)
    refine Pw.re (d := 10) (v' := sl (stk x.oth ++ [x.own]) (A, c)) rfl (by rw [e]; show Value.slice A _ c = Value.slice A (stk x.oth ++ [x.own]).length c; rw [List.length_append, stk_len]; rfl) ?_
    refine Pw.held sf ?_
    refine Pw.one 7 (nb 12 255) rfl (by kernel_rfl) ?_
    refine Pw.call (mSum_ct (stk x.oth ++ [x.own]) (A, c) hb) rfl rfl rfl (by kernel_rfl) rfl rfl (fun w h => ints_of_cells (by rw [List.length_append, stk_len]; exact hc) (by rw [List.length_append, stk_len]; simp only [maxLen, List.length_singleton]; omega) (by first | exact fact0 h | exact fact1 h)) ?_
    intro _ _
    refine Pw.held sf ?_
    refine Pw.takeP 8 (nb 12 511) rfl rfl rfl rfl (by kernel_rfl) np sf ?_
    refine Pw.takeP 9 (nb 12 1023) rfl rfl rfl rfl (by kernel_rfl) np sf ?_
    refine Pw.takeP 10 (nb 12 2047) rfl rfl rfl rfl (by kernel_rfl) np sf ?_
    refine Pw.takeP 11 (nb 12 4095) rfl rfl rfl rfl (by kernel_rfl) np sf ?_
    refine Pw.done (by kernel_rfl) ?_
    try refine Pw.run ?_
    exact Pw.ret_ (x := ()) (.tmp rfl (.tmp rfl .nil)) rfl trivial (fun w h => by trivial)
  · skip
    refine Pw.lit1 rfl rfl rfl rfl rfl rfl rfl rfl rfl (fun g5 => freeHead ?_)
    refine Pw.held sf ?_
    refine Pw.one 2 (nb 12 63) rfl (by kernel_rfl) ?_
    refine Pw.callL (Stakes_ct x.oth x.z hl) rfl rfl rfl (by kernel_rfl) rfl rfl (fun w h => (hv w h)) ?_
    intro q hq
    refine Pw.held sf ?_
    refine Pw.one 6 (nb 12 127) rfl (by kernel_rfl) ?_
    refine Pw.push (s := q) (m := x.oth.length) (news := [.int .u64 x.own]) (L0 := []) rfl rfl rfl rfl rfl rfl rfl hq rfl (fun u hu => by rw [List.mem_singleton.1 hu]; rfl) (fun w hs j u hu => by
      have h1 : w.heap[g5]? = some (row [.int .u64 x.own] 22) := by first | exact fact0 hs.all | exact fact1 hs.all
      rw [add_none, cell_of_blk h1]
      simpa using hu) (by omega) (by simp only [maxLen]; omega) (by show (x.oth.length + 1) * 8 ≤ _; omega) rfl rfl (fun q' hq' => ?_)
    have e2 : (stk x.oth).map (Value.int .u64) ++ [.int .u64 x.own] = (stk x.oth ++ [x.own]).map (Value.int .u64) := by simp
    rw [e2] at hq' ⊢
    refine Pw.freeG hq' (fun A c e hc => ?_)
    refine Pw.re (d := 10) (v' := sl (stk x.oth ++ [x.own]) (A, c)) rfl (by rw [e]; show Value.slice A _ c = Value.slice A (stk x.oth ++ [x.own]).length c; rw [List.length_append, stk_len]; rfl) ?_
    refine Pw.held sf ?_
    refine Pw.one 7 (nb 12 255) rfl (by kernel_rfl) ?_
    refine Pw.call (mSum_ct (stk x.oth ++ [x.own]) (A, c) hb) rfl rfl rfl (by kernel_rfl) rfl rfl (fun w h => ints_of_cells (by rw [List.length_append, stk_len]; exact hc) (by rw [List.length_append, stk_len]; simp only [maxLen, List.length_singleton]; omega) (by first | exact fact0 h | exact fact1 h)) ?_
    intro _ _
    refine Pw.held sf ?_
    refine Pw.takeP 8 (nb 12 511) rfl rfl rfl rfl (by kernel_rfl) np sf ?_
    refine Pw.takeP 9 (nb 12 1023) rfl rfl rfl rfl (by kernel_rfl) np sf ?_
    refine Pw.takeP 10 (nb 12 2047) rfl rfl rfl rfl (by kernel_rfl) np sf ?_
    refine Pw.takeP 11 (nb 12 4095) rfl rfl rfl rfl (by kernel_rfl) np sf ?_
    refine Pw.done (by kernel_rfl) ?_
    try refine Pw.run ?_
    exact Pw.ret_ (x := ()) (.tmp rfl (.tmp rfl .nil)) rfl trivial (fun w h => by trivial)
end Go.Proofs.Wk
/- Walks of layer 10 (graph): Formed. -/
namespace Go.Proofs.Wk
open Go.RowKit
set_option maxRecDepth 100000
set_option maxHeartbeats 1000000
attribute [local irreducible] Pw OpG
set_option linter.unusedVariables false
set_option linter.unusedSimpArgs false
end Go.Proofs.Wk
/- Walks of layer 10 (graph): finding, approving. -/
namespace Go.Proofs.Wk
open Go.RowKit
set_option maxRecDepth 100000
set_option maxHeartbeats 1000000
attribute [local irreducible] Pw OpG
set_option linter.unusedVariables false
set_option linter.unusedSimpArgs false
theorem below_snoc {α : Type} {l : List α} {p : α → Bool} {i : Nat} {x : α} (h : ∀ j, j < i → ∀ y, l[j]? = some y → p y = false) (hx : l[i]? = some x) (hp : p x = false) : ∀ j, j < i + 1 → ∀ y, l[j]? = some y → p y = false := fun j hj y hy => by
  rcases Nat.lt_or_ge j i with h' | h'
  · exact h j h' y hy
  · obtain rfl : j = i := by omega
    rw [hx] at hy; cases hy; exact hp
end Go.Proofs.Wk
/- Exposures: the closure that orders parts; looking for a part. -/
namespace Go.Proofs.Wk
open Go.RowKit
set_option maxRecDepth 100000
set_option maxHeartbeats 1000000
attribute [local irreducible] Pw OpG
set_option linter.unusedVariables false
set_option linter.unusedSimpArgs false
def cmp3 (a b : Int) : Int := if a < b then -1 else if a > b then 1 else 0
theorem isNaNu_ct (a : Int) : Ct Tryz.prog 60 #[.int .u64 a] (fun _ => True) (fun _ : Unit => .bool false) Tt (fun _ _ => True) := by
  refine Ct.start Tryz.func60 rfl rfl (slots_of rfl slots1) (fun D w0 => ?_)
  try refine Pw.run ?_
  exact Pw.ret_ (x := ()) (.tmp rfl .nil) (congrArg Value.bool (decide_eq_false (fun e => e rfl))) trivial (fun w h => by trivial)
theorem isNaNi_ct (a : Int) : Ct Tryz.prog 61 #[.int .i64 a] (fun _ => True) (fun _ : Unit => .bool false) Tt (fun _ _ => True) := by
  refine Ct.start Tryz.func61 rfl rfl (slots_of rfl slots1) (fun D w0 => ?_)
  try refine Pw.run ?_
  exact Pw.ret_ (x := ()) (.tmp rfl .nil) (congrArg Value.bool (decide_eq_false (fun e => e rfl))) trivial (fun w h => by trivial)
theorem Compareu_ct (a b : Int) : Ct Tryz.prog 43 #[.int .u64 a, .int .u64 b] (fun _ => True) (fun _ : Unit => .int .i64 (cmp3 a b)) Tt (fun _ _ => True) := by
  refine Ct.start Tryz.func43 rfl rfl (slots_of rfl slots2) (fun D w0 => ?_)
  try refine Pw.run ?_
  refine Pw.list (Pw.call (isNaNu_ct a) rfl rfl rfl (by kernel_rfl) rfl rfl (fun w h => trivial) ?_)
  intro _ _
  try refine Pw.run ?_
  refine Pw.list (Pw.call (isNaNu_ct b) rfl rfl rfl (by kernel_rfl) rfl rfl (fun w h => trivial) ?_)
  intro _ _
  try refine Pw.run ?_
  refine Pw.condD rfl (fun c1 => ?_) (fun c1 => ?_)
  · try refine Pw.run ?_
    exact Pw.ret_ (x := ()) (.tmp rfl .nil) (by unfold cmp3; rw [if_pos c1]; rfl) trivial (fun w h => by trivial)
  try refine Pw.run ?_
  refine Pw.condD rfl (fun c2 => ?_) (fun c2 => ?_)
  · try refine Pw.run ?_
    exact Pw.ret_ (x := ()) (.tmp rfl .nil) (by unfold cmp3; rw [if_neg c1, if_pos c2]; rfl) trivial (fun w h => by trivial)
  try refine Pw.run ?_
  exact Pw.ret_ (x := ()) (.tmp rfl .nil) (by unfold cmp3; rw [if_neg c1, if_neg c2]; rfl) trivial (fun w h => by trivial)
theorem Comparei_ct (a b : Int) : Ct Tryz.prog 44 #[.int .i64 a, .int .i64 b] (fun _ => True) (fun _ : Unit => .int .i64 (cmp3 a b)) Tt (fun _ _ => True) := by
  refine Ct.start Tryz.func44 rfl rfl (slots_of rfl slots2) (fun D w0 => ?_)
  try refine Pw.run ?_
  refine Pw.list (Pw.call (isNaNi_ct a) rfl rfl rfl (by kernel_rfl) rfl rfl (fun w h => trivial) ?_)
  intro _ _
  try refine Pw.run ?_
  refine Pw.list (Pw.call (isNaNi_ct b) rfl rfl rfl (by kernel_rfl) rfl rfl (fun w h => trivial) ?_)
  intro _ _
  try refine Pw.run ?_
  refine Pw.condD rfl (fun c1 => ?_) (fun c1 => ?_)
  · try refine Pw.run ?_
    exact Pw.ret_ (x := ()) (.tmp rfl .nil) (by unfold cmp3; rw [if_pos c1]; rfl) trivial (fun w h => by trivial)
  try refine Pw.run ?_
  refine Pw.condD rfl (fun c2 => ?_) (fun c2 => ?_)
  · try refine Pw.run ?_
    exact Pw.ret_ (x := ()) (.tmp rfl .nil) (by unfold cmp3; rw [if_neg c1, if_pos c2]; rfl) trivial (fun w h => by trivial)
  try refine Pw.run ?_
  exact Pw.ret_ (x := ()) (.tmp rfl .nil) (by unfold cmp3; rw [if_neg c1, if_neg c2]; rfl) trivial (fun w h => by trivial)
theorem Or_ct (u v : Int) (g : Nat) : Ct Tryz.prog 42 #[.slice (some ⟨g, 0, none⟩) 2 2] (fun W => W.heap[g]? = some (row [.int .i64 u, .int .i64 v] 3)) (fun _ : Unit => .int .i64 (if u ≠ 0 then u else v)) Tt (fun _ _ => True) := by
  refine Ct.start Tryz.func42 rfl rfl (slots_of rfl slots1) (fun D w0 => ?_)
  repeat (first | refine Pw.runs ?_ | refine Pw.list (Pw.box rfl rfl rfl rfl (fun _ => ?_)) | refine Pw.list (Pw.alloc rfl rfl rfl rfl rfl (fun _ => ?_)))
  refine Pw.rounds 3 (Pw.round ?_)
  repeat (first | refine Pw.runs ?_ | refine Pw.list (Pw.box rfl rfl rfl rfl (fun _ => ?_)) | refine Pw.list (Pw.alloc rfl rfl rfl rfl rfl (fun _ => ?_)))
  refine Pw.list (Pw.indexO rfl rfl rfl rfl (Int.le_refl 0) (by show (0 : Int) < 2; omega) rfl rfl ?_)
  repeat (first | refine Pw.runs ?_ | refine Pw.list (Pw.box rfl rfl rfl rfl (fun _ => ?_)) | refine Pw.list (Pw.alloc rfl rfl rfl rfl rfl (fun _ => ?_)))
  refine Pw.condD rfl (fun c1 => ?_) (fun c1 => ?_)
  · repeat (first | refine Pw.runs ?_ | refine Pw.list (Pw.box rfl rfl rfl rfl (fun _ => ?_)) | refine Pw.list (Pw.alloc rfl rfl rfl rfl rfl (fun _ => ?_)))
    exact Pw.ret_ (x := ()) (.tmp rfl .nil) (by rw [if_pos c1]; rfl) trivial (fun w h => by trivial)
  rw [if_neg c1]
  repeat (first | refine Pw.runs ?_ | refine Pw.list (Pw.box rfl rfl rfl rfl (fun _ => ?_)) | refine Pw.list (Pw.alloc rfl rfl rfl rfl rfl (fun _ => ?_)))
  refine Pw.re (d := 8) (v' := .int .i64 1) rfl (congrArg (Value.int .i64) (wi64 (by omega) (by omega))) ?_
  refine Pw.round ?_
  repeat (first | refine Pw.runs ?_ | refine Pw.list (Pw.box rfl rfl rfl rfl (fun _ => ?_)) | refine Pw.list (Pw.alloc rfl rfl rfl rfl rfl (fun _ => ?_)))
  refine Pw.list (Pw.indexO rfl rfl rfl rfl (show (0 : Int) ≤ 1 by omega) (by show (1 : Int) < 2; omega) rfl rfl ?_)
  repeat (first | refine Pw.runs ?_ | refine Pw.list (Pw.box rfl rfl rfl rfl (fun _ => ?_)) | refine Pw.list (Pw.alloc rfl rfl rfl rfl rfl (fun _ => ?_)))
  refine Pw.condD rfl (fun c2 => ?_) (fun c2 => ?_)
  · repeat (first | refine Pw.runs ?_ | refine Pw.list (Pw.box rfl rfl rfl rfl (fun _ => ?_)) | refine Pw.list (Pw.alloc rfl rfl rfl rfl rfl (fun _ => ?_)))
    exact Pw.ret_ (x := ()) (.tmp rfl .nil) rfl trivial (fun w h => by trivial)
  have e : v = 0 := by omega
  subst e
  repeat (first | refine Pw.runs ?_ | refine Pw.list (Pw.box rfl rfl rfl rfl (fun _ => ?_)) | refine Pw.list (Pw.alloc rfl rfl rfl rfl rfl (fun _ => ?_)))
  refine Pw.re (d := 8) (v' := .int .i64 2) rfl (congrArg (Value.int .i64) (wi64 (by omega) (by omega))) ?_
  refine Pw.round ?_
  repeat (first | refine Pw.runs ?_ | refine Pw.list (Pw.box rfl rfl rfl rfl (fun _ => ?_)) | refine Pw.list (Pw.alloc rfl rfl rfl rfl rfl (fun _ => ?_)))
  exact Pw.ret_ (x := ()) (.tmp rfl .nil) rfl trivial (fun w h => by trivial)
def cfP (a b : Pt) : Int := if cmp3 b.2 a.2 ≠ 0 then cmp3 b.2 a.2 else cmp3 a.1 b.1
theorem cfP_ct (a b : Pt) : Ct Tryz.prog 41 #[ptV a, ptV b] (fun _ => True) (fun _ : Unit => .int .i64 (cfP a b)) Tt (fun _ _ => True) := by
  refine Ct.start Tryz.func41 rfl rfl (slots_of rfl slots2) (fun D w0 => ?_)
  try refine Pw.run ?_
  refine Pw.list (Pw.box rfl rfl rfl rfl (fun g1 => freeHead ?_))
  refine Pw.list (Pw.box rfl rfl rfl rfl (fun g2 => freeHead ?_))
  repeat (first | refine Pw.runs ?_ | refine Pw.list (Pw.box rfl rfl rfl rfl (fun _ => ?_)) | refine Pw.list (Pw.alloc rfl rfl rfl rfl rfl (fun _ => ?_)))
  refine Pw.drawnG mixed rfl rfl ?_
  refine Pw.takeP 0 (nb 13 1) rfl rfl rfl rfl (by kernel_rfl) np sf ?_
  refine Pw.takeF 1 (nb 13 3) rfl rfl inferInstance rfl rfl rfl (by kernel_rfl) np sf ?_
  refine Pw.takeP 2 (nb 13 7) rfl rfl rfl rfl (by kernel_rfl) np sf ?_
  refine Pw.takeF 3 (nb 13 15) rfl rfl inferInstance rfl rfl rfl (by kernel_rfl) np sf ?_
  refine Pw.takeP 5 (nb 13 47) rfl rfl rfl rfl (by kernel_rfl) np sf ?_
  refine Pw.takeF 6 (nb 13 111) rfl rfl inferInstance rfl rfl rfl (by kernel_rfl) np sf ?_
  refine Pw.takeP 7 (nb 13 239) rfl rfl rfl rfl (by kernel_rfl) np sf ?_
  refine Pw.takeF 8 (nb 13 495) rfl rfl inferInstance rfl rfl rfl (by kernel_rfl) np sf ?_
  refine Pw.one 4 (nb 13 511) rfl (by kernel_rfl) ?_
  refine Pw.call (Compareu_ct b.2 a.2) rfl rfl rfl (by kernel_rfl) rfl rfl (fun w h => trivial) ?_
  intro _ _
  refine Pw.held sf ?_
  refine Pw.one 9 (nb 13 1023) rfl (by kernel_rfl) ?_
  refine Pw.call (Comparei_ct a.1 b.1) rfl rfl rfl (by kernel_rfl) rfl rfl (fun w h => trivial) ?_
  intro _ _
  refine Pw.held sf ?_
  refine Pw.one 10 (nb 13 2047) rfl (by kernel_rfl) ?_
  refine Pw.lit2 rfl rfl rfl rfl rfl rfl rfl rfl rfl rfl rfl (fun g5 => freeHead ?_)
  refine Pw.held sf ?_
  refine Pw.one 11 (nb 13 4095) rfl (by kernel_rfl) ?_
  refine Pw.call (Or_ct (cmp3 b.2 a.2) (cmp3 a.1 b.1) g5) rfl rfl rfl (by kernel_rfl) rfl rfl (fun w h => (fx h)) ?_
  intro _ _
  refine Pw.held sf ?_
  refine Pw.takeP 12 (nb 13 8191) rfl rfl rfl rfl (by kernel_rfl) np sf ?_
  refine Pw.done (by kernel_rfl) ?_
  try refine Pw.run ?_
  exact Pw.ret_ (x := ()) (.tmp rfl .nil) rfl trivial (fun w h => by trivial)
/-! ### Looking for a part -/
end Go.Proofs.Wk
/- A record of the library's own functions «as» this program numbers them, laid by the kit's tool. No conditions. -/
namespace Go.Proofs
open Go.Shelf
def Tryz.sortP_ren : Go.Shelf.Ren := ⟨fun | 6 => 58 | 15 => 75 | 14 => 74 | 28 => 95 | 29 => 96 | 20 => 87 | 21 => 88 | 22 => 89 | 23 => 90 | 24 => 91 | 25 => 92 | 26 => 93 | 27 => 94 | 46 => 103 | 47 => 104 | 48 => 105 | 49 => 106 | 50 => 107 | 57 => 108 | n => n, fun | 22 => 44 | 24 => 93 | 25 => 103 | 3 => 3 | 39 => 136 | 0 => 0 | 53 => 135 | 55 => 22 | 4 => 4 | 46 => 160 | 45 => 159 | 50 => 164 | 5 => 5 | 9 => 9 | 66 => 173 | 70 => 176 | 76 => 178 | 77 => 179 | n => n, fun | n => n⟩
theorem Tryz.sortP : Go.Proofs.SlLaysF0.n6 Tryz.prog Tryz.sortP_ren := {
  mixed := by kernel_rfl
  f6 := ⟨Tryz.f58.name, by decide, Tryz.func58.trans (congrArg some (by kernel_rfl))⟩
  f14 := ⟨Tryz.f74.name, by decide, Tryz.func74.trans (congrArg some (by kernel_rfl))⟩
  f15 := Tryz.func75.trans (congrArg some (by kernel_rfl))
  f20 := ⟨Tryz.f87.name, by decide, Tryz.func87.trans (congrArg some (by kernel_rfl))⟩
  f21 := ⟨Tryz.f88.name, by decide, Tryz.func88.trans (congrArg some (by kernel_rfl))⟩
  f22 := ⟨Tryz.f89.name, by decide, Tryz.func89.trans (congrArg some (by kernel_rfl))⟩
  f23 := ⟨Tryz.f90.name, by decide, Tryz.func90.trans (congrArg some (by kernel_rfl))⟩
  f24 := ⟨Tryz.f91.name, by decide, Tryz.func91.trans (congrArg some (by kernel_rfl))⟩
  f25 := ⟨Tryz.f92.name, by decide, Tryz.func92.trans (congrArg some (by kernel_rfl))⟩
  f26 := ⟨Tryz.f93.name, by decide, Tryz.func93.trans (congrArg some (by kernel_rfl))⟩
  f27 := ⟨Tryz.f94.name, by decide, Tryz.func94.trans (congrArg some (by kernel_rfl))⟩
  f28 := Tryz.func95.trans (congrArg some (by kernel_rfl))
  f29 := Tryz.func96.trans (congrArg some (by kernel_rfl))
  f46 := ⟨Tryz.f103.name, by decide, Tryz.func103.trans (congrArg some (by kernel_rfl))⟩
  f47 := Tryz.func104.trans (congrArg some (by kernel_rfl))
  f48 := Tryz.func105.trans (congrArg some (by kernel_rfl))
  f49 := ⟨Tryz.f106.name, by decide, Tryz.func106.trans (congrArg some (by kernel_rfl))⟩
  f50 := ⟨Tryz.f107.name, by decide, Tryz.func107.trans (congrArg some (by kernel_rfl))⟩
  f57 := ⟨Tryz.f108.name, by decide, Tryz.func108.trans (congrArg some (by kernel_rfl))⟩
  t0 := Tryz.underlying0
  a0 := Tryz.isAgg0
  z0 := Tryz.sizeOf0
  v0 := Tryz.zeroValue0
  t3 := Tryz.underlying3
  a3 := Tryz.isAgg3
  z3 := Tryz.sizeOf3
  v3 := Tryz.zeroValue3
  t4 := Tryz.underlying4
  a4 := Tryz.isAgg4
  z4 := Tryz.sizeOf4
  v4 := Tryz.zeroValue4
  t5 := Tryz.underlying5
  a5 := Tryz.isAgg5
  z5 := Tryz.sizeOf5
  v5 := Tryz.zeroValue5
  t9 := Tryz.underlying9
  a9 := Tryz.isAgg9
  z9 := Tryz.sizeOf9
  v9 := Tryz.zeroValue9
  t22 := Tryz.underlying44
  a22 := Tryz.isAgg44
  z22 := Tryz.sizeOf44
  v22 := Tryz.zeroValue44
  t25 := Tryz.underlying103
  a25 := Tryz.isAgg103
  z25 := Tryz.sizeOf103
  v25 := Tryz.zeroValue103
  t39 := Tryz.underlying136
  a39 := Tryz.isAgg136
  z39 := Tryz.sizeOf136
  v39 := Tryz.zeroValue136
  t45 := Tryz.underlying159
  a45 := Tryz.isAgg159
  z45 := Tryz.sizeOf159
  v45 := Tryz.zeroValue159
  t46 := Tryz.underlying160
  a46 := Tryz.isAgg160
  z46 := Tryz.sizeOf160
  v46 := Tryz.zeroValue160
  t50 := Tryz.underlying164
  a50 := Tryz.isAgg164
  z50 := Tryz.sizeOf164
  v50 := Tryz.zeroValue164
  t53 := Tryz.underlying135
  a53 := Tryz.isAgg135
  z53 := Tryz.sizeOf135
  v53 := Tryz.zeroValue135
  t55 := Tryz.underlying22
  a55 := Tryz.isAgg22
  z55 := Tryz.sizeOf22
  v55 := Tryz.zeroValue22
  t66 := Tryz.underlying173
  a66 := Tryz.isAgg173
  z66 := Tryz.sizeOf173
  v66 := Tryz.zeroValue173
  t70 := Tryz.underlying176
  a70 := Tryz.isAgg176
  z70 := Tryz.sizeOf176
  v70 := Tryz.zeroValue176
  t76 := Tryz.underlying178
  a76 := Tryz.isAgg178
  z76 := Tryz.sizeOf178
  v76 := Tryz.zeroValue178
  t77 := Tryz.underlying179
  a77 := Tryz.isAgg179
  z77 := Tryz.sizeOf179
  v77 := Tryz.zeroValue179 }
end Go.Proofs
/- Exposures: sorting parts, cutting them into pages: the library's functions. -/
namespace Go.Proofs.Wk
open Go.RowKit Go.Sort
set_option maxRecDepth 100000
set_option maxHeartbeats 1000000
attribute [local irreducible] Pw OpG
set_option linter.unusedVariables false
set_option linter.unusedSimpArgs false
def aheadP (a b : Pt) : Bool := decide (b.2 < a.2) || (decide (a.2 = b.2) && decide (a.1 < b.1))
theorem ltP (a b : Pt) : ltOf cfP a b = aheadP a b := by
  unfold ltOf cfP aheadP cmp3
  by_cases h1 : b.2 < a.2
  · simp [h1]
  · by_cases h2 : b.2 > a.2
    · have : ¬ a.2 = b.2 := by omega
      simp [h1, h2, this]
    · have e : a.2 = b.2 := by omega
      by_cases h3 : a.1 < b.1
      · simp [h1, h2, e, h3]
      · by_cases h4 : a.1 > b.1
        · simp [h1, h2, e, h3, h4]
        · simp [h1, h2, e, h3, h4]
theorem aheadP_iff {a b : Pt} : aheadP a b = true ↔ b.2 < a.2 ∨ (a.2 = b.2 ∧ a.1 < b.1) := by unfold aheadP; simp
theorem swoP : SWO (ltOf cfP) where
  irrefl x := by rw [ltP, ← Bool.not_eq_true, aheadP_iff]; omega
  trans x y z h1 h2 := by rw [ltP, aheadP_iff] at *; omega
  ntrans x y z h1 h2 := by rw [ltP, ← Bool.not_eq_true, aheadP_iff] at *; omega
theorem totP : ∀ x y : Pt, (ltOf cfP) x y = false → (ltOf cfP) y x = false → x = y := fun x y h1 h2 => by
  rw [ltP, ← Bool.not_eq_true, aheadP_iff] at h1 h2
  exact Prod.ext (by omega) (by omega)
def srt (l : List Pt) : List Pt := l.mergeSort fun x y => !(ltOf cfP) y x
theorem srt_len (l : List Pt) : (srt l).length = l.length := List.length_mergeSort l
theorem SortedFunc_ct (l : List Pt) (x : Option Addr × Nat) (g : Nat) (hl : l.length ≤ 1000000) :
    Ct Tryz.prog 39 #[vfP g, .func (.func 41) #[] #[]] (preP l x g) (fun z : Option Addr × Nat => psV (srt l) z) Tt (fun z => PS (srt l) z) := by
  refine Ct.start Tryz.func39 rfl rfl (slots_of rfl slots2) (fun D w0 => ?_)
  try refine Pw.run ?_
  refine Pw.list (Pw.callL (Collect_ct l x g hl) rfl rfl rfl (by kernel_rfl) rfl rfl (fun w h => fact0 h) ?_)
  intro q hq
  try refine Pw.run ?_
  refine Pw.list (Pw.sortK (α := Pt) (q := q) (l := l) (L0 := []) (e := 93) (pre := fun _ => True) Tryz.sortP 2 Tryz.isAgg93 Tryz.sizeOf93 encP (fun _ => rfl) (by omega) (fun x v hv => cellsP_one (l := [x]) v (by simpa [cellsP] using hv)) cfP swoP totP rfl (by kernel_rfl) (by kernel_rfl) rfl rfl rfl hq (fun x y => cfP_ct x y) (fun w h => trivial) (by omega) rfl rfl (fun hq' => ?_))
  try refine Pw.run ?_
  refine Pw.freeG hq' (fun A c e hc => ?_)
  rw [e]
  exact Pw.ret_ (x := (A, c)) (.tmp rfl .nil) (by show Value.slice A l.length c = Value.slice A (srt l).length c; rw [srt_len]) trivial (fun w h => rows_of_cells (fun _ _ => rfl) (fun _ _ => trivial) (by rw [srt_len]; exact hc) (by rw [srt_len]; simp only [maxLen]; omega) (by omega) (fact0 h))
theorem CloneP_ct (l : List Pt) (x : Option Addr × Nat) (hl : l.length ≤ 1000000) : Ct Tryz.prog 46 #[psV l x] (PS l x) (fun z : Option Addr × Nat => psV l z) Tt (fun z => PS l z) := by
  obtain ⟨A, c⟩ := x
  refine Ct.start Tryz.func46 rfl rfl (slots_of rfl slots1) (fun D w0 => ?_)
  obtain _ | ad := A
  · try refine Pw.run ?_
    refine Pw.use (p := l = []) (fun w h => ?_) (fun hm => ?_)
    · rcases l with _ | ⟨y, ys⟩
      · rfl
      · have := (fact0 h).has (i := 0) (by omega) (by simp only [List.length_cons]; omega); cases this
    · subst hm
      exact Pw.ret_ (x := (none, 0)) (.tmp rfl .nil) rfl trivial (fun w h => Rows.nil _ _ _ _ _)
  · try refine Pw.run ?_
    refine Pw.list (Pw.lit0 rfl rfl rfl rfl (fun g => ?_))
    try refine Pw.run ?_
    refine Pw.list (Pw.appendCopyK (news := cellsP l) rfl rfl rfl rfl rfl rfl (cellsP_len l) (fun w hs j u hu => ⟨ad, rfl, (fact0 hs.all).toCells (by omega) j u hu⟩) (by show 0 < 2; omega) (by simp only [maxLen]; omega) (by show l.length * 16 ≤ _; omega) (.head _) rfl rfl (fun g2 cap ex h1 h2 => freeHead (Pw.drop ?_)) (fun h0 => Pw.drop ?_))
    · try refine Pw.run ?_
      exact Pw.ret_ (x := (some ⟨g2, 0, none⟩, cap)) (.tmp rfl .nil) rfl trivial (fun w h => rows_of_row (fact0 h) (fun _ _ => rfl) (fun _ _ => trivial) h1 (by simp only [maxLen]; omega) (by omega))
    · have hnil : l = [] := List.eq_nil_of_length_eq_zero h0
      subst hnil
      try refine Pw.run ?_
      exact Pw.ret_ (x := (some ⟨g, 0, none⟩, 0)) (.tmp rfl .nil) rfl trivial (fun w h => Rows.nil _ _ _ _ _)
/-! ### Chunks -/
def nCh (k n : Nat) : Nat := (n + k - 1) / k
theorem nCh_lt {k n i : Nat} (hk : 0 < k) : i < nCh k n ↔ i * k < n := by
  unfold nCh
  rw [show (i < (n + k - 1) / k) ↔ i + 1 ≤ (n + k - 1) / k from Iff.rfl, Nat.le_div_iff_mul_le hk, Nat.add_mul, Nat.one_mul]
  omega
def chunkAt (k : Nat) (l : List Pt) (i : Nat) : List Pt := (l.drop (i * k)).take k
abbrev fcP (g1 g2 : Nat) : Value := .func (.func 62) #[] #[.pointer (some ⟨g1, 0, none⟩), .pointer (some ⟨g2, 0, none⟩)]
abbrev preC (l : List Pt) (x : Option Addr × Nat) (k : Int) (g1 g2 : Nat) (W : World) : Prop := W.heap[g1]? = some (row [psV l x] 44) ∧ W.heap[g2]? = some (row [.int .i64 k] 3) ∧ PS l x W
theorem Chunk_ct (l : List Pt) (x : Option Addr × Nat) (k : Int) (hk : 1 ≤ k) : Ct Tryz.prog 45 #[psV l x, .int .i64 k] (PS l x) (fun g : Nat × Nat => fcP g.1 g.2) Tt (fun g => preC l x k g.1 g.2) := by
  refine Ct.start Tryz.func45 rfl rfl (slots_of rfl slots2) (fun D w0 => ?_)
  try refine Pw.run ?_
  refine Pw.list (Pw.box rfl rfl rfl rfl (fun g1 => freeHead ?_))
  refine Pw.list (Pw.box rfl rfl rfl rfl (fun g2 => freeHead ?_))
  repeat (first | refine Pw.runs ?_ | refine Pw.list (Pw.box rfl rfl rfl rfl (fun _ => ?_)) | refine Pw.list (Pw.alloc rfl rfl rfl rfl rfl (fun _ => ?_)))
  refine Pw.condD rfl (fun c1 => absurd c1 (by omega)) (fun c1 => ?_)
  repeat (first | refine Pw.runs ?_ | refine Pw.list (Pw.box rfl rfl rfl rfl (fun _ => ?_)) | refine Pw.list (Pw.alloc rfl rfl rfl rfl rfl (fun _ => ?_)))
  exact Pw.ret_ (x := (g1, g2)) (.tmp rfl .nil) rfl trivial (fun w h => ⟨fact1 h, fact0 h, fact2 h⟩)
def endC (k n i : Nat) : Nat := i * k + min k (n - i * k)
theorem endC_len {k : Nat} {l : List Pt} {i : Nat} : (chunkAt k l i).length = endC k l.length i - i * k := by
  unfold chunkAt endC; rw [List.length_take, List.length_drop]; omega
def chunkV (k : Nat) (l : List Pt) (A : Option Addr) (i : Nat) : Value := .slice (cutA A (i * k) (endC k l.length i) 2) (chunkAt k l i).length (chunkAt k l i).length
theorem chunk_PS {l : List Pt} {A : Option Addr} {c k i : Nat} {W : World} (h : PS l (A, c) W) (hk : 0 < k) (hi : i < nCh k l.length) : PS (chunkAt k l i) (cutA A (i * k) (endC k l.length i) 2, (chunkAt k l i).length) W := by
  have h1 := h.cut3 (i * k) (endC k l.length i)
  have hlt := (nCh_lt hk).1 hi
  have e : (l.drop (i * k)).take (endC k l.length i - i * k) = chunkAt k l i := by
    unfold chunkAt endC
    rw [show i * k + min k (l.length - i * k) - i * k = min k (l.length - i * k) by omega]
    rw [← List.length_drop, ← List.take_take, List.take_of_length_le (Nat.le_refl _)]
  rw [e] at h1
  exact h1.cap (Nat.le_refl _)
theorem Chunk_it (l : List Pt) (A : Option Addr) (c k : Nat) (g1 g2 : Nat) (hk : 0 < k) (hl : l.length ≤ 1000000) (hs : l = [] ∨ k ≤ 1000000) (hk63 : k ≤ 9223372036854775807) : Iter Tryz.prog 62 #[.pointer (some ⟨g1, 0, none⟩), .pointer (some ⟨g2, 0, none⟩)] (nCh k l.length) (chunkV k l A) (preC l (A, c) k g1 g2) := by
  refine Iter.start (n := 3 + (Tryz.f62.ntmps - 3)) Tryz.func62 rfl (fun r => [(0, .func (.yield r) #[] #[]), (1, .pointer (some ⟨g1, 0, none⟩)), (2, .pointer (some ⟨g2, 0, none⟩))]) (fun r => rfl) (fun r => slots_of rfl slots3) (fun r J hY hst hpre w0 h0 => ?_)
  repeat (first | refine Pw.runs ?_ | refine Pw.list (Pw.box rfl rfl rfl rfl (fun _ => ?_)) | refine Pw.list (Pw.alloc rfl rfl rfl rfl rfl (fun _ => ?_)))
  refine Pw.loopY (NN := nCh k l.length) hst hpre (fun i => [(0, .func (.yield r) #[] #[]), (1, .pointer (some ⟨g1, 0, none⟩)), (2, .pointer (some ⟨g2, 0, none⟩)), (4, .int .i64 ((i * k : Nat) : Int))]) h0 ⟨rfl, rfl, rfl, by simp; rfl, trivial⟩ ?_
  intro i w1 hi hJ
  refine Pw.facts (G' := [fun W => W.heap[g1]? = some (row [.slice A l.length c] 44), fun W => W.heap[g2]? = some (row [.int .i64 k] 3), PS l (A, c)]) (fun w h => allCons (fact0 h).1 (allCons (fact0 h).2.1 (allCons (fact0 h).2.2 allNil))) ?_
  refine Pw.use (p := l.length ≤ c) (fun w h => (fact2 h).le) (fun hlc => ?_)
  repeat (first | refine Pw.runs ?_ | refine Pw.list (Pw.box rfl rfl rfl rfl (fun _ => ?_)) | refine Pw.list (Pw.alloc rfl rfl rfl rfl rfl (fun _ => ?_)))
  refine Pw.condD rfl (fun c3 => ?_) (fun c3 => ?_)
  · have hlt : i * k < l.length := by omega
    have hiN : i < nCh k l.length := (nCh_lt hk).2 hlt
    have hkb : k ≤ 1000000 := by
      rcases hs with rfl | h
      · simp at hlt
      · exact h
    have hEnd : endC k l.length i = i * k + min k (l.length - i * k) := rfl
    refine Pw.skip (Pw.then_ (Pw.seq (Pw.block (Pw.seq ?_))))
    refine Pw.drawnG mixed rfl rfl ?_
    refine Pw.takeF 0 (nb 7 1) rfl rfl inferInstance rfl rfl rfl (by kernel_rfl) np sf ?_
    refine Pw.takeF 1 (nb 7 3) rfl rfl inferInstance rfl rfl rfl (by kernel_rfl) np sf ?_
    refine Pw.takeP 2 (nb 7 7) rfl rfl rfl rfl (by kernel_rfl) np sf ?_
    refine Pw.takeCutA 3 (nb 7 15) rfl rfl rfl rfl rfl (by first | assumption | omega) (by first | assumption | omega) (by first | assumption | omega) rfl rfl (by kernel_rfl) np sf ?_
    refine Pw.takeP 4 (nb 7 31) rfl rfl rfl rfl (by kernel_rfl) np sf ?_
    refine Pw.takeMin 5 (nb 7 63) rfl rfl rfl rfl rfl (by kernel_rfl) np sf ?_
    refine Pw.takeP 6 (nb 7 127) rfl rfl rfl rfl (by kernel_rfl) np sf ?_
    refine Pw.done (by kernel_rfl) ?_
    have e5 : (if ((l.length - (((i * k : Nat) : Int)).toNat : Nat) : Int) < (k : Int) then ((l.length - (((i * k : Nat) : Int)).toNat : Nat) : Int) else (k : Int)) = ((min k (l.length - i * k) : Nat) : Int) := by
      rw [Int.toNat_natCast]; split <;> omega
    refine Pw.re (d := 5) (v' := .int .i64 ((min k (l.length - i * k) : Nat) : Int)) rfl (congrArg (Value.int .i64) e5) ?_
    refine Pw.then_ (Pw.seq (Pw.regionY ?_))
    refine Pw.listI rfl (Pw.pure rfl rfl rfl ?_)
    refine Pw.listI rfl (Pw.ld rfl inferInstance rfl rfl rfl ?_)
    refine Pw.listI rfl (Pw.pure rfl rfl rfl (Pw.listI rfl (Pw.pure rfl rfl rfl (Pw.listI rfl (Pw.pure rfl rfl rfl (Pw.listI rfl (Pw.pure rfl rfl rfl (Pw.listI rfl (Pw.pure rfl rfl rfl (Pw.listI rfl (Pw.pure rfl rfl rfl (Pw.listI rfl (Pw.pure rfl rfl rfl ?_)))))))))))))
    have ew : wrap64 (((i * k : Nat) : Int) + ((min k (l.length - i * k) : Nat) : Int)) = ((endC k l.length i : Nat) : Int) := by rw [wi64 (by omega) (by omega)]; omega
    refine Pw.re (d := 24) (v' := .int .i64 ((endC k l.length i : Nat) : Int)) rfl (congrArg (Value.int .i64) ew) ?_
    refine Pw.re (d := 27) (v' := .int .i64 ((endC k l.length i : Nat) : Int)) rfl (congrArg (Value.int .i64) ew) ?_
    refine Pw.listI rfl (Pw.cut3 rfl rfl rfl rfl rfl rfl (by omega) (by omega) (by omega) rfl rfl ?_)
    refine Pw.re (d := 28) (v' := chunkV k l A i) rfl (by unfold chunkV; rw [endC_len, Int.toNat_natCast, Int.toNat_natCast]; rfl) ?_
    refine Pw.yield hY hst hpre hiN hJ rfl rfl rfl rfl ?_
    intro w3 hJ3
    refine Pw.listI rfl (Pw.pure rfl rfl rfl ?_)
    refine Pw.nilI ?_
    refine Pw.facts (G' := [fun W => W.heap[g1]? = some (row [.slice A l.length c] 44), fun W => W.heap[g2]? = some (row [.int .i64 k] 3), PS l (A, c)]) (fun w h => allCons (fact0 h).1 (allCons (fact0 h).2.1 (allCons (fact0 h).2.2 allNil))) ?_
    repeat (first | refine Pw.runs ?_ | refine Pw.list (Pw.box rfl rfl rfl rfl (fun _ => ?_)) | refine Pw.list (Pw.alloc rfl rfl rfl rfl rfl (fun _ => ?_)))
    refine Pw.re (d := 4) (v' := .int .i64 (((i + 1) * k : Nat) : Int)) rfl (congrArg (Value.int .i64) (by rw [Nat.add_mul, Nat.one_mul]; rw [wi64 (by omega) (by omega)]; omega)) ?_
    exact Pw.againY hst (i + 1) (by omega) (by omega) hJ3 ⟨rfl, rfl, rfl, rfl, trivial⟩
  · try refine Pw.run ?_
    obtain rfl : i = nCh k l.length := by
      rcases Nat.lt_or_ge i (nCh k l.length) with h | h
      · have := (nCh_lt hk).1 h; omega
      · omega
    exact Pw.retY hst hJ .nil
end Go.Proofs.Wk
/- Exposures: pages.Pages walked. -/
namespace Go.Proofs.Wk
open Go.RowKit Go.Sort
set_option maxRecDepth 100000
set_option maxHeartbeats 2000000
attribute [local irreducible] Pw OpG
set_option linter.unusedVariables false
set_option linter.unusedSimpArgs false
def chunks (k : Nat) (l : List Pt) : List (List Pt) := (List.range (nCh k l.length)).map (chunkAt k l)
theorem chunks_len {k : Nat} {l : List Pt} : (chunks k l).length = nCh k l.length := by unfold chunks; rw [List.length_map, List.length_range]
theorem nCh_le {k n : Nat} (hk : 0 < k) : nCh k n ≤ n := by
  rcases Nat.lt_or_ge n (nCh k n) with h | h
  · have h1 := (nCh_lt hk).1 h
    have h2 : n ≤ n * k := Nat.le_mul_of_pos_right n hk
    omega
  · exact h
def pagesS (x : Ex) (k : Nat) : List (List Pt) := ((x.id, x.own) :: (srt x.oth).take k) :: chunks k ((srt x.oth).drop k)
def pagesR (x : Ex) (size : Int) : List (List Pt) × Int := if size < 1 ∨ formX x = false then ([], 1) else if (totX x).2 ≠ 0 then ([], (totX x).2) else (pagesS x size.toNat, 0)
abbrev Pg := List Pt × (Option Addr × Nat)
abbrev pgV (p : Pg) : Value := psV p.1 p.2
def encPg (p : Pg) : List Value := [pgV p]
def heldPg (p : Pg) : World → Prop := PS p.1 p.2
abbrev PGS (l : List Pg) (x : Option Addr × Nat) : World → Prop := Rows (RR encPg heldPg) 1 l x.1 x.2
def cellsPg (l : List Pg) : List Value := l.flatMap encPg
theorem cellsPg_len (l : List Pg) : (cellsPg l).length = l.length * 1 := by
  induction l with
  | nil => rfl
  | cons p r ih => unfold cellsPg at *; rw [List.flatMap_cons, List.length_append, ih]; simp [encPg]; omega
abbrev HeldAll (l : List Pg) (W : World) : Prop := ∀ p ∈ l, PS p.1 p.2 W
theorem sumM_err {l : List Int} : (sumM l).2 = 0 ∨ (sumM l).2 = 3 := by unfold sumM; split <;> simp
theorem enters_chunk : ∀ args w, (callFunc 62 args).run Tryz.prog w = .ok (.enter 62 args) w := enters_callB (by kernel_rfl)
section
variable {α : Type} {a b c : α}
theorem perm3a : [a, b, c].Perm [a, b, c] := .refl _
theorem perm3b : [b, a, c].Perm [a, b, c] := .swap ..
theorem perm3c : [a, c, b].Perm [a, b, c] := .cons _ (.swap ..)
theorem perm3d : [b, c, a].Perm [a, b, c] := (List.Perm.cons b (.swap a c [])).trans (.swap ..)
theorem perm3e : [c, a, b].Perm [a, b, c] := (List.Perm.swap a c [b]).trans (.cons _ (.swap ..))
theorem perm3f : [c, b, a].Perm [a, b, c] := (List.Perm.swap b c [a]).trans perm3d
end
theorem pPages_ct (x : Ex) (hx : ExW x) (hl : x.oth.length ≤ 1000) (size : Int) (hs : size ≤ 9223372036854775807) :
    Ct Tryz.prog 21 #[exV x, .int .i64 size] (exF x) (fun r : List Pg × (Option Addr × Nat) => .tuple #[.slice r.2.1 (pagesR x size).1.length r.2.2, .int .i64 (pagesR x size).2]) (fun r => r.1.map Prod.fst = (pagesR x size).1) (fun r => PGS r.1 r.2) := by
  refine Ct.startM Tryz.func21 rfl rfl (slots_of rfl slots2) (fun D w0 => ?_)
  try refine Pw.run ?_
  refine Pw.list (Pw.box rfl rfl rfl rfl (fun g2 => freeHead ?_))
  repeat (first | refine Pw.runs ?_ | refine Pw.list (Pw.box rfl rfl rfl rfl (fun _ => ?_)) | refine Pw.list (Pw.alloc rfl rfl rfl rfl rfl (fun _ => ?_)))
  refine Pw.split 14 rfl (fun c1 => ?_) (fun c1 => ?_)
  · have e : pagesR x size = ([], 1) := if_pos (.inl c1)
    repeat (first | refine Pw.runs ?_ | refine Pw.list (Pw.box rfl rfl rfl rfl (fun _ => ?_)) | refine Pw.list (Pw.alloc rfl rfl rfl rfl rfl (fun _ => ?_)))
    exact Pw.retMo (x := ([], (none, 0))) (.tmp rfl (.tmp rfl .nil)) (by rw [e]; rfl) (by rw [e]; rfl) (fun w h => Rows.nil _ _ _ _ _)
  repeat (first | refine Pw.runs ?_ | refine Pw.list (Pw.box rfl rfl rfl rfl (fun _ => ?_)) | refine Pw.list (Pw.alloc rfl rfl rfl rfl rfl (fun _ => ?_)))
  refine Pw.list (Pw.call (pFormed_ct x) rfl rfl rfl (by kernel_rfl) rfl rfl (fun w h => (hv w h)) ?_)
  intro _ _
  cases hF : formX x
  · have e : pagesR x size = ([], 1) := if_pos (.inr hF)
    repeat (first | refine Pw.runs ?_ | refine Pw.list (Pw.box rfl rfl rfl rfl (fun _ => ?_)) | refine Pw.list (Pw.alloc rfl rfl rfl rfl rfl (fun _ => ?_)))
    exact Pw.retMo (x := ([], (none, 0))) (.tmp rfl (.tmp rfl .nil)) (by rw [e]; rfl) (by rw [e]; rfl) (fun w h => Rows.nil _ _ _ _ _)
  repeat (first | refine Pw.runs ?_ | refine Pw.list (Pw.box rfl rfl rfl rfl (fun _ => ?_)) | refine Pw.list (Pw.alloc rfl rfl rfl rfl rfl (fun _ => ?_)))
  refine Pw.list (Pw.call (pTotal_ct x hx (by omega)) rfl rfl rfl (by kernel_rfl) rfl rfl (fun w h => (hv w h)) ?_)
  intro _ _
  repeat (first | refine Pw.runs ?_ | refine Pw.list (Pw.box rfl rfl rfl rfl (fun _ => ?_)) | refine Pw.list (Pw.alloc rfl rfl rfl rfl rfl (fun _ => ?_)))
  refine Pw.condD rfl (fun c2 => ?_) (fun c2 => ?_)
  · have e : pagesR x size = ([], (totX x).2) := by unfold pagesR; rw [if_neg (by rw [hF]; simp; omega), if_pos c2]
    repeat (first | refine Pw.runs ?_ | refine Pw.list (Pw.box rfl rfl rfl rfl (fun _ => ?_)) | refine Pw.list (Pw.alloc rfl rfl rfl rfl rfl (fun _ => ?_)))
    exact Pw.retMo (x := ([], (none, 0))) (.tmp rfl (.tmp rfl .nil)) (by rw [e]; rfl) (by rw [e]; rfl) (fun w h => Rows.nil _ _ _ _ _)
  have eR : pagesR x size = (pagesS x size.toNat, 0) := by unfold pagesR; rw [if_neg (by rw [hF]; simp; omega), if_neg c2]
  rw [eR]
  obtain ⟨k, rfl⟩ : ∃ k : Nat, size = k := ⟨size.toNat, by omega⟩
  rw [Int.toNat_natCast]
  have hk : 1 ≤ k := by omega
  clear eR c1 c2
  repeat (first | refine Pw.runs ?_ | refine Pw.list (Pw.box rfl rfl rfl rfl (fun _ => ?_)) | refine Pw.list (Pw.alloc rfl rfl rfl rfl rfl (fun _ => ?_)))
  refine Pw.list (Pw.call (Values_ct x.oth x.z) rfl rfl rfl (by kernel_rfl) rfl rfl (fun w h => trivial) ?_)
  intro gv1 _
  repeat (first | refine Pw.runs ?_ | refine Pw.list (Pw.box rfl rfl rfl rfl (fun _ => ?_)) | refine Pw.list (Pw.alloc rfl rfl rfl rfl rfl (fun _ => ?_)))
  refine Pw.list (Pw.call (SortedFunc_ct x.oth x.z gv1 (by omega)) rfl rfl rfl (by kernel_rfl) rfl rfl (fun w h => ⟨(fx h), (hv w h)⟩) ?_)
  intro zs _
  obtain ⟨A, c⟩ := zs
  have hsl := srt_len x.oth
  obtain ⟨l, hl0⟩ : ∃ l, srt x.oth = l := ⟨_, rfl⟩
  rw [hl0] at hsl ⊢
  have hS : pagesS x k = ((x.id, x.own) :: l.take k) :: chunks k (l.drop k) := by unfold pagesS; rw [hl0]
  rw [hS]
  repeat (first | refine Pw.runs ?_ | refine Pw.list (Pw.box rfl rfl rfl rfl (fun _ => ?_)) | refine Pw.list (Pw.alloc rfl rfl rfl rfl rfl (fun _ => ?_)))
  refine Pw.list (Pw.bmin rfl rfl rfl rfl ?_)
  repeat (first | refine Pw.runs ?_ | refine Pw.list (Pw.box rfl rfl rfl rfl (fun _ => ?_)) | refine Pw.list (Pw.alloc rfl rfl rfl rfl rfl (fun _ => ?_)))
  refine Pw.use (p := l.length ≤ c) (fun w h => (fact0 h).le) (fun hlc => ?_)
  obtain ⟨m, hm⟩ : ∃ m, m = min k l.length := ⟨_, rfl⟩
  have e9 : (if ((l.length : Nat) : Int) < (k : Int) then ((l.length : Nat) : Int) else (k : Int)) = (m : Int) := by split <;> omega
  refine Pw.re (d := 9) (v' := .int .i64 (m : Int)) rfl (congrArg (Value.int .i64) e9) ?_
  refine Pw.facts (G' := [PS l (A, c), fun W => W.heap[g2]? = some (row (exL x) 57)]) (fun w h => allCons (hv w h) (allCons (fx h) allNil)) ?_
  have hml : m ≤ l.length := by omega
  have em : l.take k = l.take m := by
    rw [hm, ← List.take_take, List.take_length]
  rw [em]
  have ed : l.drop k = l.drop m := by
    rcases Nat.le_total k l.length with h | h
    · rw [show m = k by omega]
    · rw [List.drop_of_length_le h, List.drop_of_length_le (by omega)]
  rw [ed]
  refine (Pw.joinF (σ := Nat × Nat × (Option Addr × Nat)) (fun _ => True) (fun s => ⟨[(1, .int .i64 k), (2, .pointer (some ⟨g2, 0, none⟩)), (8, psV l (A, c)), (9, .int .i64 m), (10, .pointer (some ⟨s.1, 0, none⟩))], [⟨s.2.1, row [psV ((x.id, x.own) :: l.take m) s.2.2] 44⟩, ⟨s.1, row [.slice (some ⟨s.2.1, 0, none⟩) 1 1] 64⟩], [PS ((x.id, x.own) :: l.take m) s.2.2, PS l (A, c)]⟩) ?_ ?_)
  · rcases Nat.eq_zero_or_pos m with hm0 | hm0
    · subst hm0
      have et : (x.id, x.own) :: l.take 0 = [(x.id, x.own)] := by rw [List.take_zero]
      rw [et]
      refine Pw.drawnG mixed rfl rfl ?_
      refine Pw.takeP 0 (nb 13 1) rfl rfl rfl rfl (by kernel_rfl) np sf ?_
      refine Pw.takeF 1 (nb 13 3) rfl rfl inferInstance rfl rfl rfl (by kernel_rfl) np sf ?_
      refine Pw.takeP 2 (nb 13 7) rfl rfl rfl rfl (by kernel_rfl) np sf ?_
      refine Pw.takeF 3 (nb 13 15) rfl rfl inferInstance rfl rfl rfl (by kernel_rfl) np sf ?_
      refine Pw.takeBuild 4 (nb 13 31) rfl rfl rfl rfl rfl (by kernel_rfl) np sf ?_
      refine Pw.takeP 6 (nb 13 95) rfl rfl rfl rfl (by kernel_rfl) np sf ?_
      refine Pw.takeP 7 (nb 13 223) rfl rfl rfl rfl (by kernel_rfl) np sf ?_
      refine Pw.takeCut 8 (nb 13 479) rfl rfl rfl rfl rfl (by first | assumption | omega) (by first | assumption | omega) rfl rfl (by kernel_rfl) np sf ?_
      refine Pw.two 5 11 (nb 13 511) (nb 13 2527) rfl rfl (by kernel_rfl) ?_ ?_
      · skip
        refine Pw.lit12 rfl rfl rfl rfl rfl rfl rfl rfl rfl (fun g5 => ?_)
        refine Pw.held sf ?_
        refine Pw.two 9 11 (nb 13 1023) (nb 13 2559) rfl rfl (by kernel_rfl) ?_ ?_
        · skip
          refine Pw.appendE rfl rfl rfl rfl (Nat.le_refl _) rfl rfl ?_
          refine Pw.held sf ?_
          refine Pw.two 10 11 (nb 13 2047) (nb 13 3071) rfl rfl (by kernel_rfl) ?_ ?_
          · skip
            refine Pw.lit1 rfl rfl rfl rfl rfl rfl rfl rfl rfl (fun g10 => ?_)
            refine Pw.held sf ?_
            refine Pw.one 11 (nb 13 4095) rfl (by kernel_rfl) ?_
            refine Pw.alloc rfl rfl rfl rfl rfl (fun g11 => ?_)
            refine Pw.held sf ?_
            refine Pw.one 12 (nb 13 8191) rfl (by kernel_rfl) ?_
            refine Pw.sto rfl rfl inferInstance rfl rfl rfl rfl rfl inferInstance rfl ?_
            refine Pw.held sf ?_
            refine Pw.done (by kernel_rfl) ?_
            refine Pw.perm (L' := [⟨g5, row [.int .i64 x.id, .int .u64 x.own] 93⟩, ⟨g10, row [.slice (some ⟨g5, 0, none⟩) 1 1] 44⟩, ⟨g11, row [.slice (some ⟨g10, 0, none⟩) 1 1] 64⟩]) (by first | exact perm3a | exact perm3b | exact perm3c | exact perm3d | exact perm3e | exact perm3f) (freeHead ?_)
            exact Pw.arrive (g11, g10, (some ⟨g5, 0, none⟩, 1)) trivial ⟨rfl, rfl, rfl, rfl, rfl, trivial⟩ rfl (fun w h => allCons (rows_of_row (ex := []) (fact0 h) (fun _ _ => rfl) (fun _ _ => trivial) (Nat.le_refl _) (by simp [maxLen]) (by omega)) (allCons (hv w h) allNil))
          · skip
            refine Pw.alloc rfl rfl rfl rfl rfl (fun g11 => ?_)
            refine Pw.held sf ?_
            refine Pw.one 10 (nb 13 4095) rfl (by kernel_rfl) ?_
            refine Pw.lit1 rfl rfl rfl rfl rfl rfl rfl rfl rfl (fun g10 => ?_)
            refine Pw.held sf ?_
            refine Pw.one 12 (nb 13 8191) rfl (by kernel_rfl) ?_
            refine Pw.sto rfl rfl inferInstance rfl rfl rfl rfl rfl inferInstance rfl ?_
            refine Pw.held sf ?_
            refine Pw.done (by kernel_rfl) ?_
            refine Pw.perm (L' := [⟨g5, row [.int .i64 x.id, .int .u64 x.own] 93⟩, ⟨g10, row [.slice (some ⟨g5, 0, none⟩) 1 1] 44⟩, ⟨g11, row [.slice (some ⟨g10, 0, none⟩) 1 1] 64⟩]) (by first | exact perm3a | exact perm3b | exact perm3c | exact perm3d | exact perm3e | exact perm3f) (freeHead ?_)
            exact Pw.arrive (g11, g10, (some ⟨g5, 0, none⟩, 1)) trivial ⟨rfl, rfl, rfl, rfl, rfl, trivial⟩ rfl (fun w h => allCons (rows_of_row (ex := []) (fact0 h) (fun _ _ => rfl) (fun _ _ => trivial) (Nat.le_refl _) (by simp [maxLen]) (by omega)) (allCons (hv w h) allNil))
        · skip
          refine Pw.alloc rfl rfl rfl rfl rfl (fun g11 => ?_)
          refine Pw.held sf ?_
          refine Pw.one 9 (nb 13 3071) rfl (by kernel_rfl) ?_
          refine Pw.appendE rfl rfl rfl rfl (Nat.le_refl _) rfl rfl ?_
          refine Pw.held sf ?_
          refine Pw.one 10 (nb 13 4095) rfl (by kernel_rfl) ?_
          refine Pw.lit1 rfl rfl rfl rfl rfl rfl rfl rfl rfl (fun g10 => ?_)
          refine Pw.held sf ?_
          refine Pw.one 12 (nb 13 8191) rfl (by kernel_rfl) ?_
          refine Pw.sto rfl rfl inferInstance rfl rfl rfl rfl rfl inferInstance rfl ?_
          refine Pw.held sf ?_
          refine Pw.done (by kernel_rfl) ?_
          refine Pw.perm (L' := [⟨g5, row [.int .i64 x.id, .int .u64 x.own] 93⟩, ⟨g10, row [.slice (some ⟨g5, 0, none⟩) 1 1] 44⟩, ⟨g11, row [.slice (some ⟨g10, 0, none⟩) 1 1] 64⟩]) (by first | exact perm3a | exact perm3b | exact perm3c | exact perm3d | exact perm3e | exact perm3f) (freeHead ?_)
          exact Pw.arrive (g11, g10, (some ⟨g5, 0, none⟩, 1)) trivial ⟨rfl, rfl, rfl, rfl, rfl, trivial⟩ rfl (fun w h => allCons (rows_of_row (ex := []) (fact0 h) (fun _ _ => rfl) (fun _ _ => trivial) (Nat.le_refl _) (by simp [maxLen]) (by omega)) (allCons (hv w h) allNil))
      · skip
        refine Pw.alloc rfl rfl rfl rfl rfl (fun g11 => ?_)
        refine Pw.held sf ?_
        refine Pw.one 5 (nb 13 2559) rfl (by kernel_rfl) ?_
        refine Pw.lit12 rfl rfl rfl rfl rfl rfl rfl rfl rfl (fun g5 => ?_)
        refine Pw.held sf ?_
        refine Pw.one 9 (nb 13 3071) rfl (by kernel_rfl) ?_
        refine Pw.appendE rfl rfl rfl rfl (Nat.le_refl _) rfl rfl ?_
        refine Pw.held sf ?_
        refine Pw.one 10 (nb 13 4095) rfl (by kernel_rfl) ?_
        refine Pw.lit1 rfl rfl rfl rfl rfl rfl rfl rfl rfl (fun g10 => ?_)
        refine Pw.held sf ?_
        refine Pw.one 12 (nb 13 8191) rfl (by kernel_rfl) ?_
        refine Pw.sto rfl rfl inferInstance rfl rfl rfl rfl rfl inferInstance rfl ?_
        refine Pw.held sf ?_
        refine Pw.done (by kernel_rfl) ?_
        refine Pw.perm (L' := [⟨g5, row [.int .i64 x.id, .int .u64 x.own] 93⟩, ⟨g10, row [.slice (some ⟨g5, 0, none⟩) 1 1] 44⟩, ⟨g11, row [.slice (some ⟨g10, 0, none⟩) 1 1] 64⟩]) (by first | exact perm3a | exact perm3b | exact perm3c | exact perm3d | exact perm3e | exact perm3f) (freeHead ?_)
        exact Pw.arrive (g11, g10, (some ⟨g5, 0, none⟩, 1)) trivial ⟨rfl, rfl, rfl, rfl, rfl, trivial⟩ rfl (fun w h => allCons (rows_of_row (ex := []) (fact0 h) (fun _ _ => rfl) (fun _ _ => trivial) (Nat.le_refl _) (by simp [maxLen]) (by omega)) (allCons (hv w h) allNil))
    · refine Pw.use (p := A.isSome = true) (fun w h => (fact0 h).has (i := 0) (by omega) (by omega)) (fun hA => ?_)
      obtain ⟨ad, rfl⟩ := Option.isSome_iff_exists.1 hA
      have htl : (l.take m).length = m := by rw [List.length_take]; omega
      refine Pw.drawnG mixed rfl rfl ?_
      refine Pw.takeP 0 (nb 13 1) rfl rfl rfl rfl (by kernel_rfl) np sf ?_
      refine Pw.takeF 1 (nb 13 3) rfl rfl inferInstance rfl rfl rfl (by kernel_rfl) np sf ?_
      refine Pw.takeP 2 (nb 13 7) rfl rfl rfl rfl (by kernel_rfl) np sf ?_
      refine Pw.takeF 3 (nb 13 15) rfl rfl inferInstance rfl rfl rfl (by kernel_rfl) np sf ?_
      refine Pw.takeBuild 4 (nb 13 31) rfl rfl rfl rfl rfl (by kernel_rfl) np sf ?_
      refine Pw.takeP 6 (nb 13 95) rfl rfl rfl rfl (by kernel_rfl) np sf ?_
      refine Pw.takeP 7 (nb 13 223) rfl rfl rfl rfl (by kernel_rfl) np sf ?_
      refine Pw.takeCut 8 (nb 13 479) rfl rfl rfl rfl rfl (by first | assumption | omega) (by first | assumption | omega) rfl rfl (by kernel_rfl) np sf ?_
      refine Pw.two 5 11 (nb 13 511) (nb 13 2527) rfl rfl (by kernel_rfl) ?_ ?_
      · skip
        refine Pw.lit12 rfl rfl rfl rfl rfl rfl rfl rfl rfl (fun g5 => ?_)
        refine Pw.held sf ?_
        refine Pw.two 9 11 (nb 13 1023) (nb 13 2559) rfl rfl (by kernel_rfl) ?_ ?_
        · skip
          first
          | refine Pw.append (olds := encP (x.id, x.own)) (ex := []) (news := cellsP (l.take m)) (L' := fun g' ex' => ⟨g', row (encP (x.id, x.own) ++ cellsP (l.take m) ++ ex') 93⟩ :: _) rfl rfl rfl rfl rfl rfl rfl rfl (by rw [cellsP_len, htl]; rfl) cellsP_one (fun w hs j u hu => ((fact0 hs.all).take m).toCells (by omega) j u hu) (by simp only [maxLen]; omega) (by show (1 + m) * 16 ≤ _; omega) (fun g' ex' => .head) rfl rfl (fun g' cap' ex' h1 h2 => ?_)
          | refine Pw.append (olds := encP (x.id, x.own)) (ex := []) (news := cellsP (l.take m)) (L' := fun g' ex' => _ :: ⟨g', row (encP (x.id, x.own) ++ cellsP (l.take m) ++ ex') 93⟩ :: _) rfl rfl rfl rfl rfl rfl rfl rfl (by rw [cellsP_len, htl]; rfl) cellsP_one (fun w hs j u hu => ((fact0 hs.all).take m).toCells (by omega) j u hu) (by simp only [maxLen]; omega) (by show (1 + m) * 16 ≤ _; omega) (fun g' ex' => .tail .head) rfl rfl (fun g' cap' ex' h1 h2 => ?_)
          refine Pw.re (d := 44) (v' := psV ((x.id, x.own) :: l.take m) (some ⟨g', 0, none⟩, cap')) rfl (by show Value.slice _ _ _ = Value.slice _ ((l.take m).length + 1) _; rw [htl, Int.toNat_natCast, Nat.add_comm]) ?_
          refine Pw.held sf ?_
          refine Pw.two 10 11 (nb 13 2047) (nb 13 3071) rfl rfl (by kernel_rfl) ?_ ?_
          · skip
            refine Pw.lit1 rfl rfl rfl rfl rfl rfl rfl rfl rfl (fun g10 => ?_)
            refine Pw.held sf ?_
            refine Pw.one 11 (nb 13 4095) rfl (by kernel_rfl) ?_
            refine Pw.alloc rfl rfl rfl rfl rfl (fun g11 => ?_)
            refine Pw.held sf ?_
            refine Pw.one 12 (nb 13 8191) rfl (by kernel_rfl) ?_
            refine Pw.sto rfl rfl inferInstance rfl rfl rfl rfl rfl inferInstance rfl ?_
            refine Pw.held sf ?_
            refine Pw.done (by kernel_rfl) ?_
            refine Pw.perm (L' := [⟨g', row (encP (x.id, x.own) ++ cellsP (l.take m) ++ ex') 93⟩, ⟨g10, row [psV ((x.id, x.own) :: l.take m) (some ⟨g', 0, none⟩, cap')] 44⟩, ⟨g11, row [.slice (some ⟨g10, 0, none⟩) 1 1] 64⟩]) (by first | exact perm3a | exact perm3b | exact perm3c | exact perm3d | exact perm3e | exact perm3f) (freeHead ?_)
            exact Pw.arrive (g11, g10, (some ⟨g', 0, none⟩, cap')) trivial ⟨rfl, rfl, rfl, rfl, rfl, trivial⟩ rfl (fun w h => allCons (rows_of_row (l := (x.id, x.own) :: l.take m) (ex := ex') (fact0 h) (fun _ _ => rfl) (fun _ _ => trivial) (by show _ ≤ cap'; rw [List.length_cons, htl]; omega) (by rw [List.length_cons, htl]; simp only [maxLen]; omega) (by omega)) (allCons (hv w h) allNil))
          · skip
            refine Pw.alloc rfl rfl rfl rfl rfl (fun g11 => ?_)
            refine Pw.held sf ?_
            refine Pw.one 10 (nb 13 4095) rfl (by kernel_rfl) ?_
            refine Pw.lit1 rfl rfl rfl rfl rfl rfl rfl rfl rfl (fun g10 => ?_)
            refine Pw.held sf ?_
            refine Pw.one 12 (nb 13 8191) rfl (by kernel_rfl) ?_
            refine Pw.sto rfl rfl inferInstance rfl rfl rfl rfl rfl inferInstance rfl ?_
            refine Pw.held sf ?_
            refine Pw.done (by kernel_rfl) ?_
            refine Pw.perm (L' := [⟨g', row (encP (x.id, x.own) ++ cellsP (l.take m) ++ ex') 93⟩, ⟨g10, row [psV ((x.id, x.own) :: l.take m) (some ⟨g', 0, none⟩, cap')] 44⟩, ⟨g11, row [.slice (some ⟨g10, 0, none⟩) 1 1] 64⟩]) (by first | exact perm3a | exact perm3b | exact perm3c | exact perm3d | exact perm3e | exact perm3f) (freeHead ?_)
            exact Pw.arrive (g11, g10, (some ⟨g', 0, none⟩, cap')) trivial ⟨rfl, rfl, rfl, rfl, rfl, trivial⟩ rfl (fun w h => allCons (rows_of_row (l := (x.id, x.own) :: l.take m) (ex := ex') (fact0 h) (fun _ _ => rfl) (fun _ _ => trivial) (by show _ ≤ cap'; rw [List.length_cons, htl]; omega) (by rw [List.length_cons, htl]; simp only [maxLen]; omega) (by omega)) (allCons (hv w h) allNil))
        · skip
          refine Pw.alloc rfl rfl rfl rfl rfl (fun g11 => ?_)
          refine Pw.held sf ?_
          refine Pw.one 9 (nb 13 3071) rfl (by kernel_rfl) ?_
          first
          | refine Pw.append (olds := encP (x.id, x.own)) (ex := []) (news := cellsP (l.take m)) (L' := fun g' ex' => ⟨g', row (encP (x.id, x.own) ++ cellsP (l.take m) ++ ex') 93⟩ :: _) rfl rfl rfl rfl rfl rfl rfl rfl (by rw [cellsP_len, htl]; rfl) cellsP_one (fun w hs j u hu => ((fact0 hs.all).take m).toCells (by omega) j u hu) (by simp only [maxLen]; omega) (by show (1 + m) * 16 ≤ _; omega) (fun g' ex' => .head) rfl rfl (fun g' cap' ex' h1 h2 => ?_)
          | refine Pw.append (olds := encP (x.id, x.own)) (ex := []) (news := cellsP (l.take m)) (L' := fun g' ex' => _ :: ⟨g', row (encP (x.id, x.own) ++ cellsP (l.take m) ++ ex') 93⟩ :: _) rfl rfl rfl rfl rfl rfl rfl rfl (by rw [cellsP_len, htl]; rfl) cellsP_one (fun w hs j u hu => ((fact0 hs.all).take m).toCells (by omega) j u hu) (by simp only [maxLen]; omega) (by show (1 + m) * 16 ≤ _; omega) (fun g' ex' => .tail .head) rfl rfl (fun g' cap' ex' h1 h2 => ?_)
          refine Pw.re (d := 44) (v' := psV ((x.id, x.own) :: l.take m) (some ⟨g', 0, none⟩, cap')) rfl (by show Value.slice _ _ _ = Value.slice _ ((l.take m).length + 1) _; rw [htl, Int.toNat_natCast, Nat.add_comm]) ?_
          refine Pw.held sf ?_
          refine Pw.one 10 (nb 13 4095) rfl (by kernel_rfl) ?_
          refine Pw.lit1 rfl rfl rfl rfl rfl rfl rfl rfl rfl (fun g10 => ?_)
          refine Pw.held sf ?_
          refine Pw.one 12 (nb 13 8191) rfl (by kernel_rfl) ?_
          refine Pw.sto rfl rfl inferInstance rfl rfl rfl rfl rfl inferInstance rfl ?_
          refine Pw.held sf ?_
          refine Pw.done (by kernel_rfl) ?_
          refine Pw.perm (L' := [⟨g', row (encP (x.id, x.own) ++ cellsP (l.take m) ++ ex') 93⟩, ⟨g10, row [psV ((x.id, x.own) :: l.take m) (some ⟨g', 0, none⟩, cap')] 44⟩, ⟨g11, row [.slice (some ⟨g10, 0, none⟩) 1 1] 64⟩]) (by first | exact perm3a | exact perm3b | exact perm3c | exact perm3d | exact perm3e | exact perm3f) (freeHead ?_)
          exact Pw.arrive (g11, g10, (some ⟨g', 0, none⟩, cap')) trivial ⟨rfl, rfl, rfl, rfl, rfl, trivial⟩ rfl (fun w h => allCons (rows_of_row (l := (x.id, x.own) :: l.take m) (ex := ex') (fact0 h) (fun _ _ => rfl) (fun _ _ => trivial) (by show _ ≤ cap'; rw [List.length_cons, htl]; omega) (by rw [List.length_cons, htl]; simp only [maxLen]; omega) (by omega)) (allCons (hv w h) allNil))
      · skip
        refine Pw.alloc rfl rfl rfl rfl rfl (fun g11 => ?_)
        refine Pw.held sf ?_
        refine Pw.one 5 (nb 13 2559) rfl (by kernel_rfl) ?_
        refine Pw.lit12 rfl rfl rfl rfl rfl rfl rfl rfl rfl (fun g5 => ?_)
        refine Pw.held sf ?_
        refine Pw.one 9 (nb 13 3071) rfl (by kernel_rfl) ?_
        first
        | refine Pw.append (olds := encP (x.id, x.own)) (ex := []) (news := cellsP (l.take m)) (L' := fun g' ex' => ⟨g', row (encP (x.id, x.own) ++ cellsP (l.take m) ++ ex') 93⟩ :: _) rfl rfl rfl rfl rfl rfl rfl rfl (by rw [cellsP_len, htl]; rfl) cellsP_one (fun w hs j u hu => ((fact0 hs.all).take m).toCells (by omega) j u hu) (by simp only [maxLen]; omega) (by show (1 + m) * 16 ≤ _; omega) (fun g' ex' => .head) rfl rfl (fun g' cap' ex' h1 h2 => ?_)
        | refine Pw.append (olds := encP (x.id, x.own)) (ex := []) (news := cellsP (l.take m)) (L' := fun g' ex' => _ :: ⟨g', row (encP (x.id, x.own) ++ cellsP (l.take m) ++ ex') 93⟩ :: _) rfl rfl rfl rfl rfl rfl rfl rfl (by rw [cellsP_len, htl]; rfl) cellsP_one (fun w hs j u hu => ((fact0 hs.all).take m).toCells (by omega) j u hu) (by simp only [maxLen]; omega) (by show (1 + m) * 16 ≤ _; omega) (fun g' ex' => .tail .head) rfl rfl (fun g' cap' ex' h1 h2 => ?_)
        refine Pw.re (d := 44) (v' := psV ((x.id, x.own) :: l.take m) (some ⟨g', 0, none⟩, cap')) rfl (by show Value.slice _ _ _ = Value.slice _ ((l.take m).length + 1) _; rw [htl, Int.toNat_natCast, Nat.add_comm]) ?_
        refine Pw.held sf ?_
        refine Pw.one 10 (nb 13 4095) rfl (by kernel_rfl) ?_
        refine Pw.lit1 rfl rfl rfl rfl rfl rfl rfl rfl rfl (fun g10 => ?_)
        refine Pw.held sf ?_
        refine Pw.one 12 (nb 13 8191) rfl (by kernel_rfl) ?_
        refine Pw.sto rfl rfl inferInstance rfl rfl rfl rfl rfl inferInstance rfl ?_
        refine Pw.held sf ?_
        refine Pw.done (by kernel_rfl) ?_
        refine Pw.perm (L' := [⟨g', row (encP (x.id, x.own) ++ cellsP (l.take m) ++ ex') 93⟩, ⟨g10, row [psV ((x.id, x.own) :: l.take m) (some ⟨g', 0, none⟩, cap')] 44⟩, ⟨g11, row [.slice (some ⟨g10, 0, none⟩) 1 1] 64⟩]) (by first | exact perm3a | exact perm3b | exact perm3c | exact perm3d | exact perm3e | exact perm3f) (freeHead ?_)
        exact Pw.arrive (g11, g10, (some ⟨g', 0, none⟩, cap')) trivial ⟨rfl, rfl, rfl, rfl, rfl, trivial⟩ rfl (fun w h => allCons (rows_of_row (l := (x.id, x.own) :: l.take m) (ex := ex') (fact0 h) (fun _ _ => rfl) (fun _ _ => trivial) (by show _ ≤ cap'; rw [List.length_cons, htl]; omega) (by rw [List.length_cons, htl]; simp only [maxLen]; omega) (by omega)) (allCons (hv w h) allNil))
  rintro ⟨g11, g10, z1⟩ _
  dsimp only
  obtain ⟨f0, hf0⟩ : ∃ f0, f0 = (x.id, x.own) :: l.take m := ⟨_, rfl⟩
  rw [← hf0]
  have hdl : (l.drop m).length ≤ 1000 := by rw [List.length_drop]; omega
  obtain ⟨r, hr⟩ : ∃ r, r = l.drop m := ⟨_, rfl⟩
  have hsm : r = [] ∨ k ≤ 1000000 := by
    rcases Nat.lt_or_ge l.length k with h | h
    · left; rw [hr, List.drop_of_length_le (by omega)]
    · right; omega
  repeat (first | refine Pw.runs ?_ | refine Pw.list (Pw.box rfl rfl rfl rfl (fun _ => ?_)) | refine Pw.list (Pw.alloc rfl rfl rfl rfl rfl (fun _ => ?_)))
  refine Pw.list (Pw.cutA rfl rfl rfl rfl (by omega) (by omega) hlc rfl rfl ?_)
  refine Pw.re (d := 48) (v' := psV r (cutA A m c 2, c - m)) rfl (by show Value.slice _ _ _ = Value.slice _ r.length _; rw [hr, List.length_drop]; rfl) ?_
  repeat (first | refine Pw.runs ?_ | refine Pw.list (Pw.box rfl rfl rfl rfl (fun _ => ?_)) | refine Pw.list (Pw.alloc rfl rfl rfl rfl rfl (fun _ => ?_)))
  refine Pw.list (Pw.call (Chunk_ct r (cutA A m c 2, c - m) k (by omega)) rfl rfl rfl (by kernel_rfl) rfl rfl (fun w h => by rw [hr]; exact (hv w h : PS l (A, c) w).dropC m) ?_)
  rintro ⟨gc1, gc2⟩ _
  rw [← hr] at hdl ⊢
  repeat (first | refine Pw.runs ?_ | refine Pw.list (Pw.box rfl rfl rfl rfl (fun _ => ?_)) | refine Pw.list (Pw.alloc rfl rfl rfl rfl rfl (fun _ => ?_)))
  obtain ⟨A', hA'⟩ : ∃ A', A' = cutA A m c 2 := ⟨_, rfl⟩
  rw [← hA']
  have hkb : k ≤ 9223372036854775807 := by omega
  refine Pw.rangeFunc (σ := Gr × List Pg) (τ := Unit) (fun i t => gOk t.1 (cellsPg t.2) t.2.length 1 ∧ t.2.map Prod.fst = f0 :: (List.range i).map (chunkAt k r))
    (fun i t => ⟨gL t.1 (cellsPg t.2) 44 ++ [⟨g11, row [gv t.1 t.2.length] 64⟩], [preC r (A', c - m) k gc1 gc2, HeldAll t.2]⟩) (some (g10, 1, []), [(f0, z1)]) (fun _ _ _ => True)
    (fun i t _ => ⟨[(10, .pointer (some ⟨g11, 0, none⟩)), (11, chunkV k r A' i)], gL t.1 (cellsPg t.2) 44 ++ [⟨g11, row [gv t.1 t.2.length] 64⟩], [preC r (A', c - m) k gc1 gc2, HeldAll t.2]⟩)
    rfl enters_chunk (Chunk_it r A' (c - m) k gc1 gc2 (by omega) (by omega) hsm hkb) rfl ⟨⟨rfl, Nat.le_refl _, rfl⟩, rfl⟩ rfl (fun w h => allCons (hv w h) (allCons (fun p hp => by rw [List.mem_singleton.1 hp]; exact (hv w h : PS f0 z1 w)) allNil)) (fun i t _ w h => fact0 h) ?_ ?_ ?_
  · rintro i ⟨q, pgs⟩ T rr hi hJ
    refine Pw.regionI rfl (Pw.list (Pw.pure rfl rfl rfl (Pw.nil (Pw.then_ ?_))))
    refine Pw.arriveR (A := fun _ : Unit => True) (B := fun _ : Unit => ⟨[(10, .pointer (some ⟨g11, 0, none⟩)), (11, chunkV k r A' i)], gL q (cellsPg pgs) 44 ++ [⟨g11, row [gv q pgs.length] 64⟩], [preC r (A', c - m) k gc1 gc2, HeldAll pgs]⟩) () trivial ?_ rfl ?_
    · exact ⟨rfl, rfl, trivial⟩
    · exact fun w h => h
  · rintro i ⟨q, pgs⟩ _ T rr hi ⟨hq, hp⟩ _
    dsimp only at hq hp ⊢
    have hpl : pgs.length = 1 + i := by
      have := congrArg List.length hp
      rw [List.length_map, List.length_cons, List.length_map, List.length_range] at this; omega
    have hik := (nCh_lt (show 0 < k by omega)).1 hi
    have hib : i ≤ 1000 := by
      have : i ≤ i * k := Nat.le_mul_of_pos_right i (by omega)
      omega
    have hcl : (chunkAt k r i).length ≤ 1000 := by unfold chunkAt; rw [List.length_take, List.length_drop]; omega
    refine Pw.eqL (L' := gL q (cellsPg pgs) 44 ++ (⟨g11, row [gv q pgs.length] 64⟩ :: T)) (by simp) ?_
    refine Pw.blockI (Pw.regionD (S := All [preC r (A', c - m) k gc1 gc2, HeldAll pgs]) mixed rfl rfl rfl ?_)
    refine Pw.takeP 1 (nb 6 2) rfl rfl rfl rfl (by kernel_rfl) np sf ?_
    refine Pw.two 0 2 (nb 6 3) (nb 6 6) rfl rfl (by kernel_rfl) ?_ ?_
    · skip
      refine Pw.ld rfl inferInstance rfl rfl rfl ?_
      refine Pw.held sf ?_
      refine Pw.one 2 (nb 6 7) rfl (by kernel_rfl) ?_
      refine Pw.call (CloneP_ct (chunkAt k r i) (cutA A' (i * k) (endC k r.length i) 2, (chunkAt k r i).length) (by omega)) rfl rfl rfl (by kernel_rfl) rfl rfl (fun w h => chunk_PS (c := c - m) (hv w h : preC r (A', c - m) k gc1 gc2 w).2.2 (by omega) hi) ?_
      intro z _
      refine Pw.held sf ?_
      refine Pw.one 3 (nb 6 15) rfl (by kernel_rfl) ?_
      refine Pw.lit1 rfl rfl rfl rfl rfl rfl rfl rfl rfl (fun g5 => freeHead ?_)
      refine Pw.held sf ?_
      refine Pw.one 4 (nb 6 31) rfl (by kernel_rfl) ?_
      refine Pw.push (s := q) (m := pgs.length) (cells := cellsPg pgs) (news := [psV (chunkAt k r i) z]) (L0 := ⟨g11, row [gv q pgs.length] 64⟩ :: T) rfl rfl rfl rfl rfl rfl rfl hq rfl (fun u hu => by rw [List.mem_singleton.1 hu]; rfl) (fun w hs j u hu => by
        have h1 := fact0 hs.all
        rw [add_none, cell_of_blk h1]
        simpa using hu) (by omega) (by simp only [maxLen]; omega) (by show (pgs.length + 1) * 24 ≤ _; omega) rfl rfl (fun q' hq' => ?_)
      refine Pw.held sf ?_
      refine Pw.one 5 (nb 6 63) rfl (by kernel_rfl) ?_
      refine Pw.sto (vs := [gv q' (pgs.length + 1)]) rfl rfl inferInstance (by cases q' <;> rfl) rfl rfl (by cases q' <;> rfl) rfl inferInstance rfl ?_
      refine Pw.held sf ?_
      refine Pw.done (by kernel_rfl) ?_
      refine Pw.inN (Pw.roundEnd ?_)
      have e1 : cellsPg (pgs ++ [(chunkAt k r i, z)]) = cellsPg pgs ++ [psV (chunkAt k r i) z] := by unfold cellsPg; simp [encPg]
      have e2 : (pgs ++ [(chunkAt k r i, z)]).length = pgs.length + 1 := by simp
      refine Pw.eqL (L' := (gL q' (cellsPg (pgs ++ [(chunkAt k r i, z)])) 44 ++ [⟨g11, row [gv q' (pgs ++ [(chunkAt k r i, z)]).length] 64⟩]) ++ T) (by rw [e1, e2]; simp) ?_
      refine Pw.arriveE (J := fun t : Gr × List Pg => gOk t.1 (cellsPg t.2) t.2.length 1 ∧ t.2.map Prod.fst = f0 :: (List.range (i + 1)).map (chunkAt k r)) (I := fun t => ⟨gL t.1 (cellsPg t.2) 44 ++ [⟨g11, row [gv t.1 t.2.length] 64⟩], [preC r (A', c - m) k gc1 gc2, HeldAll t.2]⟩) (q', pgs ++ [(chunkAt k r i, z)]) ?_ rfl ?_
      · exact ⟨by rw [e1, e2]; exact hq', by rw [List.map_append, hp, List.range_succ, List.map_append]; rfl⟩
      · exact fun w h => allCons (hv w h) (allCons (fun p hp => by
          rcases List.mem_append.1 hp with hp | hp
          · exact (hv w h : HeldAll pgs w) p hp
          · rw [List.mem_singleton.1 hp]; exact (hv w h : PS (chunkAt k r i) z w)) allNil)
    · skip
      refine Pw.call (CloneP_ct (chunkAt k r i) (cutA A' (i * k) (endC k r.length i) 2, (chunkAt k r i).length) (by omega)) rfl rfl rfl (by kernel_rfl) rfl rfl (fun w h => chunk_PS (c := c - m) (hv w h : preC r (A', c - m) k gc1 gc2 w).2.2 (by omega) hi) ?_
      intro z _
      refine Pw.held sf ?_
      refine Pw.two 0 3 (nb 6 7) (nb 6 14) rfl rfl (by kernel_rfl) ?_ ?_
      · skip
        refine Pw.ld rfl inferInstance rfl rfl rfl ?_
        refine Pw.held sf ?_
        refine Pw.one 3 (nb 6 15) rfl (by kernel_rfl) ?_
        refine Pw.lit1 rfl rfl rfl rfl rfl rfl rfl rfl rfl (fun g5 => freeHead ?_)
        refine Pw.held sf ?_
        refine Pw.one 4 (nb 6 31) rfl (by kernel_rfl) ?_
        refine Pw.push (s := q) (m := pgs.length) (cells := cellsPg pgs) (news := [psV (chunkAt k r i) z]) (L0 := ⟨g11, row [gv q pgs.length] 64⟩ :: T) rfl rfl rfl rfl rfl rfl rfl hq rfl (fun u hu => by rw [List.mem_singleton.1 hu]; rfl) (fun w hs j u hu => by
          have h1 := fact0 hs.all
          rw [add_none, cell_of_blk h1]
          simpa using hu) (by omega) (by simp only [maxLen]; omega) (by show (pgs.length + 1) * 24 ≤ _; omega) rfl rfl (fun q' hq' => ?_)
        refine Pw.held sf ?_
        refine Pw.one 5 (nb 6 63) rfl (by kernel_rfl) ?_
        refine Pw.sto (vs := [gv q' (pgs.length + 1)]) rfl rfl inferInstance (by cases q' <;> rfl) rfl rfl (by cases q' <;> rfl) rfl inferInstance rfl ?_
        refine Pw.held sf ?_
        refine Pw.done (by kernel_rfl) ?_
        refine Pw.inN (Pw.roundEnd ?_)
        have e1 : cellsPg (pgs ++ [(chunkAt k r i, z)]) = cellsPg pgs ++ [psV (chunkAt k r i) z] := by unfold cellsPg; simp [encPg]
        have e2 : (pgs ++ [(chunkAt k r i, z)]).length = pgs.length + 1 := by simp
        refine Pw.eqL (L' := (gL q' (cellsPg (pgs ++ [(chunkAt k r i, z)])) 44 ++ [⟨g11, row [gv q' (pgs ++ [(chunkAt k r i, z)]).length] 64⟩]) ++ T) (by rw [e1, e2]; simp) ?_
        refine Pw.arriveE (J := fun t : Gr × List Pg => gOk t.1 (cellsPg t.2) t.2.length 1 ∧ t.2.map Prod.fst = f0 :: (List.range (i + 1)).map (chunkAt k r)) (I := fun t => ⟨gL t.1 (cellsPg t.2) 44 ++ [⟨g11, row [gv t.1 t.2.length] 64⟩], [preC r (A', c - m) k gc1 gc2, HeldAll t.2]⟩) (q', pgs ++ [(chunkAt k r i, z)]) ?_ rfl ?_
        · exact ⟨by rw [e1, e2]; exact hq', by rw [List.map_append, hp, List.range_succ, List.map_append]; rfl⟩
        · exact fun w h => allCons (hv w h) (allCons (fun p hp => by
            rcases List.mem_append.1 hp with hp | hp
            · exact (hv w h : HeldAll pgs w) p hp
            · rw [List.mem_singleton.1 hp]; exact (hv w h : PS (chunkAt k r i) z w)) allNil)
      · skip
        refine Pw.lit1 rfl rfl rfl rfl rfl rfl rfl rfl rfl (fun g5 => freeHead ?_)
        refine Pw.held sf ?_
        refine Pw.one 0 (nb 6 15) rfl (by kernel_rfl) ?_
        refine Pw.ld rfl inferInstance rfl rfl rfl ?_
        refine Pw.held sf ?_
        refine Pw.one 4 (nb 6 31) rfl (by kernel_rfl) ?_
        refine Pw.push (s := q) (m := pgs.length) (cells := cellsPg pgs) (news := [psV (chunkAt k r i) z]) (L0 := ⟨g11, row [gv q pgs.length] 64⟩ :: T) rfl rfl rfl rfl rfl rfl rfl hq rfl (fun u hu => by rw [List.mem_singleton.1 hu]; rfl) (fun w hs j u hu => by
          have h1 := fact0 hs.all
          rw [add_none, cell_of_blk h1]
          simpa using hu) (by omega) (by simp only [maxLen]; omega) (by show (pgs.length + 1) * 24 ≤ _; omega) rfl rfl (fun q' hq' => ?_)
        refine Pw.held sf ?_
        refine Pw.one 5 (nb 6 63) rfl (by kernel_rfl) ?_
        refine Pw.sto (vs := [gv q' (pgs.length + 1)]) rfl rfl inferInstance (by cases q' <;> rfl) rfl rfl (by cases q' <;> rfl) rfl inferInstance rfl ?_
        refine Pw.held sf ?_
        refine Pw.done (by kernel_rfl) ?_
        refine Pw.inN (Pw.roundEnd ?_)
        have e1 : cellsPg (pgs ++ [(chunkAt k r i, z)]) = cellsPg pgs ++ [psV (chunkAt k r i) z] := by unfold cellsPg; simp [encPg]
        have e2 : (pgs ++ [(chunkAt k r i, z)]).length = pgs.length + 1 := by simp
        refine Pw.eqL (L' := (gL q' (cellsPg (pgs ++ [(chunkAt k r i, z)])) 44 ++ [⟨g11, row [gv q' (pgs ++ [(chunkAt k r i, z)]).length] 64⟩]) ++ T) (by rw [e1, e2]; simp) ?_
        refine Pw.arriveE (J := fun t : Gr × List Pg => gOk t.1 (cellsPg t.2) t.2.length 1 ∧ t.2.map Prod.fst = f0 :: (List.range (i + 1)).map (chunkAt k r)) (I := fun t => ⟨gL t.1 (cellsPg t.2) 44 ++ [⟨g11, row [gv t.1 t.2.length] 64⟩], [preC r (A', c - m) k gc1 gc2, HeldAll t.2]⟩) (q', pgs ++ [(chunkAt k r i, z)]) ?_ rfl ?_
        · exact ⟨by rw [e1, e2]; exact hq', by rw [List.map_append, hp, List.range_succ, List.map_append]; rfl⟩
        · exact fun w h => allCons (hv w h) (allCons (fun p hp => by
            rcases List.mem_append.1 hp with hp | hp
            · exact (hv w h : HeldAll pgs w) p hp
            · rw [List.mem_singleton.1 hp]; exact (hv w h : PS (chunkAt k r i) z w)) allNil)
  · rintro ⟨q, pgs⟩ Dm ⟨hq, hp⟩
    dsimp only at hq hp ⊢
    have hpl : pgs.length = (f0 :: chunks k r).length := by
      rw [← List.length_map (f := Prod.fst), hp]; rfl
    refine Pw.tail (i := 12) rfl ?_
    refine Pw.list (Pw.ld rfl inferInstance rfl rfl rfl ?_)
    refine Pw.list (Pw.pure rfl rfl rfl (Pw.list (Pw.pure rfl rfl rfl (Pw.nil ?_))))
    refine Pw.perm (L' := gL q (cellsPg pgs) 44 ++ [⟨Dm, .deferred (some [])⟩, ⟨g11, row [gv q pgs.length] 64⟩]) (List.perm_middle.symm) ?_
    refine Pw.freeG hq (fun B cb e hc => ?_)
    rw [e]
    exact Pw.retM (x := (pgs, (B, cb))) .head (.tmp rfl (.tmp rfl .nil)) (by show Value.tuple #[.slice B pgs.length cb, _] = Value.tuple #[.slice B (f0 :: chunks k r).length cb, _]; rw [hpl]) (by exact hp) (fun w h => rows_of_cells (fun _ _ => rfl) (fun y hy => (hv w h : HeldAll pgs w) y hy) hc (by rw [hpl, List.length_cons, chunks_len]; have := nCh_le (k := k) (n := r.length) (by omega); simp only [maxLen]; omega) (by omega) (fact0 h))
end Go.Proofs.Wk
/- Exposures: the laws' helpers. -/
namespace Go.Proofs.Wk
open Go.RowKit
set_option maxRecDepth 100000
set_option maxHeartbeats 1000000
attribute [local irreducible] Pw OpG
set_option linter.unusedVariables false
set_option linter.unusedSimpArgs false
theorem pTheirs_ct (x : Ex) : Ct Tryz.prog 25 #[exV x] (fun _ => True) (fun _ : Unit => exV x) Tt (fun _ _ => True) := by
  refine Ct.start Tryz.func25 rfl rfl (slots_of rfl slots1) (fun D w0 => ?_)
  repeat (first | refine Pw.runs ?_ | refine Pw.list (Pw.box rfl rfl rfl rfl (fun _ => freeHead ?_)) | refine Pw.list (Pw.alloc rfl rfl rfl rfl rfl (fun _ => ?_)))
  exact Pw.ret_ (x := ()) (.cell rfl (fun w hs => hs.own _ (.head _)) rfl .nil) rfl trivial (fun w h => by trivial)
theorem xFormed_ct (x : Ex) : Ct Tryz.prog 26 #[exV x] (exF x) (fun _ : Unit => .bool (formX x)) Tt (fun _ _ => True) := by
  obtain ⟨id, com, own, oth, ⟨A, c⟩⟩ := x
  refine Ct.start Tryz.func26 rfl rfl (slots_of rfl slots1) (fun D w0 => ?_)
  refine Pw.use (p := oth.length ≤ maxLen) (fun w h => (fact0 h).top) (fun htop => ?_)
  have htop := top63 htop
  try refine Pw.run ?_
  refine Pw.list (Pw.box rfl rfl rfl rfl (fun g1 => freeHead ?_))
  repeat (first | refine Pw.runs ?_ | refine Pw.list (Pw.box rfl rfl rfl rfl (fun _ => ?_)) | refine Pw.list (Pw.alloc rfl rfl rfl rfl rfl (fun _ => ?_)))
  refine Pw.loopJ (σ := Nat) (fun i => i ≤ oth.length ∧ ∀ j, j < i → dupAt ⟨id, com, own, oth, (A, c)⟩ j = true) (fun i => ⟨[(1, .pointer (some ⟨g1, 0, none⟩)), (7, .int .i64 oth.length), (8, .int .i64 i)], [], [fun W => W.heap[g1]? = some (row [.int .i64 id, .int .u64 com, .int .u64 own, .slice A oth.length c] 58), PS oth (A, c)]⟩) (fun i => oth.length - i) 0 ⟨Nat.zero_le _, fun j hj => absurd hj (Nat.not_lt_zero j)⟩ (Pw.enter ⟨rfl, rfl, rfl, trivial⟩ (fun w h => allCons (fx h) (allCons (hv w h) allNil))) ?_
  rintro i ⟨hi, hj⟩
  dsimp only at hi hj ⊢
  repeat (first | refine Pw.runs ?_ | refine Pw.list (Pw.box rfl rfl rfl rfl (fun _ => ?_)) | refine Pw.list (Pw.alloc rfl rfl rfl rfl rfl (fun _ => ?_)))
  refine Pw.condD rfl (fun c3 => ?_) (fun c3 => ?_)
  · obtain ⟨p, hp, hm⟩ := get_at (show i < oth.length by omega)
    refine Pw.use (p := A.isSome = true) (fun w h => (fact1 h).has (Int.natCast_nonneg i) c3) (fun hA => ?_)
    obtain ⟨ad, rfl⟩ := Option.isSome_iff_exists.1 hA
    have hbad : ∀ q ∈ id :: (oth.take i).map Prod.fst, p.1 = q → formX ⟨id, com, own, oth, (some ad, c)⟩ = false := fun q hq e => by
      unfold formX
      rw [allB_false (i := i) (by simp only; omega) (by rw [dupAt_eq (p := p) hp]; exact congrArg (fun b => !b) (decide_eq_true (e ▸ hq)))]; rfl
    repeat (first | refine Pw.runs ?_ | refine Pw.list (Pw.box rfl rfl rfl rfl (fun _ => ?_)) | refine Pw.list (Pw.alloc rfl rfl rfl rfl rfl (fun _ => ?_)))
    refine Pw.drawnG mixed rfl rfl ?_
    refine Pw.takeP 0 (nb 9 1) rfl rfl rfl rfl (by kernel_rfl) np sf ?_
    refine Pw.takeF 1 (nb 9 3) rfl rfl inferInstance rfl rfl rfl (by kernel_rfl) np sf ?_
    refine Pw.takeP 2 (nb 9 7) rfl rfl rfl rfl (by kernel_rfl) np sf ?_
    refine Pw.takeIx 3 (nb 9 15) rfl rfl rfl rfl rfl (by first | assumption | omega) (by first | assumption | omega) rfl rfl (by kernel_rfl) np sf ?_
    refine Pw.takeFS 4 (nb 9 31) rfl rfl rfl rfl rfl rfl rfl rfl (by kernel_rfl) np sf ?_
    refine Pw.takeLF p 5 (nb 9 63) rfl rfl inferInstance rfl (by first | assumption | (rw [Int.toNat_natCast]; assumption)) rfl rfl rfl rfl (by kernel_rfl) np sf ?_
    refine Pw.takeP 6 (nb 9 127) rfl rfl rfl rfl (by kernel_rfl) np sf ?_
    refine Pw.takeF 7 (nb 9 255) rfl rfl inferInstance rfl rfl rfl (by kernel_rfl) np sf ?_
    refine Pw.takeP 8 (nb 9 511) rfl rfl rfl rfl (by kernel_rfl) np sf ?_
    refine Pw.done (by kernel_rfl) ?_
    refine Pw.then_ (Pw.condD rfl (fun c4 => ?_) (fun c4 => ?_))
    · repeat (first | refine Pw.runs ?_ | refine Pw.list (Pw.box rfl rfl rfl rfl (fun _ => ?_)) | refine Pw.list (Pw.alloc rfl rfl rfl rfl rfl (fun _ => ?_)))
      exact Pw.ret_ (x := ()) (.tmp rfl .nil) (congrArg Value.bool (hbad id (List.mem_cons_self ..) c4).symm) trivial (fun w h => by trivial)
    repeat (first | refine Pw.runs ?_ | refine Pw.list (Pw.box rfl rfl rfl rfl (fun _ => ?_)) | refine Pw.list (Pw.alloc rfl rfl rfl rfl rfl (fun _ => ?_)))
    refine Pw.loopJ (σ := Nat) (fun k => k ≤ i ∧ ∀ j, j < k → ∀ y, oth[j]? = some y → decide (p.1 = y.1) = false) (fun k => ⟨[(1, .pointer (some ⟨g1, 0, none⟩)), (3, .int .i64 i), (7, .int .i64 oth.length), (8, .int .i64 i), (20, .int .i64 i), (21, .int .i64 k)], [], [fun W => W.heap[g1]? = some (row [.int .i64 id, .int .u64 com, .int .u64 own, .slice (some ad) oth.length c] 58), PS oth (some ad, c)]⟩) (fun k => i - k) 0 ⟨Nat.zero_le _, fun j hj => absurd hj (Nat.not_lt_zero j)⟩ (Pw.enter ⟨rfl, rfl, rfl, rfl, rfl, rfl, trivial⟩ (fun w h => h)) ?_
    rintro k ⟨hk, hkj⟩
    dsimp only at hk hkj ⊢
    repeat (first | refine Pw.runs ?_ | refine Pw.list (Pw.box rfl rfl rfl rfl (fun _ => ?_)) | refine Pw.list (Pw.alloc rfl rfl rfl rfl rfl (fun _ => ?_)))
    refine Pw.condD rfl (fun c5 => ?_) (fun c5 => ?_)
    · obtain ⟨q, hq, hmq⟩ := get_at (show k < oth.length by omega)
      repeat (first | refine Pw.runs ?_ | refine Pw.list (Pw.box rfl rfl rfl rfl (fun _ => ?_)) | refine Pw.list (Pw.alloc rfl rfl rfl rfl rfl (fun _ => ?_)))
      refine Pw.drawnG mixed rfl rfl ?_
      refine Pw.takeP 0 (nb 13 1) rfl rfl rfl rfl (by kernel_rfl) np sf ?_
      refine Pw.takeF 1 (nb 13 3) rfl rfl inferInstance rfl rfl rfl (by kernel_rfl) np sf ?_
      refine Pw.takeP 2 (nb 13 7) rfl rfl rfl rfl (by kernel_rfl) np sf ?_
      refine Pw.takeIx 3 (nb 13 15) rfl rfl rfl rfl rfl (by first | assumption | omega) (by first | assumption | omega) rfl rfl (by kernel_rfl) np sf ?_
      refine Pw.takeFS 4 (nb 13 31) rfl rfl rfl rfl rfl rfl rfl rfl (by kernel_rfl) np sf ?_
      refine Pw.takeLF q 5 (nb 13 63) rfl rfl inferInstance rfl (by first | assumption | (rw [Int.toNat_natCast]; assumption)) rfl rfl rfl rfl (by kernel_rfl) np sf ?_
      refine Pw.takeP 6 (nb 13 127) rfl rfl rfl rfl (by kernel_rfl) np sf ?_
      refine Pw.takeF 7 (nb 13 255) rfl rfl inferInstance rfl rfl rfl (by kernel_rfl) np sf ?_
      refine Pw.takeP 8 (nb 13 511) rfl rfl rfl rfl (by kernel_rfl) np sf ?_
      refine Pw.takeIx 9 (nb 13 1023) rfl rfl rfl rfl rfl (by first | assumption | omega) (by first | assumption | omega) rfl rfl (by kernel_rfl) np sf ?_
      refine Pw.takeFS 10 (nb 13 2047) rfl rfl rfl rfl rfl rfl rfl rfl (by kernel_rfl) np sf ?_
      refine Pw.takeLF p 11 (nb 13 4095) rfl rfl inferInstance rfl (by first | assumption | (rw [Int.toNat_natCast]; assumption)) rfl rfl rfl rfl (by kernel_rfl) np sf ?_
      refine Pw.takeP 12 (nb 13 8191) rfl rfl rfl rfl (by kernel_rfl) np sf ?_
      refine Pw.done (by kernel_rfl) ?_
      refine Pw.then_ (Pw.condD rfl (fun c6 => ?_) (fun c6 => ?_))
      · repeat (first | refine Pw.runs ?_ | refine Pw.list (Pw.box rfl rfl rfl rfl (fun _ => ?_)) | refine Pw.list (Pw.alloc rfl rfl rfl rfl rfl (fun _ => ?_)))
        exact Pw.ret_ (x := ()) (.tmp rfl .nil) (congrArg Value.bool (hbad q.1 (List.mem_cons_of_mem _ (List.mem_map.2 ⟨q, List.mem_of_getElem? (i := k) (by rw [List.getElem?_take_of_lt (by omega)]; exact hq), rfl⟩)) c6.symm).symm) trivial (fun w h => by trivial)
      repeat (first | refine Pw.runs ?_ | refine Pw.list (Pw.box rfl rfl rfl rfl (fun _ => ?_)) | refine Pw.list (Pw.alloc rfl rfl rfl rfl rfl (fun _ => ?_)))
      refine Pw.re (d := 21) (v' := .int .i64 ((k + 1 : Nat) : Int)) rfl (congrArg (Value.int .i64) (i64s (by omega) htop)) ?_
      exact Pw.again (k + 1) ⟨by omega, below_snoc hkj hq (decide_eq_false (fun e => c6 e.symm))⟩ (by show i - (k + 1) < i - k; omega) ⟨rfl, rfl, rfl, rfl, rfl, rfl, trivial⟩ rfl (fun w h => h)
    · obtain rfl : k = i := by omega
      repeat (first | refine Pw.runs ?_ | refine Pw.list (Pw.box rfl rfl rfl rfl (fun _ => ?_)) | refine Pw.list (Pw.alloc rfl rfl rfl rfl rfl (fun _ => ?_)))
      refine Pw.re (d := 8) (v' := .int .i64 ((k + 1 : Nat) : Int)) rfl (congrArg (Value.int .i64) (i64s (by omega) htop)) ?_
      exact Pw.again (k + 1) ⟨by omega, fun j h => by
        rcases Nat.lt_or_ge j k with h' | h'
        · exact hj j h'
        · obtain rfl : j = k := by omega
          rw [dupAt_eq (p := p) hp, decide_eq_false]; · rfl
          intro hm
          rcases List.mem_cons.1 hm with hm | hm
          · exact c4 hm
          · obtain ⟨y, hy, e⟩ := List.mem_map.1 hm
            obtain ⟨t, ht⟩ := List.getElem?_of_mem hy
            have htl := (List.getElem?_eq_some_iff.1 ht).1
            rw [List.length_take] at htl
            rw [List.getElem?_take_of_lt (by omega)] at ht
            have := hkj t (by omega) y ht
            simp [e] at this⟩ (by show oth.length - (k + 1) < oth.length - k; omega) ⟨rfl, rfl, rfl, trivial⟩ rfl (fun w h => h)
  · repeat (first | refine Pw.runs ?_ | refine Pw.list (Pw.box rfl rfl rfl rfl (fun _ => ?_)) | refine Pw.list (Pw.alloc rfl rfl rfl rfl rfl (fun _ => ?_)))
    exact Pw.ret_ (x := ()) (.tmp rfl .nil) (congrArg Value.bool (by unfold formX; rw [allB_true (fun j h => hj j (by simp only at h; omega))]; rfl)) trivial (fun w h => by trivial)
end Go.Proofs.Wk
/- Walks of layer 1: trimming, forming, comparing. -/
namespace Go.Proofs.Wk
open Go.RowKit
set_option maxRecDepth 100000
attribute [local irreducible] Pw OpG
set_option linter.unusedVariables false
set_option linter.unusedSimpArgs false
theorem trim_ct (l : List Int) (x : Option Addr × Nat) (hl : l.length < 1099511627776) : Ct Tryz.prog 65 #[sl l x] (S1 l x) (fun x => sl (trimL l) x) Tt (fun x => S1 (trimL l) x) := by
  obtain ⟨A, c⟩ := x
  have h := trim_ev hl (Nat.lt_succ_self _)
  unfold limb_trim.f at h
  generalize trimL l = r at h
  refine Ct.start Tryz.func65 rfl rfl (slots_of rfl slots1) (fun D w0 => ?_)
  try refine Pw.run ?_
  refine Pw.loopJ (σ := Nat × List Int) (fun s => limb_trim.l0 s.1 s.2 = some r) (fun s => ⟨[(0, .slice A s.2.length c)], [], [Ints .u32 s.2 A c]⟩) (fun s => s.1) (_, l) h (Pw.enter ⟨rfl, trivial⟩ (fun _ h => h)) ?_
  rintro ⟨k, l⟩ h
  dsimp only at h ⊢
  obtain _ | k := k
  · cases h
  refine Pw.use (p := (l.length : Int) ≤ 9223372036854775807 ∧ l.length ≤ c) (fun w h => ⟨(fact0 h).top', (fact0 h).le⟩) (fun hm => ?_)
  simp only [limb_trim.l0] at h
  try refine Pw.run ?_
  refine Pw.split 6 rfl (fun c1 => ?_) (fun c1 => ?_)
  · rw [if_pos c1] at h
    obtain ⟨c2, h⟩ := ite_none h
    obtain ⟨c3, h⟩ := ite_none h
    try refine Pw.run ?_
    refine Pw.list (Pw.index rfl rfl rfl rfl c2 c3 (fun w h => (fact0 h).has (by omega) c1) rfl rfl ?_)
    rintro ad rfl
    refine Pw.list (Pw.load1 rfl rfl (fun w hs => by first | exact (fact0 hs.all).cell (by first | assumption | omega) (by first | assumption | omega) | exact (fact1 hs.all).cell (by first | assumption | omega) (by first | assumption | omega) | exact (fact2 hs.all).cell (by first | assumption | omega) (by first | assumption | omega) | exact (fact3 hs.all).cell (by first | assumption | omega) (by first | assumption | omega)) rfl rfl ?_)
    try refine Pw.run ?_
    refine Pw.condD rfl (fun c4 => ?_) (fun c4 => ?_)
    · rw [if_pos c4] at h
      obtain ⟨c5, h⟩ := ite_none h
      try refine Pw.run ?_
      refine Pw.list (Pw.cutTo rfl rfl rfl rfl c2 (by omega) rfl rfl ?_)
      try refine Pw.run ?_
      have e : (wrap64 ((l.length : Int) - 1)).toNat = (l.take (wrap64 ((l.length : Int) - 1)).toNat).length := by rw [List.length_take]; omega
      refine Pw.again (k, l.take (wrap64 ((l.length : Int) - 1)).toNat) h (Nat.lt_succ_self _) ?_ rfl ?_
      · exact ⟨by rw [← e]; rfl, trivial⟩
      · exact fun w h => allCons ((fact0 h).take _) allNil
    · rw [if_neg c4] at h
      obtain rfl := Option.some.inj h
      try refine Pw.run ?_
      exact Pw.ret_ (x := (some ad, c)) (.tmp rfl .nil) rfl trivial (fun w h => fact0 h)
  · rw [if_neg c1] at h
    obtain rfl := Option.some.inj h
    try refine Pw.run ?_
    exact Pw.ret_ (x := (A, c)) (.tmp rfl .nil) rfl trivial (fun w h => fact0 h)
theorem fit_ct (l : List Int) (x : Option Addr × Nat) (hl : l.length < 1099511627776) : Ct Tryz.prog 64 #[sl l x] (S1 l x) (fun x => .tuple #[sl (fitL l).1 x, .int .i64 (fitL l).2]) Tt (fun x => S1 (fitL l).1 x) := by
  refine Ct.start Tryz.func64 rfl rfl (slots_of rfl slots1) (fun D w0 => ?_)
  try refine Pw.run ?_
  refine Pw.list (Pw.call (trim_ct l x hl) rfl rfl rfl (by kernel_rfl) rfl rfl (fun w h => fact0 h) ?_)
  intro x1 _
  try refine Pw.run ?_
  unfold fitL
  refine Pw.condD rfl (fun c => ?_) (fun c => ?_)
  · rw [if_neg (by omega)]
    try refine Pw.run ?_
    exact Pw.ret_ (x := (none, 0)) (.tmp rfl (.tmp rfl .nil)) rfl trivial (fun w h => Rows.nil _ _ _ _ _)
  · rw [if_pos (by omega)]
    try refine Pw.run ?_
    exact Pw.ret_ (x := x1) (.tmp rfl (.tmp rfl .nil)) rfl trivial (fun w h => fact0 h)
theorem Formed_ct (l : List Int) (x : Option Addr × Nat) (hl : l.length < 1099511627776) : Ct Tryz.prog 67 #[sl l x] (S1 l x) (fun _ : Unit => .bool (fmB l)) Tt (fun _ _ => True) := by
  obtain ⟨A, c⟩ := x
  have h := Formed_ev hl
  generalize fmB l = r at h
  unfold limb_Formed.f at h
  refine Ct.start Tryz.func67 rfl rfl (slots_of rfl slots1) (fun D w0 => ?_)
  try refine Pw.run ?_
  refine Pw.split 6 rfl (fun c1 => ?_) (fun c1 => ?_)
  · rw [if_pos c1] at h
    try refine Pw.run ?_
    refine Pw.split 10 rfl (fun c2 => ?_) (fun c2 => ?_)
    · rw [if_pos c2] at h
      obtain rfl := Option.some.inj h
      try refine Pw.run ?_
      exact Pw.ret_ (x := ()) (.tmp rfl .nil) rfl trivial (fun w h => by trivial)
    · rw [if_neg c2] at h
      obtain ⟨c3, h⟩ := ite_none h
      obtain ⟨c4, h⟩ := ite_none h
      obtain rfl := Option.some.inj h
      try refine Pw.run ?_
      refine Pw.list (Pw.index rfl rfl rfl rfl c3 c4 (fun w h => (fact0 h).has c3 c4) rfl rfl ?_)
      rintro ad rfl
      refine Pw.list (Pw.load1 rfl rfl (fun w hs => by first | exact (fact0 hs.all).cell (by first | assumption | omega) (by first | assumption | omega) | exact (fact1 hs.all).cell (by first | assumption | omega) (by first | assumption | omega) | exact (fact2 hs.all).cell (by first | assumption | omega) (by first | assumption | omega) | exact (fact3 hs.all).cell (by first | assumption | omega) (by first | assumption | omega)) rfl rfl ?_)
      try refine Pw.run ?_
      exact Pw.ret_ (x := ()) (.tmp rfl .nil) (by simp [retv, bne]; rfl) trivial (fun w h => by trivial)
  · rw [if_neg c1] at h
    obtain rfl := Option.some.inj h
    try refine Pw.run ?_
    exact Pw.ret_ (x := ()) (.tmp rfl .nil) rfl trivial (fun w h => by trivial)
theorem formed_1_ct (l : List Int) (x : Option Addr × Nat) (hl : l.length < 1099511627776) : Ct Tryz.prog 77 #[sl l x] (S1 l x) (fun _ : Unit => .bool (!fmB l)) Tt (fun _ _ => True) := by
  refine Ct.start Tryz.func77 rfl rfl (slots_of rfl slots1) (fun D w0 => ?_)
  try refine Pw.run ?_
  refine Pw.list (Pw.call (Formed_ct l x hl) rfl rfl rfl (by kernel_rfl) rfl rfl (fun w h => fact0 h) ?_)
  intro x1 _
  try refine Pw.run ?_
  exact Pw.ret_ (x := ()) (.tmp rfl .nil) rfl trivial (fun w h => by trivial)
/-- Two naturals in a row of the call's own. -/
def Two (a b : List Int) (x y : Option Addr × Nat) (g : Nat) (W : World) : Prop := W.heap[g]? = some (row [sl a x, sl b y] 114) ∧ S1 a x W ∧ S1 b y W
theorem Two.c0 {a b : List Int} {x y : Option Addr × Nat} {g : Nat} {W : World} (h : Two a b x y g W) : W.cell? ((⟨g, 0, none⟩ : Addr).add ((0 : Int).toNat * 1)) = some (sl a x) := by
  rw [add_none, cell_of_blk h.1]; rfl
theorem Two.c1 {a b : List Int} {x y : Option Addr × Nat} {g : Nat} {W : World} (h : Two a b x y g W) : W.cell? ((⟨g, 0, none⟩ : Addr).add ((1 : Int).toNat * 1)) = some (sl b y) := by
  rw [add_none, cell_of_blk h.1]; rfl
theorem IndexFunc_ct (a b : List Int) (x y : Option Addr × Nat) (g : Nat) (ha : a.length < 1099511627776) (hb : b.length < 1099511627776) :
    Ct Tryz.prog 97 #[.slice (some ⟨g, 0, none⟩) 2 2, .func (.func 77) #[] #[]] (Two a b x y g) (fun _ : Unit => .int .i64 (if fmB a then (if fmB b then -1 else 1) else 0)) Tt (fun _ _ => True) := by
  refine Ct.start Tryz.func97 rfl rfl (slots_of rfl slots2) (fun D w0 => ?_)
  try refine Pw.run ?_
  refine Pw.rounds 3 (Pw.round ?_)
  try refine Pw.run ?_
  refine Pw.list (Pw.indexS rfl rfl rfl rfl (by first | assumption | omega) (by first | assumption | omega) rfl rfl ?_)
  refine Pw.list (Pw.load1 rfl rfl (fun w hs => (fact0 hs.all).c0) rfl rfl ?_)
  refine Pw.list (Pw.call (formed_1_ct a x ha) rfl rfl rfl (by kernel_rfl) rfl rfl (fun w h => (fact0 h).2.1) ?_)
  intro _ _
  try refine Pw.run ?_
  cases fmB a
  · try refine Pw.run ?_
    exact Pw.ret_ (x := ()) (.tmp rfl .nil) rfl trivial (fun w h => by trivial)
  · try refine Pw.run ?_
    refine Pw.re (d := 8) (v' := .int .i64 1) rfl (congrArg (Value.int .i64) (wi64 (by omega) (by omega))) ?_
    refine Pw.round ?_
    try refine Pw.run ?_
    refine Pw.list (Pw.indexS rfl rfl rfl rfl (by first | assumption | omega) (by first | assumption | omega) rfl rfl ?_)
    refine Pw.list (Pw.load1 rfl rfl (fun w hs => (fact1 hs.all).c1) rfl rfl ?_)
    refine Pw.list (Pw.call (formed_1_ct b y hb) rfl rfl rfl (by kernel_rfl) rfl rfl (fun w h => (fact1 h).2.2) ?_)
    intro _ _
    try refine Pw.run ?_
    cases fmB b
    · try refine Pw.run ?_
      exact Pw.ret_ (x := ()) (.tmp rfl .nil) rfl trivial (fun w h => by trivial)
    · try refine Pw.run ?_
      refine Pw.re (d := 8) (v' := .int .i64 2) rfl (congrArg (Value.int .i64) (wi64 (by omega) (by omega))) ?_
      refine Pw.round ?_
      try refine Pw.run ?_
      exact Pw.ret_ (x := ()) (.tmp rfl .nil) rfl trivial (fun w h => by trivial)
theorem ContainsFunc_ct (a b : List Int) (x y : Option Addr × Nat) (g : Nat) (ha : a.length < 1099511627776) (hb : b.length < 1099511627776) :
    Ct Tryz.prog 76 #[.slice (some ⟨g, 0, none⟩) 2 2, .func (.func 77) #[] #[]] (Two a b x y g) (fun _ : Unit => .bool (!(fmB a && fmB b))) Tt (fun _ _ => True) := by
  refine Ct.start Tryz.func76 rfl rfl (slots_of rfl slots2) (fun D w0 => ?_)
  try refine Pw.run ?_
  refine Pw.list (Pw.call (IndexFunc_ct a b x y g ha hb) rfl rfl rfl (by kernel_rfl) rfl rfl (fun w h => fact0 h) ?_)
  intro _ _
  try refine Pw.run ?_
  exact Pw.ret_ (x := ()) (.tmp rfl .nil) (by cases fmB a <;> cases fmB b <;> rfl) trivial (fun w h => by trivial)
theorem formed_ct (a b : List Int) (x y : Option Addr × Nat) (g : Nat) (ha : a.length < 1099511627776) (hb : b.length < 1099511627776) :
    Ct Tryz.prog 63 #[.slice (some ⟨g, 0, none⟩) 2 2] (Two a b x y g) (fun _ : Unit => .bool (fmB a && fmB b)) Tt (fun _ _ => True) := by
  refine Ct.start Tryz.func63 rfl rfl (slots_of rfl slots1) (fun D w0 => ?_)
  try refine Pw.run ?_
  refine Pw.list (Pw.call (ContainsFunc_ct a b x y g ha hb) rfl rfl rfl (by kernel_rfl) rfl rfl (fun w h => fact0 h) ?_)
  intro _ _
  try refine Pw.run ?_
  exact Pw.ret_ (x := ()) (.tmp rfl .nil) (by cases fmB a <;> cases fmB b <;> rfl) trivial (fun w h => by trivial)
theorem Of_ct (n : Int) : Ct Tryz.prog 50 #[.int .u64 n] (fun _ => True) (fun x => sl (ofN n) x) Tt (fun x => S1 (ofN n) x) := by
  refine Ct.start Tryz.func50 rfl rfl (slots_of rfl slots1) (fun D w0 => ?_)
  try refine Pw.run ?_
  refine Pw.list (Pw.lit2 rfl rfl rfl rfl rfl rfl rfl rfl rfl rfl rfl (fun g => freeHead ?_))
  refine Pw.list (Pw.call (trim_ct [n % 4294967296, n / 4294967296 % 4294967296] (some ⟨g, 0, none⟩, 2) (by simp)) rfl rfl rfl (by kernel_rfl) rfl rfl (fun w h => ints_of_row' (fact0 h) (by simp) (by simp [maxLen])) ?_)
  intro x1 _
  try refine Pw.run ?_
  exact Pw.ret_ (x := x1) (.tmp rfl .nil) rfl trivial (fun w h => fact0 h)
end Go.Proofs.Wk
/- Walks of layer 1: comparing, copying, adding, subtracting. -/
namespace Go.Proofs.Wk
open Go.RowKit
set_option maxRecDepth 100000
attribute [local irreducible] Pw OpG
set_option linter.unusedVariables false
set_option linter.unusedSimpArgs false
theorem two2 {φ ψ : World → Prop} : ∀ w, All [fun W => φ W ∧ ψ W] w → All [φ, ψ] w := fun w h => allCons (fact0 h).1 (allCons (fact0 h).2 allNil)
theorem some_of {α : Type} {A : Option α} (h : A.isSome = true) : ∃ x, A = some x := Option.isSome_iff_exists.1 h
theorem compare_ct (a b : List Int) (x y : Option Addr × Nat) (ha : Fm a) (hb : Fm b) (hl : a.length < 549755813888) (hl' : b.length < 549755813888) :
    Ct Tryz.prog 78 #[sl a x, sl b y] (fun W => S1 a x W ∧ S1 b y W) (fun _ : Unit => .int .i64 (cmpS (val a) (val b))) Tt (fun _ _ => True) := by
  obtain ⟨A, c⟩ := x
  obtain ⟨B, d⟩ := y
  have h := compare_ev ha hb hl hl' (Nat.lt_succ_self _)
  generalize cmpS (val a) (val b) = r at h
  unfold limb_compare.f at h
  refine Ct.start Tryz.func78 rfl rfl (slots_of rfl slots2) (fun D w0 => Pw.facts two2 ?_)
  try refine Pw.run ?_
  refine Pw.condD rfl (fun c1 => ?_) (fun c1 => ?_)
  · rw [if_pos c1] at h
    obtain rfl := Option.some.inj h
    try refine Pw.run ?_
    exact Pw.ret_ (x := ()) (.tmp rfl .nil) rfl trivial (fun w h => by trivial)
  rw [if_neg c1] at h
  try refine Pw.run ?_
  refine Pw.condD rfl (fun c2 => ?_) (fun c2 => ?_)
  · rw [if_pos c2] at h
    obtain rfl := Option.some.inj h
    try refine Pw.run ?_
    exact Pw.ret_ (x := ()) (.tmp rfl .nil) rfl trivial (fun w h => by trivial)
  rw [if_neg c2] at h
  try refine Pw.run ?_
  refine Pw.loopJ (σ := Nat × Int) (fun s => limb_compare.l0 s.1 a b s.2 = some r) (fun s => ⟨[(0, .slice A a.length c), (1, .slice B b.length d), (5, .int .i64 s.2)], [], [Ints .u32 a A c, Ints .u32 b B d]⟩) (fun s => s.1) (_, _) h (Pw.enter ⟨rfl, rfl, rfl, trivial⟩ (fun _ h => h)) ?_
  rintro ⟨k, i⟩ h
  dsimp only at h ⊢
  obtain _ | k := k
  · cases h
  simp only [limb_compare.l0] at h
  try refine Pw.run ?_
  refine Pw.condD rfl (fun c3 => ?_) (fun c3 => ?_)
  · rw [if_pos c3] at h
    obtain ⟨c4, h⟩ := ite_none h
    obtain ⟨c5, h⟩ := ite_none h
    obtain ⟨c6, h⟩ := ite_none h
    try refine Pw.run ?_
    refine Pw.use (p := A.isSome = true ∧ B.isSome = true) (fun w h => ⟨(fact0 h).has c4 c5, (fact1 h).has c4 c6⟩) (fun hA => ?_)
    obtain ⟨⟨ad, rfl⟩, ⟨bd, rfl⟩⟩ := And.intro (some_of hA.1) (some_of hA.2)
    refine Pw.drawnG mixed rfl rfl ?_
    refine Pw.takeP 0 (nb 10 1) rfl rfl rfl rfl (by kernel_rfl) np sf ?_
    refine Pw.takeP 1 (nb 10 3) rfl rfl rfl rfl (by kernel_rfl) np sf ?_
    refine Pw.takeIx 2 (nb 10 7) rfl rfl rfl rfl rfl (by first | assumption | omega) (by first | assumption | omega) rfl rfl (by kernel_rfl) np sf ?_
    refine Pw.takeLd 3 (nb 10 15) rfl rfl rfl (fun w hS => by first | exact own_cell (fact0 hS) (by first | assumption | omega) (by first | assumption | omega) | exact own_cellX (fact0 hS) (by first | assumption | omega) (by first | assumption | omega) | exact (fact0 hS).cell (by first | assumption | omega) (by first | assumption | omega) | exact (fact1 hS).cell (by first | assumption | omega) (by first | assumption | omega) | exact (fact2 hS).cell (by first | assumption | omega) (by first | assumption | omega) | exact (fact3 hS).cell (by first | assumption | omega) (by first | assumption | omega)) rfl rfl (by kernel_rfl) np sf ?_
    refine Pw.takeP 4 (nb 10 31) rfl rfl rfl rfl (by kernel_rfl) np sf ?_
    refine Pw.takeP 5 (nb 10 63) rfl rfl rfl rfl (by kernel_rfl) np sf ?_
    refine Pw.takeIx 6 (nb 10 127) rfl rfl rfl rfl rfl (by first | assumption | omega) (by first | assumption | omega) rfl rfl (by kernel_rfl) np sf ?_
    refine Pw.takeLd 7 (nb 10 255) rfl rfl rfl (fun w hS => by first | exact own_cell (fact0 hS) (by first | assumption | omega) (by first | assumption | omega) | exact own_cellX (fact0 hS) (by first | assumption | omega) (by first | assumption | omega) | exact (fact0 hS).cell (by first | assumption | omega) (by first | assumption | omega) | exact (fact1 hS).cell (by first | assumption | omega) (by first | assumption | omega) | exact (fact2 hS).cell (by first | assumption | omega) (by first | assumption | omega) | exact (fact3 hS).cell (by first | assumption | omega) (by first | assumption | omega)) rfl rfl (by kernel_rfl) np sf ?_
    refine Pw.takeP 8 (nb 10 511) rfl rfl rfl rfl (by kernel_rfl) np sf ?_
    refine Pw.takeP 9 (nb 10 1023) rfl rfl rfl rfl (by kernel_rfl) np sf ?_
    refine Pw.done (by kernel_rfl) ?_
    try refine Pw.run ?_
    refine Pw.condD rfl (fun c7 => ?_) (fun c7 => ?_)
    · rw [if_pos c7] at h
      obtain rfl := Option.some.inj h
      try refine Pw.run ?_
      exact Pw.ret_ (x := ()) (.tmp rfl .nil) rfl trivial (fun w h => by trivial)
    rw [if_neg c7] at h
    try refine Pw.run ?_
    refine Pw.drawnG mixed rfl rfl ?_
    refine Pw.takeP 0 (nb 10 1) rfl rfl rfl rfl (by kernel_rfl) np sf ?_
    refine Pw.takeP 1 (nb 10 3) rfl rfl rfl rfl (by kernel_rfl) np sf ?_
    refine Pw.takeIx 2 (nb 10 7) rfl rfl rfl rfl rfl (by first | assumption | omega) (by first | assumption | omega) rfl rfl (by kernel_rfl) np sf ?_
    refine Pw.takeLd 3 (nb 10 15) rfl rfl rfl (fun w hS => by first | exact own_cell (fact0 hS) (by first | assumption | omega) (by first | assumption | omega) | exact own_cellX (fact0 hS) (by first | assumption | omega) (by first | assumption | omega) | exact (fact0 hS).cell (by first | assumption | omega) (by first | assumption | omega) | exact (fact1 hS).cell (by first | assumption | omega) (by first | assumption | omega) | exact (fact2 hS).cell (by first | assumption | omega) (by first | assumption | omega) | exact (fact3 hS).cell (by first | assumption | omega) (by first | assumption | omega)) rfl rfl (by kernel_rfl) np sf ?_
    refine Pw.takeP 4 (nb 10 31) rfl rfl rfl rfl (by kernel_rfl) np sf ?_
    refine Pw.takeP 5 (nb 10 63) rfl rfl rfl rfl (by kernel_rfl) np sf ?_
    refine Pw.takeIx 6 (nb 10 127) rfl rfl rfl rfl rfl (by first | assumption | omega) (by first | assumption | omega) rfl rfl (by kernel_rfl) np sf ?_
    refine Pw.takeLd 7 (nb 10 255) rfl rfl rfl (fun w hS => by first | exact own_cell (fact0 hS) (by first | assumption | omega) (by first | assumption | omega) | exact own_cellX (fact0 hS) (by first | assumption | omega) (by first | assumption | omega) | exact (fact0 hS).cell (by first | assumption | omega) (by first | assumption | omega) | exact (fact1 hS).cell (by first | assumption | omega) (by first | assumption | omega) | exact (fact2 hS).cell (by first | assumption | omega) (by first | assumption | omega) | exact (fact3 hS).cell (by first | assumption | omega) (by first | assumption | omega)) rfl rfl (by kernel_rfl) np sf ?_
    refine Pw.takeP 8 (nb 10 511) rfl rfl rfl rfl (by kernel_rfl) np sf ?_
    refine Pw.takeP 9 (nb 10 1023) rfl rfl rfl rfl (by kernel_rfl) np sf ?_
    refine Pw.done (by kernel_rfl) ?_
    try refine Pw.run ?_
    refine Pw.condD rfl (fun c8 => ?_) (fun c8 => ?_)
    · rw [if_pos c8] at h
      obtain rfl := Option.some.inj h
      try refine Pw.run ?_
      exact Pw.ret_ (x := ()) (.tmp rfl .nil) rfl trivial (fun w h => by trivial)
    rw [if_neg c8] at h
    try refine Pw.run ?_
    exact Pw.again (k, wrap64 (i - 1)) h (Nat.lt_succ_self _) ⟨rfl, rfl, rfl, trivial⟩ rfl (fun w h => h)
  · rw [if_neg c3] at h
    obtain rfl := Option.some.inj h
    try refine Pw.run ?_
    exact Pw.ret_ (x := ()) (.tmp rfl .nil) rfl trivial (fun w h => by trivial)
/-- What is read of numbers, cell by cell. -/
theorem Rows.cells {k : IntKind} {l : List Int} {A : Option Addr} {c : Nat} {W : World} (h : Ints k l A c W) : ∀ j u, (l.map (Value.int k))[j]? = some u → ∃ b, A = some b ∧ W.cell? (b.add j) = some u := fun j u hu => by
  rw [List.getElem?_map] at hu
  cases e : l[j]? with
  | none => rw [e] at hu; cases hu
  | some x =>
    rw [e] at hu
    obtain ⟨ad, cs, rfl, _, hR, hc⟩ := h.2.2 j x e
    cases hR
    cases hu
    refine ⟨ad, rfl, ?_⟩
    have := hc 0 _ rfl
    simpa using this
theorem Clone_ct (l : List Int) (x : Option Addr × Nat) (hl : l.length < 1099511627776) : Ct Tryz.prog 79 #[sl l x] (S1 l x) (fun x => sl l x) Tt (fun x => S1 l x) := by
  obtain ⟨A, c⟩ := x
  refine Ct.start Tryz.func79 rfl rfl (slots_of rfl slots1) (fun D w0 => ?_)
  obtain _ | ad := A
  · try refine Pw.run ?_
    refine Pw.use (p := l = []) (fun w h => ?_) (fun hm => ?_)
    · rcases l with _ | ⟨y, ys⟩
      · rfl
      · have := (fact0 h).has (i := 0) (by omega) (by simp); cases this
    · subst hm
      exact Pw.ret_ (x := (none, 0)) (.tmp rfl .nil) rfl trivial (fun w h => Rows.nil _ _ _ _ _)
  · try refine Pw.run ?_
    refine Pw.list (Pw.lit0 rfl rfl rfl rfl (fun g => ?_))
    try refine Pw.run ?_
    refine Pw.list (Pw.appendCopy (news := l.map (Value.int .u32)) rfl rfl rfl rfl rfl rfl (show (l.map (Value.int .u32)).length = l.length * 1 by simp) (fun w hs => (fact0 hs.all).cells) rfl (by simp only [maxLen]; omega) (show l.length * 4 ≤ _ by omega) (.head _) rfl rfl (fun g cap ex h1 h2 => freeHead (Pw.drop ?_)) (fun h0 => Pw.drop ?_))
    · try refine Pw.run ?_
      exact Pw.ret_ (x := (some ⟨g, 0, none⟩, cap)) (.tmp rfl .nil) rfl trivial (fun w h => ints_of_row (fact0 h) (by omega) (by simp only [maxLen]; omega))
    · have e : l = [] := List.eq_nil_of_length_eq_zero h0
      subst e
      try refine Pw.run ?_
      exact Pw.ret_ (x := (some ⟨g, 0, none⟩, 0)) (.tmp rfl .nil) rfl trivial (fun w h => Rows.nil _ _ _ _ _)
end Go.Proofs.Wk
/- Walks of layer 1: adding, subtracting, multiplying. -/
namespace Go.Proofs.Wk
open Go.RowKit
set_option maxRecDepth 100000
attribute [local irreducible] Pw OpG
set_option linter.unusedVariables false
set_option linter.unusedSimpArgs false
theorem andB {a b : Bool} (h : (a && b) = false) : ¬ (a = true ∧ b = true) := by cases a <;> cases b <;> simp_all
theorem zeros_map (k : IntKind) (m : Nat) : List.replicate m (Value.int k 0) = (List.replicate m (0 : Int)).map (Value.int k) := by simp
theorem trim_more : ∀ (k : Nat) (l r : List Int), limb_trim.l0 k l = some r → limb_trim.l0 (k + 1) l = some r
  | 0, l, r, h => by cases h
  | k + 1, l, r, h => by
    unfold limb_trim.l0 at h ⊢
    split at h
    next c1 =>
      rw [if_pos c1]
      obtain ⟨c2, h⟩ := ite_none h
      obtain ⟨c3, h⟩ := ite_none h
      rw [if_pos c2, if_pos c3]
      split at h
      next c4 =>
        obtain ⟨c5, h⟩ := ite_none h
        rw [if_pos c4, if_pos c5]
        exact trim_more k _ r h
      next c4 => rw [if_neg c4]; exact h
    next c1 => rw [if_neg c1]; exact h
theorem trim_some {k : Nat} {l r : List Int} (hl : l.length < 1099511627776) (h : limb_trim.f k l = some r) : r = trimL l := by
  have h1 : ∀ j, limb_trim.l0 (k + j) l = some r := fun j => by
    induction j with
    | zero => exact h
    | succ j ih => exact trim_more _ _ _ ih
  have h2 := trim_ev hl (k := k + (l.length + 1)) (by omega)
  unfold limb_trim.f at h2
  rw [h1] at h2
  exact Option.some.inj h2
theorem fit_some {k : Nat} {l : List Int} {r : List Int × Int} (hl : l.length < 1099511627776) (h : limb_fit.f k l = some r) : r = fitL l := by
  unfold limb_fit.f at h
  obtain ⟨t, ht, h⟩ := Option.bind_eq_some_iff.1 h
  rw [trim_some hl ht] at h
  unfold fitL
  split at h
  next c => rw [if_neg (by omega)]; exact (Option.some.inj h).symm
  next c => rw [if_pos (by omega)]; exact (Option.some.inj h).symm
theorem Mul_ct (a b : List Int) (x y : Option Addr × Nat) (ha : Lm a) (hb : Lm b) (hl : a.length < 1048576) (hl' : b.length < 1048576) :
    Ct Tryz.prog 49 #[sl a x, sl b y] (fun W => S1 a x W ∧ S1 b y W) (fun z => .tuple #[sl (mulS a b).1 z, .int .i64 (mulS a b).2]) Tt (fun z => S1 (mulS a b).1 z) := by
  have h := mul_ev ha hb (by omega) (by omega) (Nat.lt_succ_self _)
  generalize mulS a b = r at h
  obtain ⟨r1, r2⟩ := r
  unfold limb_Mul.f at h
  rw [formed2_ev (by omega) (by omega) (by omega), Option.bind_some] at h
  generalize Nat.succ _ = k at h
  refine Ct.start Tryz.func49 rfl rfl (slots_of rfl slots2) (fun D w0 => Pw.facts two2 ?_)
  try refine Pw.run ?_
  refine Pw.list (Pw.lit2 rfl rfl rfl rfl rfl rfl rfl rfl rfl rfl rfl (fun g => freeHead ?_))
  refine Pw.list (Pw.call (formed_ct a b x y g (by omega) (by omega)) rfl rfl rfl (by kernel_rfl) rfl rfl (fun w h => ⟨fact0 h, fact1 h, fact2 h⟩) ?_)
  intro _ _
  generalize (fmB a && fmB b) = t at h ⊢
  cases t
  · rw [if_neg (by simp)] at h
    obtain ⟨rfl, rfl⟩ := Prod.mk.inj (Option.some.inj h)
    try refine Pw.run ?_
    exact Pw.ret_ (x := (none, 0)) (.tmp rfl (.tmp rfl .nil)) rfl trivial (fun w h => Rows.nil _ _ _ _ _)
  rw [if_pos rfl] at h
  obtain ⟨c1, h⟩ := ite_none h
  obtain ⟨c2, h⟩ := ite_none h
  obtain ⟨A, c⟩ := x
  obtain ⟨B, d⟩ := y
  refine Pw.facts (G' := [Ints .u32 a A c, Ints .u32 b B d]) (fun w h => allCons (fact2 h) (allCons (fact3 h) allNil)) ?_
  obtain ⟨m, hm⟩ : ∃ m, m = a.length + b.length := ⟨_, rfl⟩
  have e1 : wrap64 ((a.length : Int) + b.length) = (m : Int) := by rw [wi64 (by omega) (by omega)]; omega
  rw [e1, Int.toNat_natCast] at h
  try refine Pw.run ?_
  refine Pw.re (d := 21) (v' := .int .i64 (m : Int)) rfl (by rw [e1]) ?_
  refine Pw.list (Pw.make rfl rfl rfl rfl rfl rfl (show 4 * m ≤ _ by omega) (by simp only [maxLen]; omega) rfl rfl (fun g => ?_))
  rw [zeros_map]
  try refine Pw.run ?_
  refine Pw.loopJ (σ := Nat × List Int × Int) (fun s => limb_Mul.l0 s.1 b s.2.1 a (a.length : Int) s.2.2 = some (r1, r2) ∧ s.2.1.length = m)
    (fun s => ⟨[(1, .slice B b.length d), (6, .slice (some ⟨g, 0, none⟩) m m), (23, .slice A a.length c), (24, .int .i64 a.length), (25, .int .i64 s.2.2)], [⟨g, row (s.2.1.map (Value.int .u32)) 135⟩], [Ints .u32 a A c, Ints .u32 b B d]⟩) (fun s => s.1) (k, _, 0) ⟨h, by simp⟩ (Pw.enter ⟨rfl, rfl, rfl, rfl, rfl, trivial⟩ (fun _ h => h)) ?_
  clear h
  rintro ⟨k, out, i⟩ ⟨h, hout⟩
  dsimp only at h hout ⊢
  obtain _ | k := k
  · cases h
  simp only [limb_Mul.l0] at h
  try refine Pw.run ?_
  refine Pw.condD rfl (fun c3 => ?_) (fun c3 => ?_)
  · rw [if_pos c3] at h
    obtain ⟨c4, h⟩ := ite_none h
    obtain ⟨c5, h⟩ := ite_none h
    try refine Pw.run ?_
    refine Pw.list (Pw.index rfl rfl rfl rfl c4 c5 (fun w h => (fact0 h).has c4 c5) rfl rfl ?_)
    rintro ad rfl
    refine Pw.list (Pw.load1 rfl rfl (fun w hs => by first | exact (fact0 hs.all).cell (by first | assumption | omega) (by first | assumption | omega) | exact (fact1 hs.all).cell (by first | assumption | omega) (by first | assumption | omega) | exact (fact2 hs.all).cell (by first | assumption | omega) (by first | assumption | omega) | exact (fact3 hs.all).cell (by first | assumption | omega) (by first | assumption | omega)) rfl rfl ?_)
    try refine Pw.run ?_
    refine Pw.loopJ (σ := Nat × List Int × Int × Int) (fun s => limb_Mul.l1 s.1 b s.2.1 i (rd a i) s.2.2.1 a (a.length : Int) i b (b.length : Int) s.2.2.2 = some (r1, r2) ∧ s.2.1.length = m ∧ s.1 ≤ k)
      (fun s => ⟨[(1, .slice B b.length d), (6, .slice (some ⟨g, 0, none⟩) m m), (7, .int .i64 i), (8, .int .u32 (rd a i)), (9, .int .u64 s.2.2.1), (23, .slice (some ad) a.length c), (24, .int .i64 a.length), (25, .int .i64 i), (30, .slice B b.length d), (31, .int .i64 b.length), (32, .int .i64 s.2.2.2)], [⟨g, row (s.2.1.map (Value.int .u32)) 135⟩], [Ints .u32 a (some ad) c, Ints .u32 b B d]⟩) (fun s => s.1) (k, _, 0, 0) ⟨h, hout, Nat.le_refl _⟩ (Pw.enter ⟨rfl, rfl, rfl, rfl, rfl, rfl, rfl, rfl, rfl, rfl, rfl, trivial⟩ (fun _ h => h)) ?_
    clear h hout
    rintro ⟨k', out, carry, j⟩ ⟨h, hout, hk⟩
    dsimp only at h hout hk ⊢
    obtain _ | k' := k'
    · cases h
    simp only [limb_Mul.l1] at h
    try refine Pw.run ?_
    refine Pw.condD rfl (fun c6 => ?_) (fun c6 => ?_)
    · rw [if_pos c6] at h
      obtain ⟨c7, h⟩ := ite_none h
      obtain ⟨c8, h⟩ := ite_none h
      obtain ⟨c9, h⟩ := ite_none h
      obtain ⟨c10, h⟩ := ite_none h
      try refine Pw.run ?_
      refine Pw.list (Pw.index rfl rfl rfl rfl c7 c8 (fun w h => (fact1 h).has c7 c8) rfl rfl ?_)
      rintro bd rfl
      refine Pw.list (Pw.load1 rfl rfl (fun w hs => by first | exact (fact0 hs.all).cell (by first | assumption | omega) (by first | assumption | omega) | exact (fact1 hs.all).cell (by first | assumption | omega) (by first | assumption | omega) | exact (fact2 hs.all).cell (by first | assumption | omega) (by first | assumption | omega) | exact (fact3 hs.all).cell (by first | assumption | omega) (by first | assumption | omega)) rfl rfl ?_)
      try refine Pw.run ?_
      refine Pw.list (Pw.indexO rfl rfl rfl rfl c9 (by omega) rfl rfl ?_)
      refine Pw.list (Pw.loadI rfl rfl rfl (.head _) c9 c10 rfl rfl ?_)
      try refine Pw.run ?_
      refine Pw.list (Pw.indexO rfl rfl rfl rfl c9 (by omega) rfl rfl ?_)
      refine Pw.list (Pw.storeI rfl rfl rfl rfl rfl c9 c10 .head rfl ?_)
      try refine Pw.run ?_
      exact Pw.again (k', _, _, _) ⟨h, by rw [List.length_set]; exact hout, by omega⟩ (Nat.lt_succ_self _) ⟨rfl, rfl, rfl, rfl, rfl, rfl, rfl, rfl, rfl, rfl, rfl, trivial⟩ rfl (fun w h => h)
    · rw [if_neg c6] at h
      obtain ⟨c9, h⟩ := ite_none h
      obtain ⟨c10, h⟩ := ite_none h
      try refine Pw.run ?_
      refine Pw.list (Pw.indexO rfl rfl rfl rfl c9 (by omega) rfl rfl ?_)
      refine Pw.list (Pw.storeI rfl rfl rfl rfl rfl c9 c10 .head rfl ?_)
      try refine Pw.run ?_
      exact Pw.again (k', _, _) ⟨h, by rw [List.length_set]; exact hout⟩ (by show k' < k + 1; omega) ⟨rfl, rfl, rfl, rfl, rfl, trivial⟩ rfl (fun w h => h)
  · rw [if_neg c3] at h
    obtain ⟨t, ht, h⟩ := Option.bind_eq_some_iff.1 h
    have e2 : t = fitL out := fit_some (by omega) ht
    subst e2
    obtain ⟨rfl, rfl⟩ := Prod.mk.inj (Option.some.inj h)
    subst hout
    refine freeHead ?_
    try refine Pw.run ?_
    refine Pw.list (Pw.call (fit_ct out (some ⟨g, 0, none⟩, out.length) (by omega)) rfl rfl rfl (by kernel_rfl) rfl rfl (fun w h => ints_of_row' (fact0 h) (Nat.le_refl _) (by simp only [maxLen]; omega)) ?_)
    intro z _
    try refine Pw.run ?_
    exact Pw.ret_ (x := z) (.tmp rfl (.tmp rfl .nil)) rfl trivial (fun w h => fact0 h)
end Go.Proofs.Wk
/- Walks of layer 1: subtracting, dividing. -/
namespace Go.Proofs.Wk
open Go.RowKit
set_option maxRecDepth 100000
attribute [local irreducible] Pw OpG
set_option linter.unusedVariables false
set_option linter.unusedSimpArgs false
theorem small_ct (l : List Int) (x : Option Addr × Nat) (b : Int) (ha : Lm l) (hb0 : 0 < b) (hb1 : b ≤ 4294967295) (hl : l.length < 1048576) :
    Ct Tryz.prog 80 #[sl l x, .int .u32 b] (S1 l x) (fun z : (Option Addr × Nat) × (Option Addr × Nat) => .tuple #[sl (natL (val l / b)) z.1, sl (natL (val l % b)) z.2]) Tt (fun z W => S1 (natL (val l / b)) z.1 W ∧ S1 (natL (val l % b)) z.2 W) := by
  obtain ⟨A, c⟩ := x
  have h := small_ev ha hb0 hb1 (by omega) (Nat.lt_succ_self _)
  generalize natL (val l / b) = q at h
  generalize natL (val l % b) = m at h
  generalize Nat.succ _ = k at h
  unfold limb_small.f at h
  obtain ⟨c1, h⟩ := ite_none h
  obtain ⟨c2, h⟩ := ite_none h
  simp only [Int.toNat_natCast] at h
  refine Ct.start Tryz.func80 rfl rfl (slots_of rfl slots2) (fun D w0 => ?_)
  try refine Pw.run ?_
  refine Pw.list (Pw.make rfl rfl rfl rfl rfl rfl (show 4 * l.length ≤ _ by omega) (by simp only [maxLen]; omega) rfl rfl (fun g => ?_))
  rw [zeros_map]
  try refine Pw.run ?_
  refine Pw.loopJ (σ := Nat × List Int × Int × Int) (fun s => limb_small.l0 s.1 l b s.2.1 s.2.2.1 s.2.2.2 = some (q, m) ∧ s.2.1.length = l.length)
    (fun s => ⟨[(0, .slice A l.length c), (1, .int .u32 b), (6, .slice (some ⟨g, 0, none⟩) l.length l.length), (7, .int .u64 s.2.2.1), (8, .int .i64 s.2.2.2)], [⟨g, row (s.2.1.map (Value.int .u32)) 135⟩], [Ints .u32 l A c]⟩) (fun s => s.1) (k, _, 0, _) ⟨h, by simp⟩ (Pw.enter ⟨rfl, rfl, rfl, rfl, rfl, trivial⟩ (fun _ h => h)) ?_
  clear h
  rintro ⟨k, out, rest, i⟩ ⟨h, hout⟩
  dsimp only at h hout ⊢
  obtain _ | k := k
  · cases h
  simp only [limb_small.l0] at h
  try refine Pw.run ?_
  refine Pw.condD rfl (fun c3 => ?_) (fun c3 => ?_)
  · rw [if_pos c3] at h
    obtain ⟨c4, h⟩ := ite_none h
    obtain ⟨c5, h⟩ := ite_none h
    obtain ⟨c6, h⟩ := none_ite h
    obtain ⟨c7, h⟩ := ite_none h
    try refine Pw.run ?_
    refine Pw.list (Pw.index rfl rfl rfl rfl c4 c5 (fun w h => (fact0 h).has c4 c5) rfl rfl ?_)
    rintro ad rfl
    refine Pw.list (Pw.load1 rfl rfl (fun w hs => by first | exact (fact0 hs.all).cell (by first | assumption | omega) (by first | assumption | omega) | exact (fact1 hs.all).cell (by first | assumption | omega) (by first | assumption | omega) | exact (fact2 hs.all).cell (by first | assumption | omega) (by first | assumption | omega) | exact (fact3 hs.all).cell (by first | assumption | omega) (by first | assumption | omega)) rfl rfl ?_)
    try refine Pw.run ?_
    refine Pw.list (Pw.quo rfl rfl rfl c6 rfl rfl rfl ?_)
    try refine Pw.run ?_
    refine Pw.list (Pw.indexO rfl rfl rfl rfl c4 (by omega) rfl rfl ?_)
    refine Pw.list (Pw.storeI rfl rfl rfl rfl rfl c4 c7 .head rfl ?_)
    try refine Pw.run ?_
    refine Pw.list (Pw.rem rfl rfl rfl c6 rfl rfl ?_)
    try refine Pw.run ?_
    exact Pw.again (k, _, _, _) ⟨h, by rw [List.length_set]; exact hout⟩ (Nat.lt_succ_self _) ⟨rfl, rfl, rfl, rfl, rfl, trivial⟩ rfl (fun w h => h)
  · rw [if_neg c3] at h
    obtain ⟨t, ht, h⟩ := Option.bind_eq_some_iff.1 h
    obtain ⟨u, hu, h⟩ := Option.bind_eq_some_iff.1 h
    have e1 := trim_some (by omega) ht
    have e2 := trim_some (by simp) hu
    obtain ⟨rfl, rfl⟩ := Prod.mk.inj (Option.some.inj h)
    subst e1 e2
    refine freeHead ?_
    try refine Pw.run ?_
    refine Pw.re (d := 39) (v' := sl out (some ⟨g, 0, none⟩, l.length)) rfl (congrArg (fun m => Value.slice (some ⟨g, 0, none⟩) m l.length) hout.symm) ?_
    refine Pw.list (Pw.call (trim_ct out (some ⟨g, 0, none⟩, l.length) (by omega)) rfl rfl rfl (by kernel_rfl) rfl rfl (fun w h => ints_of_row' (fact0 h) (by omega) (by simp only [maxLen]; omega)) ?_)
    intro z1 _
    try refine Pw.run ?_
    refine Pw.list (Pw.lit1 rfl rfl rfl rfl rfl rfl rfl rfl rfl (fun g' => freeHead ?_))
    refine Pw.list (Pw.call (trim_ct [rest % 4294967296] (some ⟨g', 0, none⟩, 1) (by simp)) rfl rfl rfl (by kernel_rfl) rfl rfl (fun w h => ints_of_row' (fact0 h) (by simp) (by simp [maxLen])) ?_)
    intro z2 _
    try refine Pw.run ?_
    exact Pw.ret_ (x := (z1, z2)) (.tmp rfl (.tmp rfl .nil)) rfl trivial (fun w h => ⟨fact2 h, fact0 h⟩)
theorem shift_ct (l : List Int) (x : Option Addr × Nat) (s : Int) (out' : List Int) (k : Nat) (h : limb_shift.f k l s = some out') (ho : out'.length = l.length + 1) (hl : l.length < 1048576) :
    CtO Tryz.prog 98 #[sl l x, .int .i64 s] (S1 l x) (fun g : Nat => .slice (some ⟨g, 0, none⟩) (l.length + 1) (l.length + 1)) Tt id (fun _ => row (out'.map (Value.int .u32)) 135) := by
  obtain ⟨A, c⟩ := x
  unfold limb_shift.f at h
  obtain ⟨c1, h⟩ := ite_none h
  obtain ⟨c2, h⟩ := ite_none h
  have e1 : wrap64 ((l.length : Int) + 1) = ((l.length + 1 : Nat) : Int) := wsucc (by omega)
  rw [e1, Int.toNat_natCast] at h
  refine CtO.start Tryz.func98 rfl rfl (slots_of rfl slots2) (fun D w0 => ?_)
  try refine Pw.run ?_
  refine Pw.re (d := 11) (v' := .int .i64 ((l.length + 1 : Nat) : Int)) rfl (by rw [e1]) ?_
  refine Pw.list (Pw.make rfl rfl rfl rfl rfl rfl (show 4 * (l.length + 1) ≤ _ by omega) (by simp only [maxLen]; omega) rfl rfl (fun g => ?_))
  rw [zeros_map]
  try refine Pw.run ?_
  refine Pw.loopJ (σ := Nat × List Int × Int) (fun t => limb_shift.l0 t.1 s t.2.1 l (l.length : Int) t.2.2 = some out' ∧ t.2.1.length = l.length + 1)
    (fun t => ⟨[(1, .int .i64 s), (5, .slice (some ⟨g, 0, none⟩) (l.length + 1) (l.length + 1)), (13, .slice A l.length c), (14, .int .i64 l.length), (15, .int .i64 t.2.2)], [⟨g, row (t.2.1.map (Value.int .u32)) 135⟩], [Ints .u32 l A c]⟩) (fun s => s.1) (k, _, 0) ⟨h, by simp⟩ (Pw.enter ⟨rfl, rfl, rfl, rfl, rfl, trivial⟩ (fun _ h => h)) ?_
  clear h
  rintro ⟨k, out, i⟩ ⟨h, hout⟩
  dsimp only at h hout ⊢
  obtain _ | k := k
  · cases h
  simp only [limb_shift.l0] at h
  try refine Pw.run ?_
  refine Pw.condD rfl (fun c3 => ?_) (fun c3 => ?_)
  · rw [if_pos c3] at h
    obtain ⟨c4, h⟩ := ite_none h
    obtain ⟨c5, h⟩ := ite_none h
    obtain ⟨c6, h⟩ := ite_none h
    obtain ⟨c7, h⟩ := ite_none h
    obtain ⟨c8, h⟩ := ite_none h
    obtain ⟨c9, h⟩ := ite_none h
    try refine Pw.run ?_
    refine Pw.list (Pw.index rfl rfl rfl rfl c4 c5 (fun w h => (fact0 h).has c4 c5) rfl rfl ?_)
    rintro ad rfl
    refine Pw.list (Pw.load1 rfl rfl (fun w hs => by first | exact (fact0 hs.all).cell (by first | assumption | omega) (by first | assumption | omega) | exact (fact1 hs.all).cell (by first | assumption | omega) (by first | assumption | omega) | exact (fact2 hs.all).cell (by first | assumption | omega) (by first | assumption | omega) | exact (fact3 hs.all).cell (by first | assumption | omega) (by first | assumption | omega)) rfl rfl ?_)
    try refine Pw.run ?_
    refine Pw.list (Pw.shl rfl rfl rfl c6 rfl rfl ?_)
    try refine Pw.run ?_
    refine Pw.list (Pw.indexO rfl rfl rfl rfl c4 (by omega) rfl rfl ?_)
    refine Pw.list (Pw.loadI rfl rfl rfl (.head _) c4 c7 rfl rfl ?_)
    try refine Pw.run ?_
    refine Pw.list (Pw.indexO rfl rfl rfl rfl c4 (by omega) rfl rfl ?_)
    refine Pw.list (Pw.storeI rfl rfl rfl rfl rfl c4 c7 .head rfl ?_)
    try refine Pw.run ?_
    refine Pw.list (Pw.indexO rfl rfl rfl rfl c8 (by omega) rfl rfl ?_)
    refine Pw.list (Pw.storeI rfl rfl rfl rfl rfl c8 (by rw [List.length_set]; exact c9) .head rfl ?_)
    try refine Pw.run ?_
    exact Pw.again (k, _, _) ⟨h, by rw [List.length_set, List.length_set]; exact hout⟩ (Nat.lt_succ_self _) ⟨rfl, rfl, rfl, rfl, rfl, trivial⟩ rfl (fun w h => h)
  · rw [if_neg c3] at h
    obtain rfl := Option.some.inj h
    try refine Pw.run ?_
    exact Pw.retO (x := g) (.head _) (.tmp rfl .nil) rfl trivial
theorem unshift_ct (l : List Int) (x : Option Addr × Nat) (s : Int) (k : Nat) (r : List Int) (h : limb_unshift.f k l s = some r) (hl : l.length < 1048577) :
    Ct Tryz.prog 102 #[sl l x, .int .i64 s] (S1 l x) (fun z => sl r z) Tt (fun z => S1 r z) := by
  obtain ⟨A, c⟩ := x
  unfold limb_unshift.f at h
  obtain ⟨c1, h⟩ := ite_none h
  obtain ⟨c2, h⟩ := ite_none h
  rw [Int.toNat_natCast] at h
  refine Ct.start Tryz.func102 rfl rfl (slots_of rfl slots2) (fun D w0 => ?_)
  try refine Pw.run ?_
  refine Pw.list (Pw.make rfl rfl rfl rfl rfl rfl (show 4 * l.length ≤ _ by omega) (by simp only [maxLen]; omega) rfl rfl (fun g => ?_))
  rw [zeros_map]
  try refine Pw.run ?_
  refine Pw.loopJ (σ := Nat × List Int × Int) (fun t => limb_unshift.l0 t.1 l s t.2.1 (l.length : Int) t.2.2 = some r ∧ t.2.1.length = l.length)
    (fun t => ⟨[(0, .slice A l.length c), (1, .int .i64 s), (5, .slice (some ⟨g, 0, none⟩) l.length l.length), (12, .int .i64 l.length), (13, .int .i64 t.2.2)], [⟨g, row (t.2.1.map (Value.int .u32)) 135⟩], [Ints .u32 l A c]⟩) (fun s => s.1) (k, _, 0) ⟨h, by simp⟩ (Pw.enter ⟨rfl, rfl, rfl, rfl, rfl, trivial⟩ (fun _ h => h)) ?_
  clear h
  rintro ⟨k, out, i⟩ ⟨h, hout⟩
  dsimp only at h hout ⊢
  obtain _ | k := k
  · cases h
  simp only [limb_unshift.l0] at h
  try refine Pw.run ?_
  refine Pw.condD rfl (fun c3 => ?_) (fun c3 => ?_)
  · rw [if_pos c3] at h
    obtain ⟨c4, h⟩ := ite_none h
    obtain ⟨c5, h⟩ := ite_none h
    try refine Pw.run ?_
    refine Pw.list (Pw.index rfl rfl rfl rfl c4 c5 (fun w h => (fact0 h).has c4 c5) rfl rfl ?_)
    rintro ad rfl
    refine Pw.list (Pw.load1 rfl rfl (fun w hs => by first | exact (fact0 hs.all).cell (by first | assumption | omega) (by first | assumption | omega) | exact (fact1 hs.all).cell (by first | assumption | omega) (by first | assumption | omega) | exact (fact2 hs.all).cell (by first | assumption | omega) (by first | assumption | omega) | exact (fact3 hs.all).cell (by first | assumption | omega) (by first | assumption | omega)) rfl rfl ?_)
    try refine Pw.run ?_
    refine Pw.condD rfl (fun c6 => ?_) (fun c6 => ?_)
    · rw [if_pos c6] at h
      obtain ⟨c7, h⟩ := ite_none h
      obtain ⟨c8, h⟩ := ite_none h
      obtain ⟨c9, h⟩ := ite_none h
      try refine Pw.run ?_
      refine Pw.list (Pw.indexS rfl rfl rfl rfl (by first | assumption | omega) (by first | assumption | omega) rfl rfl ?_)
      refine Pw.list (Pw.load1 rfl rfl (fun w hs => by first | exact (fact0 hs.all).cell (by first | assumption | omega) (by first | assumption | omega) | exact (fact1 hs.all).cell (by first | assumption | omega) (by first | assumption | omega) | exact (fact2 hs.all).cell (by first | assumption | omega) (by first | assumption | omega) | exact (fact3 hs.all).cell (by first | assumption | omega) (by first | assumption | omega)) rfl rfl ?_)
      try refine Pw.run ?_
      refine Pw.list (Pw.shr rfl rfl rfl c8 rfl rfl ?_)
      try refine Pw.run ?_
      refine Pw.list (Pw.indexO rfl rfl rfl rfl c4 (by omega) rfl rfl ?_)
      refine Pw.list (Pw.storeI rfl rfl rfl rfl rfl c4 c9 .head rfl ?_)
      try refine Pw.run ?_
      exact Pw.again (k, _, _) ⟨h, by rw [List.length_set]; exact hout⟩ (Nat.lt_succ_self _) ⟨rfl, rfl, rfl, rfl, rfl, trivial⟩ rfl (fun w h => h)
    · rw [if_neg c6] at h
      obtain ⟨c8, h⟩ := ite_none h
      obtain ⟨c9, h⟩ := ite_none h
      try refine Pw.run ?_
      refine Pw.list (Pw.shr rfl rfl rfl c8 rfl rfl ?_)
      try refine Pw.run ?_
      refine Pw.list (Pw.indexO rfl rfl rfl rfl c4 (by omega) rfl rfl ?_)
      refine Pw.list (Pw.storeI rfl rfl rfl rfl rfl c4 c9 .head rfl ?_)
      try refine Pw.run ?_
      exact Pw.again (k, _, _) ⟨h, by rw [List.length_set]; exact hout⟩ (Nat.lt_succ_self _) ⟨rfl, rfl, rfl, rfl, rfl, trivial⟩ rfl (fun w h => h)
  · rw [if_neg c3] at h
    obtain ⟨t, ht, h⟩ := Option.bind_eq_some_iff.1 h
    have e1 := trim_some (by omega) ht
    obtain rfl := Option.some.inj h
    subst e1
    refine freeHead ?_
    try refine Pw.run ?_
    refine Pw.re (d := 43) (v' := sl out (some ⟨g, 0, none⟩, l.length)) rfl (congrArg (fun m => Value.slice (some ⟨g, 0, none⟩) m l.length) hout.symm) ?_
    refine Pw.list (Pw.call (trim_ct out (some ⟨g, 0, none⟩, l.length) (by omega)) rfl rfl rfl (by kernel_rfl) rfl rfl (fun w h => ints_of_row' (fact0 h) (by omega) (by simp only [maxLen]; omega)) ?_)
    intro z1 _
    try refine Pw.run ?_
    exact Pw.ret_ (x := z1) (.tmp rfl .nil) rfl trivial (fun w h => fact0 h)
end Go.Proofs.Wk
/- Walks of layer 1: long division. -/
namespace Go.Proofs.Wk
open Go.RowKit
set_option maxRecDepth 100000
attribute [local irreducible] Pw OpG
set_option linter.unusedVariables false
set_option linter.unusedSimpArgs false
theorem wm (z : Int) : wrap64 (z % 4294967296) = z % 4294967296 := wi64 (by omega) (by omega)
theorem take_ct (pre u post v : List Int) (y : Option Addr × Nat) (g o c : Nat) (q : Int) (k : Nat) (b : Bool) (u' : List Int) (ho : pre.length = o) (h : limb_take.f k u v q = some (b, u')) (hl : u.length < 1048578) :
    Ct1 Tryz.prog 100 #[.slice (some ⟨g, o, none⟩) u.length c, sl v y, .int .u64 q] g (row ((pre ++ u ++ post).map (Value.int .u32)) 135) (S1 v y) (fun _ : Unit => .bool b) Tt (fun _ => row ((pre ++ u' ++ post).map (Value.int .u32)) 135) (fun _ _ => True) := by
  obtain ⟨B, d⟩ := y
  unfold limb_take.f at h
  obtain ⟨m, hm⟩ : ∃ m, m = u.length := ⟨_, rfl⟩
  rw [← hm] at h hl ⊢
  refine Ct1.start Tryz.func100 rfl rfl (slots_of rfl slots3) (fun D w0 hD => ?_)
  try refine Pw.run ?_
  refine Pw.loopJ (σ := Nat × List Int × Int × Int × Int) (fun t => limb_take.l0 t.1 t.2.1 v q t.2.2.1 t.2.2.2.1 (m : Int) t.2.2.2.2 = some (b, u') ∧ t.2.1.length = m)
    (fun t => ⟨[(0, .slice (some ⟨g, o, none⟩) m c), (1, .slice B v.length d), (2, .int .u64 q), (7, .int .u64 t.2.2.1), (8, .int .i64 t.2.2.2.1), (13, .int .i64 m), (14, .int .i64 t.2.2.2.2)], [⟨g, row ((pre ++ t.2.1 ++ post).map (Value.int .u32)) 135⟩], [Ints .u32 v B d]⟩) (fun s => s.1) (k, u, 0, 0, 0) ⟨h, hm.symm⟩ (Pw.enter ⟨rfl, rfl, rfl, rfl, rfl, rfl, rfl, trivial⟩ (fun _ h => h)) ?_
  clear h
  rintro ⟨k, out, carry, borrow, i⟩ ⟨h, hout⟩
  dsimp only at h hout ⊢
  obtain _ | k := k
  · cases h
  simp only [limb_take.l0] at h
  try refine Pw.run ?_
  refine Pw.condD rfl (fun c3 => ?_) (fun c3 => ?_)
  · rw [if_pos c3] at h
    try refine Pw.run ?_
    refine Pw.condD rfl (fun c4 => ?_) (fun c4 => ?_)
    · rw [if_pos c4] at h
      obtain ⟨c5, h⟩ := ite_none h
      obtain ⟨c6, h⟩ := ite_none h
      rw [Option.bind_some] at h
      try refine Pw.run ?_
      refine Pw.list (Pw.index rfl rfl rfl rfl c5 c4 (fun w h => (fact0 h).has c5 c4) rfl rfl ?_)
      rintro ad rfl
      refine Pw.list (Pw.load1 rfl rfl (fun w hs => by first | exact (fact0 hs.all).cell (by first | assumption | omega) (by first | assumption | omega) | exact (fact1 hs.all).cell (by first | assumption | omega) (by first | assumption | omega) | exact (fact2 hs.all).cell (by first | assumption | omega) (by first | assumption | omega) | exact (fact3 hs.all).cell (by first | assumption | omega) (by first | assumption | omega)) rfl rfl ?_)
      try refine Pw.run ?_
      refine Pw.list (Pw.indexO rfl rfl rfl rfl c5 (by omega) rfl rfl ?_)
      refine Pw.list (Pw.loadW rfl rfl rfl ho (.head _) c5 c6 rfl rfl ?_)
      try refine Pw.run ?_
      simp only [wm]
      refine Pw.list (Pw.indexO rfl rfl rfl rfl c5 (by omega) rfl rfl ?_)
      refine Pw.list (Pw.storeW rfl rfl rfl rfl rfl ho c5 c6 .head rfl ?_)
      try refine Pw.run ?_
      refine Pw.condD rfl (fun c7 => ?_) (fun c7 => ?_)
      · rw [if_pos c7] at h
        try refine Pw.run ?_
        exact Pw.again (k, _, _, _, _) ⟨h, by rw [List.length_set]; exact hout⟩ (Nat.lt_succ_self _) ⟨rfl, rfl, rfl, rfl, rfl, rfl, rfl, trivial⟩ rfl (fun w h => h)
      · rw [if_neg c7] at h
        try refine Pw.run ?_
        exact Pw.again (k, _, _, _, _) ⟨h, by rw [List.length_set]; exact hout⟩ (Nat.lt_succ_self _) ⟨rfl, rfl, rfl, rfl, rfl, rfl, rfl, trivial⟩ rfl (fun w h => h)
    · rw [if_neg c4] at h
      obtain ⟨c5, h⟩ := ite_none h
      obtain ⟨c6, h⟩ := ite_none h
      rw [Option.bind_some] at h
      try refine Pw.run ?_
      refine Pw.list (Pw.indexO rfl rfl rfl rfl c5 (by omega) rfl rfl ?_)
      refine Pw.list (Pw.loadW rfl rfl rfl ho (.head _) c5 c6 rfl rfl ?_)
      try refine Pw.run ?_
      simp only [wm]
      refine Pw.list (Pw.indexO rfl rfl rfl rfl c5 (by omega) rfl rfl ?_)
      refine Pw.list (Pw.storeW rfl rfl rfl rfl rfl ho c5 c6 .head rfl ?_)
      try refine Pw.run ?_
      refine Pw.condD rfl (fun c7 => ?_) (fun c7 => ?_)
      · rw [if_pos c7] at h
        try refine Pw.run ?_
        exact Pw.again (k, _, _, _, _) ⟨h, by rw [List.length_set]; exact hout⟩ (Nat.lt_succ_self _) ⟨rfl, rfl, rfl, rfl, rfl, rfl, rfl, trivial⟩ rfl (fun w h => h)
      · rw [if_neg c7] at h
        try refine Pw.run ?_
        exact Pw.again (k, _, _, _, _) ⟨h, by rw [List.length_set]; exact hout⟩ (Nat.lt_succ_self _) ⟨rfl, rfl, rfl, rfl, rfl, rfl, rfl, trivial⟩ rfl (fun w h => h)
  · rw [if_neg c3] at h
    obtain ⟨rfl, rfl⟩ := Prod.mk.inj (Option.some.inj h)
    try refine Pw.run ?_
    exact Pw.ret1 (x := ()) hD (.head _) (.tmp rfl .nil) (by simp [retv, bne]; rfl) trivial (fun w h => by trivial)
theorem give_ct (pre u post v : List Int) (y : Option Addr × Nat) (g o c : Nat) (k : Nat) (u' : List Int) (ho : pre.length = o) (h : limb_give.f k u v = some u') (hl : u.length < 1048578) :
    Ct1 Tryz.prog 101 #[.slice (some ⟨g, o, none⟩) u.length c, sl v y] g (row ((pre ++ u ++ post).map (Value.int .u32)) 135) (S1 v y) (fun _ : Unit => .tuple #[]) Tt (fun _ => row ((pre ++ u' ++ post).map (Value.int .u32)) 135) (fun _ _ => True) := by
  obtain ⟨B, d⟩ := y
  unfold limb_give.f at h
  obtain ⟨m, hm⟩ : ∃ m, m = u.length := ⟨_, rfl⟩
  rw [← hm] at h hl ⊢
  refine Ct1.start Tryz.func101 rfl rfl (slots_of rfl slots2) (fun D w0 hD => ?_)
  try refine Pw.run ?_
  refine Pw.loopJ (σ := Nat × List Int × Int × Int) (fun t => limb_give.l0 t.1 t.2.1 v t.2.2.1 (m : Int) t.2.2.2 = some u' ∧ t.2.1.length = m)
    (fun t => ⟨[(0, .slice (some ⟨g, o, none⟩) m c), (1, .slice B v.length d), (4, .int .u64 t.2.2.1), (7, .int .i64 m), (8, .int .i64 t.2.2.2)], [⟨g, row ((pre ++ t.2.1 ++ post).map (Value.int .u32)) 135⟩], [Ints .u32 v B d]⟩) (fun s => s.1) (k, u, 0, 0) ⟨h, hm.symm⟩ (Pw.enter ⟨rfl, rfl, rfl, rfl, rfl, trivial⟩ (fun _ h => h)) ?_
  clear h
  rintro ⟨k, out, carry, i⟩ ⟨h, hout⟩
  dsimp only at h hout ⊢
  obtain _ | k := k
  · cases h
  simp only [limb_give.l0] at h
  try refine Pw.run ?_
  refine Pw.condD rfl (fun c3 => ?_) (fun c3 => ?_)
  · rw [if_pos c3] at h
    obtain ⟨c5, h⟩ := ite_none h
    obtain ⟨c6, h⟩ := ite_none h
    try refine Pw.run ?_
    refine Pw.list (Pw.indexO rfl rfl rfl rfl c5 (by omega) rfl rfl ?_)
    refine Pw.list (Pw.loadW rfl rfl rfl ho (.head _) c5 c6 rfl rfl ?_)
    try refine Pw.run ?_
    refine Pw.condD rfl (fun c4 => ?_) (fun c4 => ?_)
    · rw [if_pos c4] at h
      try refine Pw.run ?_
      refine Pw.list (Pw.index rfl rfl rfl rfl c5 c4 (fun w h => (fact0 h).has c5 c4) rfl rfl ?_)
      rintro ad rfl
      refine Pw.list (Pw.load1 rfl rfl (fun w hs => by first | exact (fact0 hs.all).cell (by first | assumption | omega) (by first | assumption | omega) | exact (fact1 hs.all).cell (by first | assumption | omega) (by first | assumption | omega) | exact (fact2 hs.all).cell (by first | assumption | omega) (by first | assumption | omega) | exact (fact3 hs.all).cell (by first | assumption | omega) (by first | assumption | omega)) rfl rfl ?_)
      try refine Pw.run ?_
      refine Pw.list (Pw.indexO rfl rfl rfl rfl c5 (by omega) rfl rfl ?_)
      refine Pw.list (Pw.storeW rfl rfl rfl rfl rfl ho c5 c6 .head rfl ?_)
      try refine Pw.run ?_
      exact Pw.again (k, _, _, _) ⟨h, by rw [List.length_set]; exact hout⟩ (Nat.lt_succ_self _) ⟨rfl, rfl, rfl, rfl, rfl, trivial⟩ rfl (fun w h => h)
    · rw [if_neg c4] at h
      try refine Pw.run ?_
      refine Pw.list (Pw.indexO rfl rfl rfl rfl c5 (by omega) rfl rfl ?_)
      refine Pw.list (Pw.storeW rfl rfl rfl rfl rfl ho c5 c6 .head rfl ?_)
      try refine Pw.run ?_
      exact Pw.again (k, _, _, _) ⟨h, by rw [List.length_set]; exact hout⟩ (Nat.lt_succ_self _) ⟨rfl, rfl, rfl, rfl, rfl, trivial⟩ rfl (fun w h => h)
  · rw [if_neg c3] at h
    obtain rfl := Option.some.inj h
    try refine Pw.run ?_
    exact Pw.ret1N (x := ()) hD (.head _) .nil rfl trivial (fun w h => by trivial)
end Go.Proofs.Wk
/- Walks of layer 1: the digit's guess. -/
namespace Go.Proofs.Wk
open Go.RowKit
set_option maxRecDepth 100000
attribute [local irreducible] Pw OpG
set_option linter.unusedVariables false
set_option linter.unusedSimpArgs false
theorem guess_ct (u v : List Int) (x y : Option Addr × Nat) (k : Nat) (r : Int) (h : limb_guess.f k u v = some r) (hl : u.length < 1048578) (hl' : v.length < 1048578) :
    Ct Tryz.prog 99 #[sl u x, sl v y] (fun W => S1 u x W ∧ S1 v y W) (fun _ : Unit => .int .u64 r) Tt (fun _ _ => True) := by
  obtain ⟨A, c⟩ := x
  obtain ⟨B, d⟩ := y
  unfold limb_guess.f at h
  obtain ⟨c1, h⟩ := ite_none h
  obtain ⟨c2, h⟩ := ite_none h
  obtain ⟨c3, h⟩ := ite_none h
  obtain ⟨c4, h⟩ := ite_none h
  obtain ⟨c5, h⟩ := ite_none h
  obtain ⟨c6, h⟩ := ite_none h
  obtain ⟨c7, h⟩ := none_ite h
  refine Ct.start Tryz.func99 rfl rfl (slots_of rfl slots2) (fun D w0 => Pw.facts two2 ?_)
  refine Pw.use (p := A.isSome = true ∧ B.isSome = true) (fun w h => ⟨(fact0 h).has c1 c2, (fact1 h).has c5 c6⟩) (fun hA => ?_)
  obtain ⟨⟨ad, rfl⟩, ⟨bd, rfl⟩⟩ := And.intro (some_of hA.1) (some_of hA.2)
  try refine Pw.run ?_
  refine Pw.drawnG mixed rfl rfl ?_
  refine Pw.takeP 0 (nb 15 1) rfl rfl rfl rfl (by kernel_rfl) np sf ?_
  refine Pw.takeP 1 (nb 15 3) rfl rfl rfl rfl (by kernel_rfl) np sf ?_
  refine Pw.takeP 2 (nb 15 7) rfl rfl rfl rfl (by kernel_rfl) np sf ?_
  refine Pw.takeIx 3 (nb 15 15) rfl rfl rfl rfl rfl (by first | assumption | omega) (by first | assumption | omega) rfl rfl (by kernel_rfl) np sf ?_
  refine Pw.takeLd 4 (nb 15 31) rfl rfl rfl (fun w hS => by first | exact own_cell (fact0 hS) (by first | assumption | omega) (by first | assumption | omega) | exact own_cellX (fact0 hS) (by first | assumption | omega) (by first | assumption | omega) | exact (fact0 hS).cell (by first | assumption | omega) (by first | assumption | omega) | exact (fact1 hS).cell (by first | assumption | omega) (by first | assumption | omega) | exact (fact2 hS).cell (by first | assumption | omega) (by first | assumption | omega) | exact (fact3 hS).cell (by first | assumption | omega) (by first | assumption | omega)) rfl rfl (by kernel_rfl) np sf ?_
  refine Pw.takeP 5 (nb 15 63) rfl rfl rfl rfl (by kernel_rfl) np sf ?_
  refine Pw.takeP 6 (nb 15 127) rfl rfl rfl rfl (by kernel_rfl) np sf ?_
  refine Pw.takeP 7 (nb 15 255) rfl rfl rfl rfl (by kernel_rfl) np sf ?_
  refine Pw.takeP 8 (nb 15 511) rfl rfl rfl rfl (by kernel_rfl) np sf ?_
  refine Pw.takeP 9 (nb 15 1023) rfl rfl rfl rfl (by kernel_rfl) np sf ?_
  refine Pw.takeIx 10 (nb 15 2047) rfl rfl rfl rfl rfl (by first | assumption | omega) (by first | assumption | omega) rfl rfl (by kernel_rfl) np sf ?_
  refine Pw.takeLd 11 (nb 15 4095) rfl rfl rfl (fun w hS => by first | exact own_cell (fact0 hS) (by first | assumption | omega) (by first | assumption | omega) | exact own_cellX (fact0 hS) (by first | assumption | omega) (by first | assumption | omega) | exact (fact0 hS).cell (by first | assumption | omega) (by first | assumption | omega) | exact (fact1 hS).cell (by first | assumption | omega) (by first | assumption | omega) | exact (fact2 hS).cell (by first | assumption | omega) (by first | assumption | omega) | exact (fact3 hS).cell (by first | assumption | omega) (by first | assumption | omega)) rfl rfl (by kernel_rfl) np sf ?_
  refine Pw.takeP 12 (nb 15 8191) rfl rfl rfl rfl (by kernel_rfl) np sf ?_
  refine Pw.takeP 13 (nb 15 16383) rfl rfl rfl rfl (by kernel_rfl) np sf ?_
  refine Pw.takeP 14 (nb 15 32767) rfl rfl rfl rfl (by kernel_rfl) np sf ?_
  refine Pw.done (by kernel_rfl) ?_
  try refine Pw.run ?_
  refine Pw.drawnG mixed rfl rfl ?_
  refine Pw.takeP 0 (nb 18 1) rfl rfl rfl rfl (by kernel_rfl) np sf ?_
  refine Pw.takeP 1 (nb 18 3) rfl rfl rfl rfl (by kernel_rfl) np sf ?_
  refine Pw.takeP 2 (nb 18 7) rfl rfl rfl rfl (by kernel_rfl) np sf ?_
  refine Pw.takeP 3 (nb 18 15) rfl rfl rfl rfl (by kernel_rfl) np sf ?_
  refine Pw.takeIx 4 (nb 18 31) rfl rfl rfl rfl rfl (by first | assumption | omega) (by first | assumption | omega) rfl rfl (by kernel_rfl) np sf ?_
  refine Pw.takeLd 5 (nb 18 63) rfl rfl rfl (fun w hS => by first | exact own_cell (fact0 hS) (by first | assumption | omega) (by first | assumption | omega) | exact own_cellX (fact0 hS) (by first | assumption | omega) (by first | assumption | omega) | exact (fact0 hS).cell (by first | assumption | omega) (by first | assumption | omega) | exact (fact1 hS).cell (by first | assumption | omega) (by first | assumption | omega) | exact (fact2 hS).cell (by first | assumption | omega) (by first | assumption | omega) | exact (fact3 hS).cell (by first | assumption | omega) (by first | assumption | omega)) rfl rfl (by kernel_rfl) np sf ?_
  refine Pw.takeP 6 (nb 18 127) rfl rfl rfl rfl (by kernel_rfl) np sf ?_
  refine Pw.takeQuo 7 (nb 18 255) rfl rfl rfl rfl (by first | assumption | omega) rfl rfl rfl (by kernel_rfl) np sf ?_
  refine Pw.takeP 8 (nb 18 511) rfl rfl rfl rfl (by kernel_rfl) np sf ?_
  refine Pw.takeP 9 (nb 18 1023) rfl rfl rfl rfl (by kernel_rfl) np sf ?_
  refine Pw.takeP 10 (nb 18 2047) rfl rfl rfl rfl (by kernel_rfl) np sf ?_
  refine Pw.takeP 11 (nb 18 4095) rfl rfl rfl rfl (by kernel_rfl) np sf ?_
  refine Pw.takeIx 12 (nb 18 8191) rfl rfl rfl rfl rfl (by first | assumption | omega) (by first | assumption | omega) rfl rfl (by kernel_rfl) np sf ?_
  refine Pw.takeLd 13 (nb 18 16383) rfl rfl rfl (fun w hS => by first | exact own_cell (fact0 hS) (by first | assumption | omega) (by first | assumption | omega) | exact own_cellX (fact0 hS) (by first | assumption | omega) (by first | assumption | omega) | exact (fact0 hS).cell (by first | assumption | omega) (by first | assumption | omega) | exact (fact1 hS).cell (by first | assumption | omega) (by first | assumption | omega) | exact (fact2 hS).cell (by first | assumption | omega) (by first | assumption | omega) | exact (fact3 hS).cell (by first | assumption | omega) (by first | assumption | omega)) rfl rfl (by kernel_rfl) np sf ?_
  refine Pw.takeP 14 (nb 18 32767) rfl rfl rfl rfl (by kernel_rfl) np sf ?_
  refine Pw.takeRem 15 (nb 18 65535) rfl rfl rfl rfl (by first | assumption | omega) rfl rfl (by kernel_rfl) np sf ?_
  refine Pw.takeP 16 (nb 18 131071) rfl rfl rfl rfl (by kernel_rfl) np sf ?_
  refine Pw.takeP 17 (nb 18 262143) rfl rfl rfl rfl (by kernel_rfl) np sf ?_
  refine Pw.done (by kernel_rfl) ?_
  try refine Pw.run ?_
  refine Pw.loopJ (σ := Nat × Int × Int) (fun s => limb_guess.l0 s.1 u v (v.length : Int) (u.length : Int) s.2.1 s.2.2 = some r) (fun s => ⟨[(0, .slice (some ad) u.length c), (1, .slice (some bd) v.length d), (5, .int .i64 v.length), (6, .int .i64 u.length), (8, .int .u64 s.2.1), (9, .int .u64 s.2.2)], [], [Ints .u32 u (some ad) c, Ints .u32 v (some bd) d]⟩) (fun s => s.1) (k, _, _) h (Pw.enter ⟨rfl, rfl, rfl, rfl, rfl, rfl, trivial⟩ (fun _ h => h)) ?_
  clear h
  rintro ⟨k, q, rem⟩ h
  dsimp only at h ⊢
  obtain _ | k := k
  · cases h
  simp only [limb_guess.l0] at h
  refine Pw.seq (Pw.seq ?_)
  refine Pw.join (σ := Bool) (fun b => limb_guess.j1 k u v (v.length : Int) (u.length : Int) q rem b = some r) (fun b => ⟨[(0, .slice (some ad) u.length c), (1, .slice (some bd) v.length d), (5, .int .i64 v.length), (6, .int .i64 u.length), (8, .int .u64 q), (9, .int .u64 rem), (66, .bool b)], [], [Ints .u32 u (some ad) c, Ints .u32 v (some bd) d]⟩) ?_ ?_
  · skip
    refine Pw.drawnG mixed rfl rfl ?_
    refine Pw.takeP 0 (nb 23 1) rfl rfl rfl rfl (by kernel_rfl) np sf ?_
    refine Pw.takeP 1 (nb 23 3) rfl rfl rfl rfl (by kernel_rfl) np sf ?_
    refine Pw.takeP 2 (nb 23 7) rfl rfl rfl rfl (by kernel_rfl) np sf ?_
    refine Pw.takeP 3 (nb 23 15) rfl rfl rfl rfl (by kernel_rfl) np sf ?_
    by_cases c8 : q / 4294967296 = 0
    · rw [if_pos c8] at h
      obtain ⟨d1, h⟩ := ite_none h
      obtain ⟨d2, h⟩ := ite_none h
      obtain ⟨d3, h⟩ := ite_none h
      obtain ⟨d4, h⟩ := ite_none h
      refine Pw.re (d := 47) (v' := .bool false) rfl (by simp [c8]) ?_
      refine Pw.takeP 4 (nb 23 31) rfl rfl rfl rfl (by kernel_rfl) np sf ?_
      refine Pw.takeP 5 (nb 23 63) rfl rfl rfl rfl (by kernel_rfl) np sf ?_
      refine Pw.takeP 6 (nb 23 127) rfl rfl rfl rfl (by kernel_rfl) np sf ?_
      refine Pw.takeP 7 (nb 23 255) rfl rfl rfl rfl (by kernel_rfl) np sf ?_
      refine Pw.takeIx 8 (nb 23 511) rfl rfl rfl rfl rfl (by first | assumption | omega) (by first | assumption | omega) rfl rfl (by kernel_rfl) np sf ?_
      refine Pw.takeLd 9 (nb 23 1023) rfl rfl rfl (fun w hS => by first | exact own_cell (fact0 hS) (by first | assumption | omega) (by first | assumption | omega) | exact own_cellX (fact0 hS) (by first | assumption | omega) (by first | assumption | omega) | exact (fact0 hS).cell (by first | assumption | omega) (by first | assumption | omega) | exact (fact1 hS).cell (by first | assumption | omega) (by first | assumption | omega) | exact (fact2 hS).cell (by first | assumption | omega) (by first | assumption | omega) | exact (fact3 hS).cell (by first | assumption | omega) (by first | assumption | omega)) rfl rfl (by kernel_rfl) np sf ?_
      refine Pw.takeP 10 (nb 23 2047) rfl rfl rfl rfl (by kernel_rfl) np sf ?_
      refine Pw.takeP 11 (nb 23 4095) rfl rfl rfl rfl (by kernel_rfl) np sf ?_
      refine Pw.takeP 12 (nb 23 8191) rfl rfl rfl rfl (by kernel_rfl) np sf ?_
      refine Pw.takeP 13 (nb 23 16383) rfl rfl rfl rfl (by kernel_rfl) np sf ?_
      refine Pw.takeP 14 (nb 23 32767) rfl rfl rfl rfl (by kernel_rfl) np sf ?_
      refine Pw.takeP 15 (nb 23 65535) rfl rfl rfl rfl (by kernel_rfl) np sf ?_
      refine Pw.takeP 16 (nb 23 131071) rfl rfl rfl rfl (by kernel_rfl) np sf ?_
      refine Pw.takeIx 17 (nb 23 262143) rfl rfl rfl rfl rfl (by first | assumption | omega) (by first | assumption | omega) rfl rfl (by kernel_rfl) np sf ?_
      refine Pw.takeLd 18 (nb 23 524287) rfl rfl rfl (fun w hS => by first | exact own_cell (fact0 hS) (by first | assumption | omega) (by first | assumption | omega) | exact own_cellX (fact0 hS) (by first | assumption | omega) (by first | assumption | omega) | exact (fact0 hS).cell (by first | assumption | omega) (by first | assumption | omega) | exact (fact1 hS).cell (by first | assumption | omega) (by first | assumption | omega) | exact (fact2 hS).cell (by first | assumption | omega) (by first | assumption | omega) | exact (fact3 hS).cell (by first | assumption | omega) (by first | assumption | omega)) rfl rfl (by kernel_rfl) np sf ?_
      refine Pw.takeP 19 (nb 23 1048575) rfl rfl rfl rfl (by kernel_rfl) np sf ?_
      refine Pw.takeP 20 (nb 23 2097151) rfl rfl rfl rfl (by kernel_rfl) np sf ?_
      refine Pw.takeP 21 (nb 23 4194303) rfl rfl rfl rfl (by kernel_rfl) np sf ?_
      refine Pw.takeP 22 (nb 23 8388607) rfl rfl rfl rfl (by kernel_rfl) np sf ?_
      refine Pw.done (by kernel_rfl) ?_
      exact Pw.arrive _ h ⟨rfl, rfl, rfl, rfl, rfl, rfl, rfl, trivial⟩ rfl (fun w h => h)
    · rw [if_neg c8] at h
      refine Pw.re (d := 47) (v' := .bool true) rfl (by simp [c8]) ?_
      refine Pw.takeO 4 (nb 23 31) rfl rfl rfl (by kernel_rfl) np sf ?_
      refine Pw.takeO 5 (nb 23 63) rfl rfl rfl (by kernel_rfl) np sf ?_
      refine Pw.takeO 6 (nb 23 127) rfl rfl rfl (by kernel_rfl) np sf ?_
      refine Pw.takeO 7 (nb 23 255) rfl rfl rfl (by kernel_rfl) np sf ?_
      refine Pw.takeO 8 (nb 23 511) rfl rfl rfl (by kernel_rfl) np sf ?_
      refine Pw.takeO 9 (nb 23 1023) rfl rfl rfl (by kernel_rfl) np sf ?_
      refine Pw.takeO 10 (nb 23 2047) rfl rfl rfl (by kernel_rfl) np sf ?_
      refine Pw.takeO 11 (nb 23 4095) rfl rfl rfl (by kernel_rfl) np sf ?_
      refine Pw.takeO 12 (nb 23 8191) rfl rfl rfl (by kernel_rfl) np sf ?_
      refine Pw.takeO 13 (nb 23 16383) rfl rfl rfl (by kernel_rfl) np sf ?_
      refine Pw.takeO 14 (nb 23 32767) rfl rfl rfl (by kernel_rfl) np sf ?_
      refine Pw.takeO 15 (nb 23 65535) rfl rfl rfl (by kernel_rfl) np sf ?_
      refine Pw.takeO 16 (nb 23 131071) rfl rfl rfl (by kernel_rfl) np sf ?_
      refine Pw.takeO 17 (nb 23 262143) rfl rfl rfl (by kernel_rfl) np sf ?_
      refine Pw.takeO 18 (nb 23 524287) rfl rfl rfl (by kernel_rfl) np sf ?_
      refine Pw.takeO 19 (nb 23 1048575) rfl rfl rfl (by kernel_rfl) np sf ?_
      refine Pw.takeO 20 (nb 23 2097151) rfl rfl rfl (by kernel_rfl) np sf ?_
      refine Pw.takeO 21 (nb 23 4194303) rfl rfl rfl (by kernel_rfl) np sf ?_
      refine Pw.takeP 22 (nb 23 8388607) rfl rfl rfl rfl (by kernel_rfl) np sf ?_
      refine Pw.done (by kernel_rfl) ?_
      exact Pw.arrive true h ⟨rfl, rfl, rfl, rfl, rfl, rfl, rfl, trivial⟩ rfl (fun w h => h)
  clear h
  intro b h
  dsimp only at h ⊢
  obtain _ | k := k
  · cases h
  simp only [limb_guess.j1] at h
  refine Pw.condB rfl (fun hb => ?_) (fun hb => ?_)
  · rw [if_pos hb] at h
    obtain ⟨d1, h⟩ := ite_none h
    obtain ⟨d2, h⟩ := ite_none h
    try refine Pw.run ?_
    refine Pw.list (Pw.indexS rfl rfl rfl rfl (by first | assumption | omega) (by first | assumption | omega) rfl rfl ?_)
    refine Pw.list (Pw.load1 rfl rfl (fun w hs => by first | exact (fact0 hs.all).cell (by first | assumption | omega) (by first | assumption | omega) | exact (fact1 hs.all).cell (by first | assumption | omega) (by first | assumption | omega) | exact (fact2 hs.all).cell (by first | assumption | omega) (by first | assumption | omega) | exact (fact3 hs.all).cell (by first | assumption | omega) (by first | assumption | omega)) rfl rfl ?_)
    try refine Pw.run ?_
    refine Pw.condD rfl (fun c8 => ?_) (fun c8 => ?_)
    · rw [if_neg c8] at h
      obtain rfl := Option.some.inj h
      try refine Pw.run ?_
      exact Pw.ret_ (x := ()) (.tmp rfl .nil) rfl trivial (fun w h => by trivial)
    · rw [if_pos (Decidable.not_not.1 c8)] at h
      try refine Pw.run ?_
      exact Pw.again (k, _, _) h (by show k < k + 2; omega) ⟨rfl, rfl, rfl, rfl, rfl, rfl, trivial⟩ rfl (fun w h => h)
  · rw [if_neg (by simp [hb])] at h
    obtain rfl := Option.some.inj h
    try refine Pw.run ?_
    exact Pw.ret_ (x := ()) (.tmp rfl .nil) rfl trivial (fun w h => by trivial)
end Go.Proofs.Wk
/- Walks of layer 1: long division's loop. -/
namespace Go.Proofs.Wk
open Go.RowKit
set_option maxRecDepth 100000
attribute [local irreducible] Pw OpG
set_option linter.unusedVariables false
set_option linter.unusedSimpArgs false
theorem win (u : List Int) (i m : Nat) : u.take i ++ (u.drop i).take m ++ u.drop (i + m) = u := by
  rw [List.append_assoc, ← List.drop_drop, List.take_append_drop, List.take_append_drop]
theorem shift_len0 : ∀ (k : Nat) (s : Int) (out l : List Int) (n i : Int) (r : List Int), limb_shift.l0 k s out l n i = some r → r.length = out.length
  | 0, s, out, l, n, i, r, h => by cases h
  | k + 1, s, out, l, n, i, r, h => by
    simp only [limb_shift.l0] at h
    split at h
    · obtain ⟨_, h⟩ := ite_none h
      obtain ⟨_, h⟩ := ite_none h
      obtain ⟨_, h⟩ := ite_none h
      obtain ⟨_, h⟩ := ite_none h
      obtain ⟨_, h⟩ := ite_none h
      obtain ⟨_, h⟩ := ite_none h
      rw [shift_len0 k _ _ _ _ _ _ h, List.length_set, List.length_set]
    · rw [Option.some.inj h]
theorem shift_len {k : Nat} {l r : List Int} {s : Int} (h : limb_shift.f k l s = some r) (hl : l.length < 1048576) : r.length = l.length + 1 := by
  unfold limb_shift.f at h
  obtain ⟨_, h⟩ := ite_none h
  obtain ⟨_, h⟩ := ite_none h
  rw [shift_len0 _ _ _ _ _ _ _ h, List.length_replicate, wi64 (by omega) (by omega)]; omega
theorem take_len0 : ∀ (k : Nat) (u v : List Int) (q c d n i : Int) (r : Bool × List Int), limb_take.l0 k u v q c d n i = some r → r.2.length = u.length
  | 0, u, v, q, c, d, n, i, r, h => by cases h
  | k + 1, u, v, q, c, d, n, i, r, h => by
    simp only [limb_take.l0] at h
    split at h
    · split at h
      · obtain ⟨_, h⟩ := ite_none h
        obtain ⟨_, h⟩ := ite_none h
        rw [Option.bind_some] at h
        split at h <;> rw [take_len0 k _ _ _ _ _ _ _ _ h, List.length_set]
      · obtain ⟨_, h⟩ := ite_none h
        obtain ⟨_, h⟩ := ite_none h
        rw [Option.bind_some] at h
        split at h <;> rw [take_len0 k _ _ _ _ _ _ _ _ h, List.length_set]
    · rw [← Option.some.inj h]
theorem give_len0 : ∀ (k : Nat) (u v : List Int) (c n i : Int) (r : List Int), limb_give.l0 k u v c n i = some r → r.length = u.length
  | 0, u, v, c, n, i, r, h => by cases h
  | k + 1, u, v, c, n, i, r, h => by
    simp only [limb_give.l0] at h
    split at h
    · obtain ⟨_, h⟩ := ite_none h
      obtain ⟨_, h⟩ := ite_none h
      split at h <;> rw [give_len0 k _ _ _ _ _ _ h, List.length_set]
    · rw [← Option.some.inj h]
theorem long_ct (a b : List Int) (x y : Option Addr × Nat) (ha : Lm a) (hb : Fm b) (hn2 : 2 ≤ b.length) (hab : b.length ≤ a.length) (hl : a.length < 1048576) :
    Ct Tryz.prog 81 #[sl a x, sl b y] (fun W => S1 a x W ∧ S1 b y W) (fun z : (Option Addr × Nat) × (Option Addr × Nat) => .tuple #[sl (natL (val a / val b)) z.1, sl (natL (val a % val b)) z.2]) Tt (fun z W => S1 (natL (val a / val b)) z.1 W ∧ S1 (natL (val a % val b)) z.2 W) := by
  obtain ⟨A, c⟩ := x
  obtain ⟨B, d⟩ := y
  have h := long_ev ha hb hn2 hab (by omega) (Nat.lt_succ_self _)
  generalize natL (val a / val b) = q at h
  generalize natL (val a % val b) = m at h
  generalize Nat.succ _ = k at h
  unfold limb_long.f at h
  refine Ct.start Tryz.func81 rfl rfl (slots_of rfl slots2) (fun D w0 => Pw.facts two2 ?_)
  refine Pw.use (p := B.isSome = true) (fun w h => (fact1 h).has (i := 0) (by omega) (by omega)) (fun hB => ?_)
  obtain ⟨bd, rfl⟩ := some_of hB
  try refine Pw.run ?_
  refine Pw.loopJ (σ := Nat × Int) (fun s => limb_long.l0 s.1 a b s.2 = some (q, m)) (fun s => ⟨[(0, .slice A a.length c), (1, .slice (some bd) b.length d), (6, .int .i64 s.2)], [], [Ints .u32 a A c, Ints .u32 b (some bd) d]⟩) (fun s => s.1) (k, 0) h (Pw.enter ⟨rfl, rfl, rfl, trivial⟩ (fun _ h => h)) ?_
  clear h
  rintro ⟨k, s⟩ h
  dsimp only at h ⊢
  obtain _ | k := k
  · cases h
  simp only [limb_long.l0] at h
  obtain ⟨c1, h⟩ := ite_none h
  obtain ⟨c2, h⟩ := ite_none h
  obtain ⟨c3, h⟩ := ite_none h
  try refine Pw.run ?_
  refine Pw.list (Pw.indexS rfl rfl rfl rfl (by first | assumption | omega) (by first | assumption | omega) rfl rfl ?_)
  refine Pw.list (Pw.load1 rfl rfl (fun w hs => by first | exact (fact0 hs.all).cell (by first | assumption | omega) (by first | assumption | omega) | exact (fact1 hs.all).cell (by first | assumption | omega) (by first | assumption | omega) | exact (fact2 hs.all).cell (by first | assumption | omega) (by first | assumption | omega) | exact (fact3 hs.all).cell (by first | assumption | omega) (by first | assumption | omega)) rfl rfl ?_)
  try refine Pw.run ?_
  refine Pw.list (Pw.shl rfl rfl rfl c3 rfl rfl ?_)
  try refine Pw.run ?_
  refine Pw.condD rfl (fun c4 => ?_) (fun c4 => ?_)
  · rw [if_pos c4] at h
    try refine Pw.run ?_
    exact Pw.again (k, _) h (Nat.lt_succ_self _) ⟨rfl, rfl, rfl, trivial⟩ rfl (fun w h => h)
  rw [if_neg c4] at h
  obtain ⟨vv, hv, h⟩ := Option.bind_eq_some_iff.1 h
  have hvv := shift_len hv (by omega)
  obtain ⟨c5, h⟩ := ite_none h
  obtain ⟨c6, h⟩ := ite_none h
  rw [Option.bind_some, Int.toNat_natCast] at h
  obtain ⟨u, hu, h⟩ := Option.bind_eq_some_iff.1 h
  have hul := shift_len hu hl
  obtain ⟨v, hvt⟩ : ∃ v, vv.take b.length = v := ⟨_, rfl⟩
  have hvl : v.length = b.length := by rw [← hvt, List.length_take]; omega
  rw [hvt, hul, hvl] at h
  obtain ⟨c7, h⟩ := ite_none h
  obtain ⟨c8, h⟩ := ite_none h
  rw [Option.bind_some] at h
  obtain ⟨n, hn⟩ : ∃ n, n = a.length + 1 - b.length := ⟨_, rfl⟩
  have e1 : wrap64 (((a.length + 1 : Nat) : Int) - (b.length : Int)) = (n : Int) := by rw [wi64 (by omega) (by omega)]; omega
  rw [e1, Int.toNat_natCast, List.length_replicate] at h
  try refine Pw.run ?_
  refine Pw.list (Pw.callO (shift_ct b (some bd, d) s vv k hv hvv (by omega)) rfl rfl rfl (by kernel_rfl) rfl rfl (fun w h => fact1 h) ?_)
  intro g _
  try refine Pw.run ?_
  refine Pw.list (Pw.cutTo rfl rfl rfl rfl c5 (by omega) rfl rfl (freeHead ?_))
  refine Pw.facts (G' := [Ints .u32 a A c, Ints .u32 v (some ⟨g, 0, none⟩) (b.length + 1)]) (fun w h => allCons (fact1 h) (allCons (by
    have := ints_of_row' (c := b.length + 1) (fact0 h) (by omega) (by simp only [maxLen]; omega)
    rw [← hvt]; exact this.take _) allNil)) ?_
  refine Pw.re (d := 30) (v' := sl v (some ⟨g, 0, none⟩, b.length + 1)) rfl (congrArg (fun m => Value.slice (some ⟨g, 0, none⟩) m (b.length + 1)) (by rw [hvl]; rfl)) ?_
  try refine Pw.run ?_
  refine Pw.list (Pw.callO (shift_ct a (A, c) s u k hu hul (by omega)) rfl rfl rfl (by kernel_rfl) rfl rfl (fun w h => fact0 h) ?_)
  intro gu _
  try refine Pw.run ?_
  refine Pw.re (d := 38) (v' := .int .i64 (n : Int)) rfl (by rw [← e1, hvl]) ?_
  refine Pw.list (Pw.make rfl rfl rfl rfl rfl rfl (show 4 * n ≤ _ by omega) (by simp only [maxLen]; omega) rfl rfl (fun gq => ?_))
  rw [zeros_map]
  try refine Pw.run ?_
  refine Pw.loopJ (σ := Nat × List Int × List Int × Int) (fun t => limb_long.l1 t.1 s v t.2.1 t.2.2.1 t.2.2.2 = some (q, m) ∧ t.2.1.length = a.length + 1 ∧ t.2.2.1.length = n)
    (fun t => ⟨[(6, .int .i64 s), (7, .slice (some ⟨g, 0, none⟩) v.length (b.length + 1)), (8, .slice (some ⟨gu, 0, none⟩) (a.length + 1) (a.length + 1)), (9, .slice (some ⟨gq, 0, none⟩) n n), (10, .int .i64 t.2.2.2)], [⟨gq, row (t.2.2.1.map (Value.int .u32)) 135⟩, ⟨gu, row (t.2.1.map (Value.int .u32)) 135⟩], [Ints .u32 v (some ⟨g, 0, none⟩) (b.length + 1)]⟩) (fun s => s.1) (k, u, _, _) ⟨h, hul, by simp⟩ (Pw.enter ⟨rfl, rfl, rfl, rfl, rfl, trivial⟩ (fun _ h => allCons (fact1 h) allNil)) ?_
  clear h hu hul hv hvt
  rintro ⟨k, u, qq, i⟩ ⟨h, hul, hql⟩
  dsimp only at h hul hql ⊢
  obtain _ | k := k
  · cases h
  simp only [limb_long.l1] at h
  try refine Pw.run ?_
  refine Pw.condD rfl (fun d1 => ?_) (fun d1 => ?_)
  · rw [if_pos d1] at h
    obtain ⟨gs, hg, h⟩ := Option.bind_eq_some_iff.1 h
    obtain ⟨⟨bb, u1⟩, ht, h⟩ := Option.bind_eq_some_iff.1 h
    unfold limb_guess.w at hg
    unfold limb_take.w at ht
    obtain ⟨⟨_, d2⟩, hg⟩ := ite_none hg
    obtain ⟨_, ht⟩ := ite_none ht
    obtain ⟨o, ho⟩ : ∃ o, i.toNat = o := ⟨_, rfl⟩
    rw [ho] at hg ht d2
    obtain ⟨wn, hwn⟩ : ∃ w, (u.drop o).take (v.length + 1) = w := ⟨_, rfl⟩
    have hwl : wn.length = v.length + 1 := by rw [← hwn, List.length_take, List.length_drop]; omega
    have hue : u.take o ++ wn ++ u.drop (o + (v.length + 1)) = u := by rw [← hwn]; exact win u o _
    have hpl : (u.take o).length = o := by rw [List.length_take]; omega
    rw [hwn] at hg ht
    obtain ⟨⟨b2, w2⟩, ht2, h2⟩ := Option.bind_eq_some_iff.1 ht
    have hw2 : w2.length = wn.length := take_len0 _ _ _ _ _ _ _ _ _ ht2
    obtain ⟨rfl, rfl⟩ := Prod.mk.inj (Option.some.inj h2)
    dsimp only at h
    try refine Pw.run ?_
    have e2 : wrap64 (wrap64 (i + (v.length : Int)) + 1) = ((o + (v.length + 1) : Nat) : Int) := by rw [wi64 (n := i + (v.length : Int)) (by omega) (by omega), wi64 (by omega) (by omega)]; omega
    refine Pw.re (d := 53) (v' := .int .i64 ((o + (v.length + 1) : Nat) : Int)) rfl (by rw [e2]) ?_
    refine Pw.list (Pw.cut rfl rfl rfl rfl rfl d1 (by omega) (by omega) (by omega) rfl rfl ?_)
    refine Pw.re (d := 54) (v' := .slice (some ⟨gu, o, none⟩) wn.length (a.length + 1 - o)) rfl (by rw [ho, hwl]; show Value.slice (some (Addr.add ⟨gu, 0, none⟩ (o * 1))) (o + (v.length + 1) - o) _ = _; rw [Nat.mul_one, add_none, Nat.zero_add, show o + (v.length + 1) - o = v.length + 1 by omega]) ?_
    try refine Pw.run ?_
    refine Pw.list (Pw.callR (guess_ct wn v (some ⟨gu, o, none⟩, a.length + 1 - o) (some ⟨g, 0, none⟩, b.length + 1) k gs hg (by omega) (by omega)) rfl rfl rfl (by kernel_rfl) rfl rfl (fun w hs => ⟨ints_of_rowW (pre := u.take o) (post := u.drop (o + (v.length + 1))) (by rw [hue]; exact hs.own _ (.tail _ (.head _))) hpl (by omega) (by simp only [maxLen]; omega), fact0 hs.all⟩) ?_)
    intro _ _
    try refine Pw.run ?_
    refine Pw.list (Pw.call1 (L' := fun _ => [⟨gq, _⟩, ⟨gu, _⟩]) (take_ct (u.take o) wn (u.drop (o + (v.length + 1))) v (some ⟨g, 0, none⟩, b.length + 1) gu o (a.length + 1 - o) gs k b2 w2 hpl ht2 (by omega)) rfl rfl rfl (by kernel_rfl) rfl rfl (fun w h => fact0 h) (by rw [hue]; exact .tail _ (.head _)) (fun _ => by rw [hue]; exact .tail .head) ?_)
    intro _ _
    obtain ⟨u1, hu1⟩ : ∃ z, u.take o ++ w2 ++ u.drop (o + (v.length + 1)) = z := ⟨_, rfl⟩
    have hu1l : u1.length = a.length + 1 := by rw [← hu1, List.length_append, List.length_append, List.length_take, List.length_drop]; omega
    rw [ho, hu1] at h
    rw [hu1]
    clear hu1
    refine Pw.facts (G' := [Ints .u32 v (some ⟨g, 0, none⟩) (b.length + 1)]) (fun w h => allCons (fact1 h) allNil) ?_
    try refine Pw.run ?_
    refine Pw.condB rfl (fun hb => ?_) (fun hb => ?_)
    · rw [if_pos hb] at h
      obtain ⟨u3, hg3, h⟩ := Option.bind_eq_some_iff.1 h
      unfold limb_give.w at hg3
      obtain ⟨⟨_, d3⟩, hg3⟩ := ite_none hg3
      rw [ho] at hg3 d3
      obtain ⟨wn1, hwn1⟩ : ∃ w, (u1.drop o).take (v.length + 1) = w := ⟨_, rfl⟩
      have hwl1 : wn1.length = wn.length := by rw [← hwn1, List.length_take, List.length_drop]; omega
      have hue1 : u1.take o ++ wn1 ++ u1.drop (o + (v.length + 1)) = u1 := by rw [← hwn1]; exact win u1 o _
      have hpl1 : (u1.take o).length = o := by rw [List.length_take]; omega
      rw [hwn1] at hg3
      obtain ⟨w3, hg4, h3⟩ := Option.bind_eq_some_iff.1 hg3
      have hw3 : w3.length = wn1.length := give_len0 _ _ _ _ _ _ _ hg4
      obtain rfl := Option.some.inj h3
      obtain ⟨d4, h⟩ := ite_none h
      obtain ⟨d5, h⟩ := ite_none h
      try refine Pw.run ?_
      refine Pw.re (d := 64) (v' := .slice (some ⟨gu, o, none⟩) wn1.length (a.length + 1 - o)) rfl (by rw [hwl1]) ?_
      refine Pw.list (Pw.call1 (L' := fun _ => [⟨gq, _⟩, ⟨gu, _⟩]) (give_ct (u1.take o) wn1 (u1.drop (o + (v.length + 1))) v (some ⟨g, 0, none⟩, b.length + 1) gu o (a.length + 1 - o) k w3 hpl1 hg4 (by omega)) rfl rfl rfl (by kernel_rfl) rfl rfl (fun w h => fact0 h) (by rw [hue1]; exact .tail _ (.head _)) (fun _ => by rw [hue1]; exact .tail .head) ?_)
      intro _ _
      try refine Pw.run ?_
      refine Pw.list (Pw.indexO rfl rfl rfl rfl d4 (by omega) rfl rfl ?_)
      refine Pw.list (Pw.storeI rfl rfl rfl rfl rfl d4 d5 .head rfl ?_)
      try refine Pw.run ?_
      exact Pw.again (k, _, _, _) ⟨h, by rw [List.length_append, List.length_append, List.length_take, List.length_drop]; omega, by rw [List.length_set]; exact hql⟩ (Nat.lt_succ_self _) ⟨rfl, rfl, rfl, rfl, rfl, trivial⟩ (by rw [ho]) (fun w h => allCons (fact1 h) allNil)
    · rw [if_neg (by simp [hb])] at h
      obtain ⟨d4, h⟩ := ite_none h
      obtain ⟨d5, h⟩ := ite_none h
      try refine Pw.run ?_
      refine Pw.list (Pw.indexO rfl rfl rfl rfl d4 (by omega) rfl rfl ?_)
      refine Pw.list (Pw.storeI rfl rfl rfl rfl rfl d4 d5 .head rfl ?_)
      try refine Pw.run ?_
      exact Pw.again (k, _, _, _) ⟨h, hu1l, by rw [List.length_set]; exact hql⟩ (Nat.lt_succ_self _) ⟨rfl, rfl, rfl, rfl, rfl, trivial⟩ (by rw [ho]) (fun w h => h)
  · rw [if_neg d1] at h
    obtain ⟨t, ht, h⟩ := Option.bind_eq_some_iff.1 h
    have e1 := trim_some (by omega) ht
    subst e1
    obtain ⟨d2, h⟩ := ite_none h
    obtain ⟨d3, h⟩ := ite_none h
    obtain ⟨r2, hr, h⟩ := Option.bind_eq_some_iff.1 h
    obtain ⟨rfl, rfl⟩ := Prod.mk.inj (Option.some.inj h)
    refine freeHead (freeHead ?_)
    try refine Pw.run ?_
    refine Pw.drawnG mixed rfl rfl ?_
    refine Pw.takeP 0 (nb 10 1) rfl rfl rfl rfl (by kernel_rfl) np sf ?_
    refine Pw.takeP 2 (nb 10 5) rfl rfl rfl rfl (by kernel_rfl) np sf ?_
    refine Pw.takeP 3 (nb 10 13) rfl rfl rfl rfl (by kernel_rfl) np sf ?_
    refine Pw.takeP 4 (nb 10 29) rfl rfl rfl rfl (by kernel_rfl) np sf ?_
    refine Pw.takeCut 5 (nb 10 61) rfl rfl rfl rfl rfl (by first | assumption | omega) (by first | assumption | omega) rfl rfl (by kernel_rfl) np sf ?_
    refine Pw.takeP 6 (nb 10 125) rfl rfl rfl rfl (by kernel_rfl) np sf ?_
    refine Pw.one 1 (nb 10 127) rfl (by kernel_rfl) ?_
    -- call Op.call { callee := Callee.value (Operand.func 65), args := #[Operand.tmp 72], argTypes := #[114] }
    refine Pw.re (d := 72) (v' := sl qq (some ⟨gq, 0, none⟩, n)) rfl (congrArg (fun m => Value.slice (some ⟨gq, 0, none⟩) m n) hql.symm) ?_
    refine Pw.call (trim_ct qq (some ⟨gq, 0, none⟩, n) (by omega)) rfl rfl rfl (by kernel_rfl) rfl rfl (fun w h => ints_of_row' (fact1 h) (by omega) (by simp only [maxLen]; omega)) ?_
    intro z1 _
    refine Pw.after (fun w h => allTail h.all) ?_
    refine Pw.one 7 (nb 10 255) rfl (by kernel_rfl) ?_
    -- call Op.call { callee := Callee.value (Operand.func 102), args := #[Operand.tmp 77, Operand.tmp 78], argTypes := #[114, 3] }
    have hut : (u.take ((v.length : Int)).toNat).length = v.length := by rw [List.length_take]; omega
    refine Pw.re (d := 77) (v' := sl (u.take ((v.length : Int)).toNat) (some ⟨gu, 0, none⟩, a.length + 1)) rfl (congrArg (fun m => Value.slice (some ⟨gu, 0, none⟩) m (a.length + 1)) (by rw [hut]; rfl)) ?_
    refine Pw.call (unshift_ct (u.take ((v.length : Int)).toNat) (some ⟨gu, 0, none⟩, a.length + 1) s k r2 hr (by omega)) rfl rfl rfl (by kernel_rfl) rfl rfl (fun w h => (ints_of_row' (fact1 h) (by omega) (by simp only [maxLen]; omega)).take _) ?_
    intro z2 _
    refine Pw.after (fun w h => allTail (allTail h.all)) ?_
    refine Pw.takeP 8 (nb 10 511) rfl rfl rfl rfl (by kernel_rfl) np sf ?_
    refine Pw.takeP 9 (nb 10 1023) rfl rfl rfl rfl (by kernel_rfl) np sf ?_
    refine Pw.done (by kernel_rfl) ?_
    try refine Pw.run ?_
    exact Pw.ret_ (x := (z1, z2)) (.tmp rfl (.tmp rfl .nil)) rfl trivial (fun w h => ⟨fact1 h, fact0 h⟩)
end Go.Proofs.Wk
/- Walks of layer 1: dividing, the greatest common divisor, subtracting. -/
namespace Go.Proofs.Wk
open Go.RowKit
set_option maxRecDepth 100000
attribute [local irreducible] Pw OpG
set_option linter.unusedVariables false
set_option linter.unusedSimpArgs false
theorem divide_ct (a b : List Int) (x y : Option Addr × Nat) (ha : Fm a) (hb : Fm b) (hb0 : b.length ≠ 0) (hl : a.length < 1048576) (hl' : b.length < 1048576) :
    Ct Tryz.prog 66 #[sl a x, sl b y] (fun W => S1 a x W ∧ S1 b y W) (fun z : (Option Addr × Nat) × (Option Addr × Nat) => .tuple #[sl (natL (val a / val b)) z.1, sl (natL (val a % val b)) z.2]) Tt (fun z W => S1 (natL (val a / val b)) z.1 W ∧ S1 (natL (val a % val b)) z.2 W) := by
  have A0 := val_nonneg ha.1; have B0 := val_nonneg hb.1
  have hbl := (Fm.iff hb.1).1 hb
  refine Ct.start Tryz.func66 rfl rfl (slots_of rfl slots2) (fun D w0 => Pw.facts two2 ?_)
  try refine Pw.run ?_
  refine Pw.list (Pw.call (compare_ct a b x y ha hb (by omega) (by omega)) rfl rfl rfl (by kernel_rfl) rfl rfl (fun w h => ⟨fact0 h, fact1 h⟩) ?_)
  intro _ _
  try refine Pw.run ?_
  refine Pw.condD rfl (fun c1 => ?_) (fun c1 => ?_)
  · have hlt : val a < val b := by
      unfold cmpS at c1; split at c1
      · assumption
      · split at c1 <;> omega
    try refine Pw.run ?_
    refine Pw.list (Pw.call (Clone_ct a x (by omega)) rfl rfl rfl (by kernel_rfl) rfl rfl (fun w h => fact1 h) ?_)
    intro z _
    rw [Int.ediv_eq_zero_of_lt A0 hlt, Int.emod_eq_of_lt A0 hlt, natL_zero, ← ha.natL]
    try refine Pw.run ?_
    exact Pw.ret_ (x := ((none, 0), z)) (.tmp rfl (.tmp rfl .nil)) rfl trivial (fun w h => ⟨Rows.nil _ _ _ _ _, fact0 h⟩)
  have hlt : ¬ val a < val b := fun h => c1 (by unfold cmpS; rw [if_pos h]; omega)
  try refine Pw.run ?_
  refine Pw.condD rfl (fun c2 => ?_) (fun c2 => ?_)
  · obtain ⟨b0, rfl⟩ : ∃ x, b = [x] := List.length_eq_one_iff.1 (by omega)
    have hx := hb.1.head
    have hx0 : b0 ≠ 0 := by
      rcases hbl with h | h
      · exact absurd h hb0
      · simpa [rd] using h
    obtain ⟨B, d⟩ := y
    refine Pw.use (p := B.isSome = true) (fun w h => (fact2 h).has (i := 0) (by omega) (by omega)) (fun hB => ?_)
    obtain ⟨bd, rfl⟩ := some_of hB
    try refine Pw.run ?_
    refine Pw.list (Pw.indexS rfl rfl rfl rfl (Int.le_refl 0) (by show (0 : Int) < 1; omega) rfl rfl ?_)
    refine Pw.list (Pw.load1 rfl rfl (fun w hs => (fact2 hs.all).cell (i := 0) (Int.le_refl 0) (by show (0 : Int) < 1; omega)) rfl rfl ?_)
    refine Pw.list (Pw.call (small_ct a x b0 ha.1 (by omega) hx.2 hl) rfl rfl rfl (by kernel_rfl) rfl rfl (fun w h => fact1 h) ?_)
    intro z _
    rw [show val [b0] = b0 by simp [val]]
    try refine Pw.run ?_
    exact Pw.ret_ (x := z) (.tmp rfl (.tmp rfl .nil)) rfl trivial (fun w h => fact0 h)
  · have hab : b.length ≤ a.length := by
      rcases Nat.lt_or_ge a.length b.length with h | h
      · exfalso
        have h2 := (hb.len_pw (by omega)); have h3 := val_lt_pw ha.1
        have := pw_le (show a.length ≤ b.length - 1 by omega)
        omega
      · exact h
    try refine Pw.run ?_
    refine Pw.list (Pw.call (long_ct a b x y ha.1 hb (by omega) hab hl) rfl rfl rfl (by kernel_rfl) rfl rfl (fun w h => ⟨fact1 h, fact2 h⟩) ?_)
    intro z _
    try refine Pw.run ?_
    exact Pw.ret_ (x := z) (.tmp rfl (.tmp rfl .nil)) rfl trivial (fun w h => fact0 h)
theorem DivMod_ct (a b : List Int) (x y : Option Addr × Nat) (ha : Lm a) (hb : Lm b) (hl : a.length < 1048576) (hl' : b.length < 1048576) :
    Ct Tryz.prog 51 #[sl a x, sl b y] (fun W => S1 a x W ∧ S1 b y W) (fun z : (Option Addr × Nat) × (Option Addr × Nat) => .tuple #[sl (divS a b).1 z.1, sl (divS a b).2.1 z.2, .int .i64 (divS a b).2.2]) Tt (fun z W => S1 (divS a b).1 z.1 W ∧ S1 (divS a b).2.1 z.2 W) := by
  refine Ct.start Tryz.func51 rfl rfl (slots_of rfl slots2) (fun D w0 => Pw.facts two2 ?_)
  try refine Pw.run ?_
  refine Pw.list (Pw.lit2 rfl rfl rfl rfl rfl rfl rfl rfl rfl rfl rfl (fun g => freeHead ?_))
  refine Pw.list (Pw.call (formed_ct a b x y g (by omega) (by omega)) rfl rfl rfl (by kernel_rfl) rfl rfl (fun w h => ⟨fact0 h, fact1 h, fact2 h⟩) ?_)
  intro _ _
  unfold divS
  cases e : fmB a && fmB b
  · rw [if_neg (andB e)]
    try refine Pw.run ?_
    exact Pw.ret_ (x := ((none, 0), (none, 0))) (.tmp rfl (.tmp rfl (.tmp rfl .nil))) rfl trivial (fun w h => ⟨Rows.nil _ _ _ _ _, Rows.nil _ _ _ _ _⟩)
  · have hab : fmB a = true ∧ fmB b = true := by simpa using e
    rw [if_pos hab]
    try refine Pw.run ?_
    refine Pw.condD rfl (fun c1 => ?_) (fun c1 => ?_)
    · rw [if_pos (by omega)]
      try refine Pw.run ?_
      exact Pw.ret_ (x := ((none, 0), (none, 0))) (.tmp rfl (.tmp rfl (.tmp rfl .nil))) rfl trivial (fun w h => ⟨Rows.nil _ _ _ _ _, Rows.nil _ _ _ _ _⟩)
    · rw [if_neg (by omega)]
      try refine Pw.run ?_
      refine Pw.list (Pw.call (divide_ct a b x y ((fmB_iff ha).1 hab.1).2 ((fmB_iff hb).1 hab.2).2 (by omega) hl hl') rfl rfl rfl (by kernel_rfl) rfl rfl (fun w h => ⟨fact2 h, fact3 h⟩) ?_)
      intro z _
      try refine Pw.run ?_
      exact Pw.ret_ (x := z) (.tmp rfl (.tmp rfl (.tmp rfl .nil))) rfl trivial (fun w h => fact0 h)
end Go.Proofs.Wk
/- Walks of layer 1: the greatest common divisor, subtracting. -/
namespace Go.Proofs.Wk
open Go.RowKit
set_option maxRecDepth 100000
attribute [local irreducible] Pw OpG
set_option linter.unusedVariables false
set_option linter.unusedSimpArgs false
end Go.Proofs.Wk
/- Walks of the reference: trimming, forming, comparing. -/
namespace Go.Proofs.Wk
open Go.RowKit
set_option maxRecDepth 100000
attribute [local irreducible] Pw OpG
set_option linter.unusedVariables false
set_option linter.unusedSimpArgs false
theorem rtrim_ct (l : List Int) (x : Option Addr × Nat) (hl : l.length < 1099511627776) : Ct Tryz.prog 71 #[sl l x] (S1 l x) (fun x => sl (trimL l) x) Tt (fun x => S1 (trimL l) x) := by
  obtain ⟨A, c⟩ := x
  have h := rtrim_ev hl (Nat.lt_succ_self _)
  unfold psephosref01_trim.f at h
  generalize trimL l = r at h
  refine Ct.start Tryz.func71 rfl rfl (slots_of rfl slots1) (fun D w0 => ?_)
  try refine Pw.run ?_
  refine Pw.loopJ (σ := Nat × Int) (fun s => psephosref01_trim.l0 s.1 l s.2 = some r) (fun s => ⟨[(0, .slice A l.length c), (3, .int .i64 s.2)], [], [Ints .u32 l A c]⟩) (fun s => s.1) (_, _) h (Pw.enter ⟨rfl, rfl, trivial⟩ (fun _ h => h)) ?_
  clear h
  rintro ⟨k, n⟩ h
  dsimp only at h ⊢
  obtain _ | k := k
  · cases h
  simp only [psephosref01_trim.l0] at h
  try refine Pw.run ?_
  refine Pw.split 8 rfl (fun c1 => ?_) (fun c1 => ?_)
  · rw [if_pos c1] at h
    obtain ⟨c2, h⟩ := ite_none h
    obtain ⟨c3, h⟩ := ite_none h
    try refine Pw.run ?_
    refine Pw.list (Pw.index rfl rfl rfl rfl c2 c3 (fun w h => (fact0 h).has c2 c3) rfl rfl ?_)
    rintro ad rfl
    refine Pw.list (Pw.load1 rfl rfl (fun w hs => by first | exact (fact0 hs.all).cell (by first | assumption | omega) (by first | assumption | omega) | exact (fact1 hs.all).cell (by first | assumption | omega) (by first | assumption | omega) | exact (fact2 hs.all).cell (by first | assumption | omega) (by first | assumption | omega) | exact (fact3 hs.all).cell (by first | assumption | omega) (by first | assumption | omega)) rfl rfl ?_)
    try refine Pw.run ?_
    refine Pw.condD rfl (fun c4 => ?_) (fun c4 => ?_)
    · rw [if_pos c4] at h
      try refine Pw.run ?_
      exact Pw.again (k, _) h (Nat.lt_succ_self _) ⟨rfl, rfl, trivial⟩ rfl (fun w h => h)
    · rw [if_neg c4] at h
      rw [Option.bind_some] at h
      obtain ⟨d1, h⟩ := ite_none h
      obtain ⟨d2, h⟩ := ite_none h
      obtain ⟨d3, h⟩ := ite_none h
      have e1 := Option.some.inj h
      rw [List.nil_append] at e1
      subst e1
      have e2 : (l.take n.toNat).length = n.toNat := by rw [List.length_take]; omega
      refine Pw.use (p := l.length ≤ c) (fun w h => (fact0 h).le) (fun hm => ?_)
      try refine Pw.run ?_
      refine Pw.list (Pw.lit0 rfl rfl rfl rfl (fun g => ?_))
      try refine Pw.run ?_
      refine Pw.list (Pw.cutTo rfl rfl rfl rfl d1 (by omega) rfl rfl ?_)
      refine Pw.list (Pw.appendCopy (news := (l.take n.toNat).map (Value.int .u32)) rfl rfl rfl rfl rfl rfl (show ((l.take n.toNat).map (Value.int .u32)).length = n.toNat * 1 by rw [List.length_map, e2, Nat.mul_one]) (fun w hs => ((fact0 hs.all).take _).cells) rfl (by simp only [maxLen]; omega) (show n.toNat * 4 ≤ _ by omega) (.head _) rfl rfl (fun g cap ex h1 h2 => freeHead (Pw.drop ?_)) (fun h0 => Pw.drop ?_))
      · try refine Pw.run ?_
        exact Pw.ret_ (x := (some ⟨g, 0, none⟩, cap)) (.tmp rfl .nil) (congrArg (fun m => Value.slice (some ⟨g, 0, none⟩) m cap) e2.symm) trivial (fun w h => ints_of_row (fact0 h) (by omega) (by simp only [maxLen]; omega))
      · rw [h0]
        try refine Pw.run ?_
        exact Pw.ret_ (x := (some ⟨g, 0, none⟩, 0)) (.tmp rfl .nil) rfl trivial (fun w h => Rows.nil _ _ _ _ _)
  · rw [if_neg c1] at h
    rw [Option.bind_some] at h
    obtain ⟨d1, h⟩ := ite_none h
    obtain ⟨d2, h⟩ := ite_none h
    obtain ⟨d3, h⟩ := ite_none h
    have e1 := Option.some.inj h
    rw [List.nil_append] at e1
    subst e1
    have e2 : (l.take n.toNat).length = n.toNat := by rw [List.length_take]; omega
    refine Pw.use (p := l.length ≤ c) (fun w h => (fact0 h).le) (fun hm => ?_)
    try refine Pw.run ?_
    refine Pw.list (Pw.lit0 rfl rfl rfl rfl (fun g => ?_))
    try refine Pw.run ?_
    refine Pw.list (Pw.cutTo rfl rfl rfl rfl d1 (by omega) rfl rfl ?_)
    refine Pw.list (Pw.appendCopy (news := (l.take n.toNat).map (Value.int .u32)) rfl rfl rfl rfl rfl rfl (show ((l.take n.toNat).map (Value.int .u32)).length = n.toNat * 1 by rw [List.length_map, e2, Nat.mul_one]) (fun w hs => ((fact0 hs.all).take _).cells) rfl (by simp only [maxLen]; omega) (show n.toNat * 4 ≤ _ by omega) (.head _) rfl rfl (fun g cap ex h1 h2 => freeHead (Pw.drop ?_)) (fun h0 => Pw.drop ?_))
    · try refine Pw.run ?_
      exact Pw.ret_ (x := (some ⟨g, 0, none⟩, cap)) (.tmp rfl .nil) (congrArg (fun m => Value.slice (some ⟨g, 0, none⟩) m cap) e2.symm) trivial (fun w h => ints_of_row (fact0 h) (by omega) (by simp only [maxLen]; omega))
    · rw [h0]
      try refine Pw.run ?_
      exact Pw.ret_ (x := (some ⟨g, 0, none⟩, 0)) (.tmp rfl .nil) rfl trivial (fun w h => Rows.nil _ _ _ _ _)
theorem rOf_ct (n : Int) : Ct Tryz.prog 54 #[.int .u64 n] (fun _ => True) (fun x => sl (ofN n) x) Tt (fun x => S1 (ofN n) x) := by
  refine Ct.start Tryz.func54 rfl rfl (slots_of rfl slots1) (fun D w0 => ?_)
  try refine Pw.run ?_
  refine Pw.list (Pw.lit2 rfl rfl rfl rfl rfl rfl rfl rfl rfl rfl rfl (fun g => freeHead ?_))
  refine Pw.list (Pw.call (rtrim_ct [n % 4294967296, (n / 4294967296) % 4294967296] (some ⟨g, 0, none⟩, 2) (by simp)) rfl rfl rfl (by kernel_rfl) rfl rfl (fun w h => ints_of_row' (fact0 h) (by simp) (by simp [maxLen])) ?_)
  intro z _
  try refine Pw.run ?_
  exact Pw.ret_ (x := z) (.tmp rfl .nil) rfl trivial (fun w h => fact0 h)
theorem rFormed_ct (l : List Int) (x : Option Addr × Nat) (hl : l.length < 1099511627776) : Ct Tryz.prog 68 #[sl l x] (S1 l x) (fun _ : Unit => .bool (fmB l)) Tt (fun _ _ => True) := by
  obtain ⟨A, c⟩ := x
  have h := rFormed_ev hl
  generalize fmB l = r at h
  unfold psephosref01_Formed.f at h
  refine Ct.start Tryz.func68 rfl rfl (slots_of rfl slots1) (fun D w0 => ?_)
  try refine Pw.run ?_
  refine Pw.split 6 rfl (fun c1 => ?_) (fun c1 => ?_)
  · rw [if_pos c1] at h
    try refine Pw.run ?_
    refine Pw.split 10 rfl (fun c2 => ?_) (fun c2 => ?_)
    · rw [if_pos c2] at h
      obtain rfl := Option.some.inj h
      try refine Pw.run ?_
      exact Pw.ret_ (x := ()) (.tmp rfl .nil) rfl trivial (fun w h => by trivial)
    · rw [if_neg c2] at h
      obtain ⟨c3, h⟩ := ite_none h
      obtain ⟨c4, h⟩ := ite_none h
      obtain rfl := Option.some.inj h
      try refine Pw.run ?_
      refine Pw.list (Pw.index rfl rfl rfl rfl c3 c4 (fun w h => (fact0 h).has c3 c4) rfl rfl ?_)
      rintro ad rfl
      refine Pw.list (Pw.load1 rfl rfl (fun w hs => by first | exact (fact0 hs.all).cell (by first | assumption | omega) (by first | assumption | omega) | exact (fact1 hs.all).cell (by first | assumption | omega) (by first | assumption | omega) | exact (fact2 hs.all).cell (by first | assumption | omega) (by first | assumption | omega) | exact (fact3 hs.all).cell (by first | assumption | omega) (by first | assumption | omega)) rfl rfl ?_)
      try refine Pw.run ?_
      exact Pw.ret_ (x := ()) (.tmp rfl .nil) (by simp [retv, bne]; rfl) trivial (fun w h => by trivial)
  · rw [if_neg c1] at h
    obtain rfl := Option.some.inj h
    try refine Pw.run ?_
    exact Pw.ret_ (x := ()) (.tmp rfl .nil) rfl trivial (fun w h => by trivial)
theorem rcmpF_ct (a b : List Int) (x y : Option Addr × Nat) (k : Nat) (r : Int) (h : psephosref01_cmp.f k a b = some r) :
    Ct Tryz.prog 84 #[sl a x, sl b y] (fun W => S1 a x W ∧ S1 b y W) (fun _ : Unit => .int .i64 r) Tt (fun _ _ => True) := by
  obtain ⟨A, c⟩ := x
  obtain ⟨B, d⟩ := y
  unfold psephosref01_cmp.f at h
  refine Ct.start Tryz.func84 rfl rfl (slots_of rfl slots2) (fun D w0 => Pw.facts two2 ?_)
  try refine Pw.run ?_
  refine Pw.condD rfl (fun c1 => ?_) (fun c1 => ?_)
  · rw [if_neg c1] at h
    try refine Pw.run ?_
    refine Pw.condD rfl (fun c2 => ?_) (fun c2 => ?_)
    · rw [if_pos c2] at h
      obtain rfl := Option.some.inj h
      try refine Pw.run ?_
      exact Pw.ret_ (x := ()) (.tmp rfl .nil) rfl trivial (fun w h => by trivial)
    · rw [if_neg c2] at h
      obtain rfl := Option.some.inj h
      try refine Pw.run ?_
      exact Pw.ret_ (x := ()) (.tmp rfl .nil) rfl trivial (fun w h => by trivial)
  rw [if_pos (Decidable.not_not.1 c1)] at h
  try refine Pw.run ?_
  refine Pw.loopJ (σ := Nat × Int) (fun s => psephosref01_cmp.l0 s.1 a b s.2 = some r) (fun s => ⟨[(0, .slice A a.length c), (1, .slice B b.length d), (5, .int .i64 s.2)], [], [Ints .u32 a A c, Ints .u32 b B d]⟩) (fun s => s.1) (_, _) h (Pw.enter ⟨rfl, rfl, rfl, trivial⟩ (fun _ h => h)) ?_
  clear h
  rintro ⟨k, i⟩ h
  dsimp only at h ⊢
  obtain _ | k := k
  · cases h
  simp only [psephosref01_cmp.l0] at h
  try refine Pw.run ?_
  refine Pw.condD rfl (fun c3 => ?_) (fun c3 => ?_)
  · rw [if_pos c3] at h
    obtain ⟨c4, h⟩ := ite_none h
    obtain ⟨c5, h⟩ := ite_none h
    obtain ⟨c6, h⟩ := ite_none h
    try refine Pw.run ?_
    refine Pw.use (p := A.isSome = true ∧ B.isSome = true) (fun w h => ⟨(fact0 h).has c4 c5, (fact1 h).has c4 c6⟩) (fun hA => ?_)
    obtain ⟨⟨ad, rfl⟩, ⟨bd, rfl⟩⟩ := And.intro (some_of hA.1) (some_of hA.2)
    refine Pw.drawnG mixed rfl rfl ?_
    refine Pw.takeP 0 (nb 9 1) rfl rfl rfl rfl (by kernel_rfl) np sf ?_
    refine Pw.takeP 1 (nb 9 3) rfl rfl rfl rfl (by kernel_rfl) np sf ?_
    refine Pw.takeIx 2 (nb 9 7) rfl rfl rfl rfl rfl (by first | assumption | omega) (by first | assumption | omega) rfl rfl (by kernel_rfl) np sf ?_
    refine Pw.takeLd 3 (nb 9 15) rfl rfl rfl (fun w hS => by first | exact own_cell (fact0 hS) (by first | assumption | omega) (by first | assumption | omega) | exact own_cellX (fact0 hS) (by first | assumption | omega) (by first | assumption | omega) | exact (fact0 hS).cell (by first | assumption | omega) (by first | assumption | omega) | exact (fact1 hS).cell (by first | assumption | omega) (by first | assumption | omega) | exact (fact2 hS).cell (by first | assumption | omega) (by first | assumption | omega) | exact (fact3 hS).cell (by first | assumption | omega) (by first | assumption | omega)) rfl rfl (by kernel_rfl) np sf ?_
    refine Pw.takeP 4 (nb 9 31) rfl rfl rfl rfl (by kernel_rfl) np sf ?_
    refine Pw.takeP 5 (nb 9 63) rfl rfl rfl rfl (by kernel_rfl) np sf ?_
    refine Pw.takeIx 6 (nb 9 127) rfl rfl rfl rfl rfl (by first | assumption | omega) (by first | assumption | omega) rfl rfl (by kernel_rfl) np sf ?_
    refine Pw.takeLd 7 (nb 9 255) rfl rfl rfl (fun w hS => by first | exact own_cell (fact0 hS) (by first | assumption | omega) (by first | assumption | omega) | exact own_cellX (fact0 hS) (by first | assumption | omega) (by first | assumption | omega) | exact (fact0 hS).cell (by first | assumption | omega) (by first | assumption | omega) | exact (fact1 hS).cell (by first | assumption | omega) (by first | assumption | omega) | exact (fact2 hS).cell (by first | assumption | omega) (by first | assumption | omega) | exact (fact3 hS).cell (by first | assumption | omega) (by first | assumption | omega)) rfl rfl (by kernel_rfl) np sf ?_
    refine Pw.takeP 8 (nb 9 511) rfl rfl rfl rfl (by kernel_rfl) np sf ?_
    refine Pw.done (by kernel_rfl) ?_
    try refine Pw.run ?_
    refine Pw.condD rfl (fun c7 => ?_) (fun c7 => ?_)
    · rw [if_pos c7] at h
      obtain rfl := Option.some.inj h
      try refine Pw.run ?_
      exact Pw.ret_ (x := ()) (.tmp rfl .nil) rfl trivial (fun w h => by trivial)
    rw [if_neg c7] at h
    try refine Pw.run ?_
    refine Pw.drawnG mixed rfl rfl ?_
    refine Pw.takeP 0 (nb 9 1) rfl rfl rfl rfl (by kernel_rfl) np sf ?_
    refine Pw.takeP 1 (nb 9 3) rfl rfl rfl rfl (by kernel_rfl) np sf ?_
    refine Pw.takeIx 2 (nb 9 7) rfl rfl rfl rfl rfl (by first | assumption | omega) (by first | assumption | omega) rfl rfl (by kernel_rfl) np sf ?_
    refine Pw.takeLd 3 (nb 9 15) rfl rfl rfl (fun w hS => by first | exact own_cell (fact0 hS) (by first | assumption | omega) (by first | assumption | omega) | exact own_cellX (fact0 hS) (by first | assumption | omega) (by first | assumption | omega) | exact (fact0 hS).cell (by first | assumption | omega) (by first | assumption | omega) | exact (fact1 hS).cell (by first | assumption | omega) (by first | assumption | omega) | exact (fact2 hS).cell (by first | assumption | omega) (by first | assumption | omega) | exact (fact3 hS).cell (by first | assumption | omega) (by first | assumption | omega)) rfl rfl (by kernel_rfl) np sf ?_
    refine Pw.takeP 4 (nb 9 31) rfl rfl rfl rfl (by kernel_rfl) np sf ?_
    refine Pw.takeP 5 (nb 9 63) rfl rfl rfl rfl (by kernel_rfl) np sf ?_
    refine Pw.takeIx 6 (nb 9 127) rfl rfl rfl rfl rfl (by first | assumption | omega) (by first | assumption | omega) rfl rfl (by kernel_rfl) np sf ?_
    refine Pw.takeLd 7 (nb 9 255) rfl rfl rfl (fun w hS => by first | exact own_cell (fact0 hS) (by first | assumption | omega) (by first | assumption | omega) | exact own_cellX (fact0 hS) (by first | assumption | omega) (by first | assumption | omega) | exact (fact0 hS).cell (by first | assumption | omega) (by first | assumption | omega) | exact (fact1 hS).cell (by first | assumption | omega) (by first | assumption | omega) | exact (fact2 hS).cell (by first | assumption | omega) (by first | assumption | omega) | exact (fact3 hS).cell (by first | assumption | omega) (by first | assumption | omega)) rfl rfl (by kernel_rfl) np sf ?_
    refine Pw.takeP 8 (nb 9 511) rfl rfl rfl rfl (by kernel_rfl) np sf ?_
    refine Pw.done (by kernel_rfl) ?_
    try refine Pw.run ?_
    refine Pw.condD rfl (fun c8 => ?_) (fun c8 => ?_)
    · rw [if_pos c8] at h
      obtain rfl := Option.some.inj h
      try refine Pw.run ?_
      exact Pw.ret_ (x := ()) (.tmp rfl .nil) rfl trivial (fun w h => by trivial)
    rw [if_neg c8] at h
    try refine Pw.run ?_
    exact Pw.again (k, wrap64 (i - 1)) h (Nat.lt_succ_self _) ⟨rfl, rfl, rfl, trivial⟩ rfl (fun w h => h)
  · rw [if_neg c3] at h
    obtain rfl := Option.some.inj h
    try refine Pw.run ?_
    exact Pw.ret_ (x := ()) (.tmp rfl .nil) rfl trivial (fun w h => by trivial)
def bdS (l : List Int) : List Int × Int := if l.length ≤ 400 then (l, 0) else ([], 4)
theorem rbounded_ct (l : List Int) (x : Option Addr × Nat) : Ct Tryz.prog 69 #[sl l x] (S1 l x) (fun x => .tuple #[sl (bdS l).1 x, .int .i64 (bdS l).2]) Tt (fun x => S1 (bdS l).1 x) := by
  refine Ct.start Tryz.func69 rfl rfl (slots_of rfl slots1) (fun D w0 => ?_)
  try refine Pw.run ?_
  unfold bdS
  refine Pw.condD rfl (fun c1 => ?_) (fun c1 => ?_)
  · rw [if_neg (by omega)]
    try refine Pw.run ?_
    exact Pw.ret_ (x := (none, 0)) (.tmp rfl (.tmp rfl .nil)) rfl trivial (fun w h => Rows.nil _ _ _ _ _)
  · rw [if_pos (by omega)]
    try refine Pw.run ?_
    exact Pw.ret_ (x := x) (.tmp rfl (.tmp rfl .nil)) rfl trivial (fun w h => fact0 h)
end Go.Proofs.Wk
/- Walks of the reference: adding, subtracting, multiplying. -/
namespace Go.Proofs.Wk
open Go.RowKit
set_option maxRecDepth 100000
attribute [local irreducible] Pw OpG
set_option linter.unusedVariables false
set_option linter.unusedSimpArgs false
theorem rtrim_more : ∀ (k : Nat) (l : List Int) (n : Int) (r : List Int), psephosref01_trim.l0 k l n = some r → psephosref01_trim.l0 (k + 1) l n = some r
  | 0, l, n, r, h => by cases h
  | k + 1, l, n, r, h => by
    unfold psephosref01_trim.l0 at h ⊢
    split at h
    next c1 =>
      rw [if_pos c1]
      obtain ⟨c2, h⟩ := ite_none h
      obtain ⟨c3, h⟩ := ite_none h
      rw [if_pos c2, if_pos c3]
      split at h
      next c4 => rw [if_pos c4]; exact rtrim_more k _ _ r h
      next c4 => rw [if_neg c4]; exact h
    next c1 => rw [if_neg c1]; exact h
theorem rtrim_some {k : Nat} {l r : List Int} (hl : l.length < 1099511627776) (h : psephosref01_trim.f k l = some r) : r = trimL l := by
  have h1 : ∀ j, psephosref01_trim.l0 (k + j) l (l.length : Int) = some r := fun j => by
    induction j with
    | zero => exact h
    | succ j ih => exact rtrim_more _ _ _ _ ih
  have h2 := rtrim_ev hl (k := k + (l.length + 1)) (by omega)
  unfold psephosref01_trim.f at h2
  rw [h1] at h2
  exact Option.some.inj h2
end Go.Proofs.Wk
/- Walks of the reference: subtracting, multiplying. -/
namespace Go.Proofs.Wk
open Go.RowKit
set_option maxRecDepth 100000
attribute [local irreducible] Pw OpG
set_option linter.unusedVariables false
set_option linter.unusedSimpArgs false
theorem rsubF_ct (a b : List Int) (x y : Option Addr × Nat) (k : Nat) (r : List Int) (h : psephosref01_sub.f k a b = some r) (hl : a.length < 4194304) :
    Ct Tryz.prog 85 #[sl a x, sl b y] (fun W => S1 a x W ∧ S1 b y W) (fun z : Option Addr × Nat => sl r z) Tt (fun z => S1 r z) := by
  obtain ⟨A, c⟩ := x
  obtain ⟨B, d⟩ := y
  unfold psephosref01_sub.f at h
  rw [Option.bind_some, if_pos (by simp; omega), Option.bind_some, List.nil_append] at h
  refine Ct.start Tryz.func85 rfl rfl (slots_of rfl slots2) (fun D w0 => Pw.facts two2 ?_)
  try refine Pw.run ?_
  refine Pw.list (Pw.lit0 rfl rfl rfl rfl (fun g => ?_))
  try refine Pw.run ?_
  refine Pw.list (Pw.appendCopy (news := a.map (Value.int .u32)) rfl rfl rfl rfl rfl rfl (show (a.map (Value.int .u32)).length = a.length * 1 by simp) (fun w hs => (fact0 hs.all).cells) rfl (by simp only [maxLen]; omega) (show a.length * 4 ≤ _ by omega) (.head _) rfl rfl (fun g cap ex h1 h2 => ?_) (fun h0 => Pw.drop ?_))
  · refine Pw.perm (.swap ..) (Pw.drop ?_)
    try refine Pw.run ?_
    obtain ⟨m, hm⟩ : ∃ m, m = a.length := ⟨_, rfl⟩
    rw [← hm] at h h1 ⊢
    refine Pw.loopJ (σ := Nat × List Int × Int × Int) (fun s => psephosref01_sub.l0 s.1 b s.2.1 s.2.2.1 (m : Int) s.2.2.2 = some r ∧ s.2.1.length = m)
      (fun s => ⟨[(1, .slice B b.length d), (5, .slice (some ⟨g, 0, none⟩) m cap), (6, .int .u64 s.2.2.1), (13, .int .i64 m), (14, .int .i64 s.2.2.2)], [⟨g, row (s.2.1.map (Value.int .u32) ++ ex) 135⟩], [Ints .u32 b B d]⟩) (fun s => s.1) (k, a, 0, 0) ⟨h, hm.symm⟩ (Pw.enter ⟨rfl, rfl, rfl, rfl, rfl, trivial⟩ (fun _ h => allTail h)) ?_
    clear h
    rintro ⟨k, out, br, i⟩ ⟨h, hout⟩
    dsimp only at h hout ⊢
    obtain _ | k := k
    · cases h
    simp only [psephosref01_sub.l0] at h
    try refine Pw.run ?_
    refine Pw.condD rfl (fun c3 => ?_) (fun c3 => ?_)
    · rw [if_pos c3] at h
      try refine Pw.run ?_
      refine Pw.condD rfl (fun c6 => ?_) (fun c6 => ?_)
      · rw [if_pos c6] at h
        obtain ⟨c4, h⟩ := ite_none h
        obtain ⟨c5, h⟩ := ite_none h
        try refine Pw.run ?_
        refine Pw.list (Pw.index rfl rfl rfl rfl c4 c6 (fun w h => (fact0 h).has c4 c6) rfl rfl ?_)
        rintro bd rfl
        refine Pw.list (Pw.load1 rfl rfl (fun w hs => by first | exact (fact0 hs.all).cell (by first | assumption | omega) (by first | assumption | omega) | exact (fact1 hs.all).cell (by first | assumption | omega) (by first | assumption | omega) | exact (fact2 hs.all).cell (by first | assumption | omega) (by first | assumption | omega) | exact (fact3 hs.all).cell (by first | assumption | omega) (by first | assumption | omega)) rfl rfl ?_)
        try refine Pw.run ?_
        refine Pw.list (Pw.indexO rfl rfl rfl rfl c4 (by omega) rfl rfl ?_)
        refine Pw.list (Pw.loadX rfl rfl rfl (.head _) c4 c5 rfl rfl ?_)
        try refine Pw.run ?_
        refine Pw.condD rfl (fun c7 => ?_) (fun c7 => ?_)
        · rw [if_pos c7] at h
          try refine Pw.run ?_
          refine Pw.list (Pw.indexO rfl rfl rfl rfl c4 (by omega) rfl rfl ?_)
          refine Pw.list (Pw.loadX rfl rfl rfl (.head _) c4 c5 rfl rfl ?_)
          try refine Pw.run ?_
          refine Pw.list (Pw.indexO rfl rfl rfl rfl c4 (by omega) rfl rfl ?_)
          refine Pw.list (Pw.storeX rfl rfl rfl rfl rfl c4 c5 .head rfl ?_)
          try refine Pw.run ?_
          exact Pw.again (k, _, _, _) ⟨h, by rw [List.length_set]; exact hout⟩ (Nat.lt_succ_self _) ⟨rfl, rfl, rfl, rfl, rfl, trivial⟩ rfl (fun w h => h)
        · rw [if_neg c7] at h
          try refine Pw.run ?_
          refine Pw.list (Pw.indexO rfl rfl rfl rfl c4 (by omega) rfl rfl ?_)
          refine Pw.list (Pw.loadX rfl rfl rfl (.head _) c4 c5 rfl rfl ?_)
          try refine Pw.run ?_
          refine Pw.list (Pw.indexO rfl rfl rfl rfl c4 (by omega) rfl rfl ?_)
          refine Pw.list (Pw.storeX rfl rfl rfl rfl rfl c4 c5 .head rfl ?_)
          try refine Pw.run ?_
          exact Pw.again (k, _, _, _) ⟨h, by rw [List.length_set]; exact hout⟩ (Nat.lt_succ_self _) ⟨rfl, rfl, rfl, rfl, rfl, trivial⟩ rfl (fun w h => h)
      · rw [if_neg c6] at h
        obtain ⟨c4, h⟩ := ite_none h
        obtain ⟨c5, h⟩ := ite_none h
        try refine Pw.run ?_
        refine Pw.list (Pw.indexO rfl rfl rfl rfl c4 (by omega) rfl rfl ?_)
        refine Pw.list (Pw.loadX rfl rfl rfl (.head _) c4 c5 rfl rfl ?_)
        try refine Pw.run ?_
        refine Pw.condD rfl (fun c7 => ?_) (fun c7 => ?_)
        · rw [if_pos c7] at h
          try refine Pw.run ?_
          refine Pw.list (Pw.indexO rfl rfl rfl rfl c4 (by omega) rfl rfl ?_)
          refine Pw.list (Pw.loadX rfl rfl rfl (.head _) c4 c5 rfl rfl ?_)
          try refine Pw.run ?_
          refine Pw.list (Pw.indexO rfl rfl rfl rfl c4 (by omega) rfl rfl ?_)
          refine Pw.list (Pw.storeX rfl rfl rfl rfl rfl c4 c5 .head rfl ?_)
          try refine Pw.run ?_
          exact Pw.again (k, _, _, _) ⟨h, by rw [List.length_set]; exact hout⟩ (Nat.lt_succ_self _) ⟨rfl, rfl, rfl, rfl, rfl, trivial⟩ rfl (fun w h => h)
        · rw [if_neg c7] at h
          try refine Pw.run ?_
          refine Pw.list (Pw.indexO rfl rfl rfl rfl c4 (by omega) rfl rfl ?_)
          refine Pw.list (Pw.loadX rfl rfl rfl (.head _) c4 c5 rfl rfl ?_)
          try refine Pw.run ?_
          refine Pw.list (Pw.indexO rfl rfl rfl rfl c4 (by omega) rfl rfl ?_)
          refine Pw.list (Pw.storeX rfl rfl rfl rfl rfl c4 c5 .head rfl ?_)
          try refine Pw.run ?_
          exact Pw.again (k, _, _, _) ⟨h, by rw [List.length_set]; exact hout⟩ (Nat.lt_succ_self _) ⟨rfl, rfl, rfl, rfl, rfl, trivial⟩ rfl (fun w h => h)
    · rw [if_neg c3] at h
      obtain ⟨t, ht, h⟩ := Option.bind_eq_some_iff.1 h
      have e1 := rtrim_some (by omega) ht
      subst e1
      obtain rfl := Option.some.inj h
      refine freeHead ?_
      try refine Pw.run ?_
      refine Pw.re (d := 49) (v' := sl out (some ⟨g, 0, none⟩, cap)) rfl (congrArg (fun m => Value.slice (some ⟨g, 0, none⟩) m cap) hout.symm) ?_
      refine Pw.list (Pw.call (rtrim_ct out (some ⟨g, 0, none⟩, cap) (by omega)) rfl rfl rfl (by kernel_rfl) rfl rfl (fun w h => ints_of_row (fact0 h) (by omega) (by simp only [maxLen]; omega)) ?_)
      intro z1 _
      try refine Pw.run ?_
      exact Pw.ret_ (x := z1) (.tmp rfl .nil) rfl trivial (fun w h => fact0 h)
  · obtain rfl := List.eq_nil_of_length_eq_zero h0
    obtain _ | k := k
    · cases h
    simp only [psephosref01_sub.l0] at h
    rw [if_neg (by simp)] at h
    obtain ⟨t, ht, h⟩ := Option.bind_eq_some_iff.1 h
    have e1 := rtrim_some (by simp) ht
    subst e1
    obtain rfl := Option.some.inj h
    try refine Pw.run ?_
    refine Pw.rounds 1 ?_
    refine Pw.round ?_
    try refine Pw.run ?_
    refine Pw.list (Pw.call (rtrim_ct [] (some ⟨g, 0, none⟩, 0) (by simp)) rfl rfl rfl (by kernel_rfl) rfl rfl (fun w h => Rows.nil _ _ _ _ _) ?_)
    intro z1 _
    try refine Pw.run ?_
    exact Pw.ret_ (x := z1) (.tmp rfl .nil) rfl trivial (fun w h => fact0 h)
theorem rmul_ct (a b : List Int) (x y : Option Addr × Nat) (ha : Lm a) (hb : Lm b) (hl : a.length < 1048576) (hl' : b.length < 1048576) :
    Ct Tryz.prog 70 #[sl a x, sl b y] (fun W => S1 a x W ∧ S1 b y W) (fun z : Option Addr × Nat => sl (natL (val a * val b)) z) Tt (fun z => S1 (natL (val a * val b)) z) := by
  have h := rmul_ev ha hb (by omega) (by omega) (Nat.lt_succ_self _)
  generalize natL (val a * val b) = r at h
  unfold psephosref01_mul.f at h
  generalize Nat.succ _ = k at h
  obtain ⟨c1, h⟩ := ite_none h
  obtain ⟨c2, h⟩ := ite_none h
  obtain ⟨A, c⟩ := x
  obtain ⟨B, d⟩ := y
  refine Ct.start Tryz.func70 rfl rfl (slots_of rfl slots2) (fun D w0 => Pw.facts two2 ?_)
  obtain ⟨m, hm⟩ : ∃ m, m = a.length + b.length + 1 := ⟨_, rfl⟩
  have e1 : wrap64 (wrap64 ((a.length : Int) + b.length) + 1) = (m : Int) := by rw [wi64 (n := (a.length : Int) + b.length) (by omega) (by omega), wi64 (by omega) (by omega)]; omega
  rw [e1, Int.toNat_natCast] at h
  try refine Pw.run ?_
  refine Pw.re (d := 14) (v' := .int .i64 (m : Int)) rfl (by rw [e1]) ?_
  refine Pw.list (Pw.make rfl rfl rfl rfl rfl rfl (show 4 * m ≤ _ by omega) (by simp only [maxLen]; omega) rfl rfl (fun g => ?_))
  rw [zeros_map]
  try refine Pw.run ?_
  refine Pw.loopJ (σ := Nat × List Int × Int) (fun s => psephosref01_mul.l0 s.1 a b s.2.1 (a.length : Int) s.2.2 = some r ∧ s.2.1.length = m)
    (fun s => ⟨[(0, .slice A a.length c), (1, .slice B b.length d), (5, .slice (some ⟨g, 0, none⟩) m m), (17, .int .i64 a.length), (18, .int .i64 s.2.2)], [⟨g, row (s.2.1.map (Value.int .u32)) 135⟩], [Ints .u32 a A c, Ints .u32 b B d]⟩) (fun s => s.1) (k, _, 0) ⟨h, by simp⟩ (Pw.enter ⟨rfl, rfl, rfl, rfl, rfl, trivial⟩ (fun _ h => h)) ?_
  clear h
  rintro ⟨k, out, i⟩ ⟨h, hout⟩
  dsimp only at h hout ⊢
  obtain _ | k := k
  · cases h
  simp only [psephosref01_mul.l0] at h
  try refine Pw.run ?_
  refine Pw.condD rfl (fun c3 => ?_) (fun c3 => ?_)
  · rw [if_pos c3] at h
    try refine Pw.run ?_
    refine Pw.loopJ (σ := Nat × List Int × Int × Int) (fun s => psephosref01_mul.l1 s.1 a b s.2.1 i s.2.2.1 (a.length : Int) i (b.length : Int) s.2.2.2 = some r ∧ s.2.1.length = m ∧ s.1 ≤ k)
      (fun s => ⟨[(0, .slice A a.length c), (1, .slice B b.length d), (5, .slice (some ⟨g, 0, none⟩) m m), (6, .int .i64 i), (7, .int .u64 s.2.2.1), (17, .int .i64 a.length), (18, .int .i64 i), (22, .int .i64 b.length), (23, .int .i64 s.2.2.2)], [⟨g, row (s.2.1.map (Value.int .u32)) 135⟩], [Ints .u32 a A c, Ints .u32 b B d]⟩) (fun s => s.1) (k, _, 0, 0) ⟨h, hout, Nat.le_refl _⟩ (Pw.enter ⟨rfl, rfl, rfl, rfl, rfl, rfl, rfl, rfl, rfl, trivial⟩ (fun _ h => h)) ?_
    clear h hout
    rintro ⟨k', out, carry, j⟩ ⟨h, hout, hk⟩
    dsimp only at h hout hk ⊢
    obtain _ | k' := k'
    · cases h
    simp only [psephosref01_mul.l1] at h
    try refine Pw.run ?_
    refine Pw.condD rfl (fun c6 => ?_) (fun c6 => ?_)
    · rw [if_pos c6] at h
      obtain ⟨c7, h⟩ := ite_none h
      obtain ⟨c8, h⟩ := ite_none h
      obtain ⟨c9, h⟩ := ite_none h
      obtain ⟨c10, h⟩ := ite_none h
      obtain ⟨c11, h⟩ := ite_none h
      obtain ⟨c12, h⟩ := ite_none h
      refine Pw.use (p := A.isSome = true ∧ B.isSome = true) (fun w h => ⟨(fact0 h).has c9 c10, (fact1 h).has c11 c12⟩) (fun hA => ?_)
      obtain ⟨⟨ad, rfl⟩, ⟨bd, rfl⟩⟩ := And.intro (some_of hA.1) (some_of hA.2)
      try refine Pw.run ?_
      refine Pw.drawnO mixed rfl rfl ?_
      refine Pw.takeP 0 (nb 22 1) rfl rfl rfl rfl (by kernel_rfl) np (fun w h => h.allO) ?_
      refine Pw.takeP 1 (nb 22 3) rfl rfl rfl rfl (by kernel_rfl) np (fun w h => h.allO) ?_
      refine Pw.takeP 2 (nb 22 7) rfl rfl rfl rfl (by kernel_rfl) np (fun w h => h.allO) ?_
      refine Pw.takeP 3 (nb 22 15) rfl rfl rfl rfl (by kernel_rfl) np (fun w h => h.allO) ?_
      refine Pw.takeP 4 (nb 22 31) rfl rfl rfl rfl (by kernel_rfl) np (fun w h => h.allO) ?_
      refine Pw.takeIx 5 (nb 22 63) rfl rfl rfl rfl rfl (by first | assumption | omega) (by first | assumption | omega) rfl rfl (by kernel_rfl) np (fun w h => h.allO) ?_
      refine Pw.takeLd 6 (nb 22 127) rfl rfl rfl (fun w hS => by first | exact own_cell (fact0 hS) (by first | assumption | omega) (by first | assumption | omega) | exact own_cellX (fact0 hS) (by first | assumption | omega) (by first | assumption | omega) | exact (fact0 hS).cell (by first | assumption | omega) (by first | assumption | omega) | exact (fact1 hS).cell (by first | assumption | omega) (by first | assumption | omega) | exact (fact2 hS).cell (by first | assumption | omega) (by first | assumption | omega) | exact (fact3 hS).cell (by first | assumption | omega) (by first | assumption | omega)) rfl rfl (by kernel_rfl) np (fun w h => h.allO) ?_
      refine Pw.takeP 7 (nb 22 255) rfl rfl rfl rfl (by kernel_rfl) np (fun w h => h.allO) ?_
      refine Pw.takeP 8 (nb 22 511) rfl rfl rfl rfl (by kernel_rfl) np (fun w h => h.allO) ?_
      refine Pw.takeP 9 (nb 22 1023) rfl rfl rfl rfl (by kernel_rfl) np (fun w h => h.allO) ?_
      refine Pw.takeP 10 (nb 22 2047) rfl rfl rfl rfl (by kernel_rfl) np (fun w h => h.allO) ?_
      refine Pw.takeIx 11 (nb 22 4095) rfl rfl rfl rfl rfl (by first | assumption | omega) (by first | assumption | omega) rfl rfl (by kernel_rfl) np (fun w h => h.allO) ?_
      refine Pw.takeLd 12 (nb 22 8191) rfl rfl rfl (fun w hS => by first | exact own_cell (fact0 hS) (by first | assumption | omega) (by first | assumption | omega) | exact own_cellX (fact0 hS) (by first | assumption | omega) (by first | assumption | omega) | exact (fact0 hS).cell (by first | assumption | omega) (by first | assumption | omega) | exact (fact1 hS).cell (by first | assumption | omega) (by first | assumption | omega) | exact (fact2 hS).cell (by first | assumption | omega) (by first | assumption | omega) | exact (fact3 hS).cell (by first | assumption | omega) (by first | assumption | omega)) rfl rfl (by kernel_rfl) np (fun w h => h.allO) ?_
      refine Pw.takeP 13 (nb 22 16383) rfl rfl rfl rfl (by kernel_rfl) np (fun w h => h.allO) ?_
      refine Pw.takeP 14 (nb 22 32767) rfl rfl rfl rfl (by kernel_rfl) np (fun w h => h.allO) ?_
      refine Pw.takeP 15 (nb 22 65535) rfl rfl rfl rfl (by kernel_rfl) np (fun w h => h.allO) ?_
      refine Pw.takeIx 16 (nb 22 131071) rfl rfl rfl rfl rfl (by first | assumption | omega) (by first | assumption | omega) rfl rfl (by kernel_rfl) np (fun w h => h.allO) ?_
      refine Pw.takeLd 17 (nb 22 262143) rfl rfl rfl (fun w hS => by first | exact own_cell (fact0 hS) (by first | assumption | omega) (by first | assumption | omega) | exact own_cellX (fact0 hS) (by first | assumption | omega) (by first | assumption | omega) | exact (fact0 hS).cell (by first | assumption | omega) (by first | assumption | omega) | exact (fact1 hS).cell (by first | assumption | omega) (by first | assumption | omega) | exact (fact2 hS).cell (by first | assumption | omega) (by first | assumption | omega) | exact (fact3 hS).cell (by first | assumption | omega) (by first | assumption | omega)) rfl rfl (by kernel_rfl) np (fun w h => h.allO) ?_
      refine Pw.takeP 18 (nb 22 524287) rfl rfl rfl rfl (by kernel_rfl) np (fun w h => h.allO) ?_
      refine Pw.takeP 19 (nb 22 1048575) rfl rfl rfl rfl (by kernel_rfl) np (fun w h => h.allO) ?_
      refine Pw.takeP 20 (nb 22 2097151) rfl rfl rfl rfl (by kernel_rfl) np (fun w h => h.allO) ?_
      refine Pw.takeP 21 (nb 22 4194303) rfl rfl rfl rfl (by kernel_rfl) np (fun w h => h.allO) ?_
      refine Pw.done (by kernel_rfl) ?_
      try refine Pw.run ?_
      refine Pw.list (Pw.indexO rfl rfl rfl rfl c7 (by omega) rfl rfl ?_)
      refine Pw.list (Pw.storeI rfl rfl rfl rfl rfl c7 c8 .head rfl ?_)
      try refine Pw.run ?_
      exact Pw.again (k', _, _, _) ⟨h, by rw [List.length_set]; exact hout, by omega⟩ (Nat.lt_succ_self _) ⟨rfl, rfl, rfl, rfl, rfl, rfl, rfl, rfl, rfl, trivial⟩ rfl (fun w h => h)
    · rw [if_neg c6] at h
      obtain ⟨c9, h⟩ := ite_none h
      obtain ⟨c10, h⟩ := ite_none h
      try refine Pw.run ?_
      refine Pw.list (Pw.indexO rfl rfl rfl rfl c9 (by omega) rfl rfl ?_)
      refine Pw.list (Pw.storeI rfl rfl rfl rfl rfl c9 c10 .head rfl ?_)
      try refine Pw.run ?_
      exact Pw.again (k', _, _) ⟨h, by rw [List.length_set]; exact hout⟩ (by show k' < k + 1; omega) ⟨rfl, rfl, rfl, rfl, rfl, trivial⟩ rfl (fun w h => h)
  · rw [if_neg c3] at h
    obtain ⟨t, ht, h⟩ := Option.bind_eq_some_iff.1 h
    have e2 := rtrim_some (by omega) ht
    subst e2
    obtain rfl := Option.some.inj h
    subst hout
    refine freeHead ?_
    try refine Pw.run ?_
    refine Pw.list (Pw.call (rtrim_ct out (some ⟨g, 0, none⟩, out.length) (by omega)) rfl rfl rfl (by kernel_rfl) rfl rfl (fun w h => ints_of_row' (fact0 h) (Nat.le_refl _) (by simp only [maxLen]; omega)) ?_)
    intro z _
    try refine Pw.run ?_
    exact Pw.ret_ (x := z) (.tmp rfl .nil) rfl trivial (fun w h => fact0 h)
end Go.Proofs.Wk
/- Walks of the reference: bits, shifting, halving. -/
namespace Go.Proofs.Wk
open Go.RowKit
set_option maxRecDepth 100000
attribute [local irreducible] Pw OpG
set_option linter.unusedVariables false
set_option linter.unusedSimpArgs false
theorem rbits_ct (a : List Int) (x : Option Addr × Nat) (k : Nat) (r : Int) (h : psephosref01_bits.f k a = some r) (hl : a.length < 4194304) :
    Ct Tryz.prog 82 #[sl a x] (S1 a x) (fun _ : Unit => .int .i64 r) Tt (fun _ _ => True) := by
  obtain ⟨A, c⟩ := x
  unfold psephosref01_bits.f at h
  refine Ct.start Tryz.func82 rfl rfl (slots_of rfl slots1) (fun D w0 => ?_)
  try refine Pw.run ?_
  refine Pw.loopJ (σ := Nat × Int) (fun s => psephosref01_bits.l0 s.1 a s.2 = some r) (fun s => ⟨[(0, .slice A a.length c), (3, .int .i64 s.2)], [], [Ints .u32 a A c]⟩) (fun s => s.1) (_, _) h (Pw.enter ⟨rfl, rfl, trivial⟩ (fun _ h => h)) ?_
  clear h
  rintro ⟨k, n⟩ h
  dsimp only at h ⊢
  obtain _ | k := k
  · cases h
  simp only [psephosref01_bits.l0] at h
  try refine Pw.run ?_
  refine Pw.split 9 rfl (fun c1 => ?_) (fun c1 => ?_)
  · rw [if_pos c1] at h
    obtain ⟨c2, h⟩ := ite_none h
    obtain ⟨c3, h⟩ := ite_none h
    obtain ⟨c4, h⟩ := ite_none h
    try refine Pw.run ?_
    refine Pw.list (Pw.index rfl rfl rfl rfl c2 c3 (fun w h => (fact0 h).has c2 c3) rfl rfl ?_)
    rintro ad rfl
    refine Pw.list (Pw.load1 rfl rfl (fun w hs => by first | exact (fact0 hs.all).cell (by first | assumption | omega) (by first | assumption | omega) | exact (fact1 hs.all).cell (by first | assumption | omega) (by first | assumption | omega) | exact (fact2 hs.all).cell (by first | assumption | omega) (by first | assumption | omega) | exact (fact3 hs.all).cell (by first | assumption | omega) (by first | assumption | omega)) rfl rfl ?_)
    try refine Pw.run ?_
    refine Pw.list (Pw.shr rfl rfl rfl c4 rfl rfl ?_)
    try refine Pw.run ?_
    refine Pw.condD rfl (fun c5 => ?_) (fun c5 => ?_)
    · rw [if_pos c5] at h
      try refine Pw.run ?_
      exact Pw.again (k, _) h (Nat.lt_succ_self _) ⟨rfl, rfl, trivial⟩ rfl (fun w h => h)
    · rw [if_neg c5] at h
      obtain rfl := Option.some.inj h
      try refine Pw.run ?_
      exact Pw.ret_ (x := ()) (.tmp rfl .nil) rfl trivial (fun w h => by trivial)
  · rw [if_neg c1] at h
    obtain rfl := Option.some.inj h
    try refine Pw.run ?_
    exact Pw.ret_ (x := ()) (.tmp rfl .nil) rfl trivial (fun w h => by trivial)
theorem rshifted_ct (a : List Int) (x : Option Addr × Nat) (s : Int) (k : Nat) (r : List Int) (h : psephosref01_shifted.f k a s = some r) (hs : 0 ≤ s) (hs1 : s < 134217728) (hl : a.length < 1048576) :
    Ct Tryz.prog 83 #[sl a x, .int .i64 s] (S1 a x) (fun z => sl r z) Tt (fun z => S1 r z) := by
  obtain ⟨A, c⟩ := x
  unfold psephosref01_shifted.f at h
  obtain ⟨c1, h⟩ := ite_none h
  obtain ⟨c2, h⟩ := ite_none h
  have e0 : Int.tdiv s 32 = s / 32 := Int.tdiv_eq_ediv_of_nonneg hs
  obtain ⟨m, hm⟩ : ∃ m, m = a.length + (s / 32).toNat + 1 := ⟨_, rfl⟩
  have e1 : wrap64 (wrap64 ((a.length : Int) + wrap64 (Int.tdiv s 32)) + 1) = (m : Int) := by rw [e0, wi64 (n := s / 32) (by omega) (by omega), wi64 (n := (a.length : Int) + s / 32) (by omega) (by omega), wi64 (by omega) (by omega)]; omega
  rw [e1, Int.toNat_natCast] at h
  refine Ct.start Tryz.func83 rfl rfl (slots_of rfl slots2) (fun D w0 => ?_)
  try refine Pw.run ?_
  refine Pw.re (d := 13) (v' := .int .i64 (m : Int)) rfl (by rw [e1]) ?_
  refine Pw.list (Pw.make rfl rfl rfl rfl rfl rfl (show 4 * m ≤ _ by omega) (by simp only [maxLen]; omega) rfl rfl (fun g => ?_))
  rw [zeros_map]
  try refine Pw.run ?_
  refine Pw.loopJ (σ := Nat × List Int × Int) (fun t => psephosref01_shifted.l0 t.1 a s t.2.1 (a.length : Int) t.2.2 = some r ∧ t.2.1.length = m)
    (fun t => ⟨[(0, .slice A a.length c), (1, .int .i64 s), (5, .slice (some ⟨g, 0, none⟩) m m), (16, .int .i64 a.length), (17, .int .i64 t.2.2)], [⟨g, row (t.2.1.map (Value.int .u32)) 135⟩], [Ints .u32 a A c]⟩) (fun s => s.1) (k, _, 0) ⟨h, by simp⟩ (Pw.enter ⟨rfl, rfl, rfl, rfl, rfl, trivial⟩ (fun _ h => h)) ?_
  clear h
  rintro ⟨k, out, i⟩ ⟨h, hout⟩
  dsimp only at h hout ⊢
  obtain _ | k := k
  · cases h
  simp only [psephosref01_shifted.l0] at h
  try refine Pw.run ?_
  refine Pw.condD rfl (fun c3 => ?_) (fun c3 => ?_)
  · rw [if_pos c3] at h
    obtain ⟨c4, h⟩ := ite_none h
    obtain ⟨c5, h⟩ := ite_none h
    obtain ⟨c6, h⟩ := ite_none h
    obtain ⟨c7, h⟩ := ite_none h
    obtain ⟨c8, h⟩ := ite_none h
    obtain ⟨c9, h⟩ := ite_none h
    obtain ⟨c10, h⟩ := ite_none h
    try refine Pw.run ?_
    refine Pw.list (Pw.index rfl rfl rfl rfl c4 c5 (fun w h => (fact0 h).has c4 c5) rfl rfl ?_)
    rintro ad rfl
    refine Pw.list (Pw.load1 rfl rfl (fun w hs => by first | exact (fact0 hs.all).cell (by first | assumption | omega) (by first | assumption | omega) | exact (fact1 hs.all).cell (by first | assumption | omega) (by first | assumption | omega) | exact (fact2 hs.all).cell (by first | assumption | omega) (by first | assumption | omega) | exact (fact3 hs.all).cell (by first | assumption | omega) (by first | assumption | omega)) rfl rfl ?_)
    try refine Pw.run ?_
    refine Pw.list (Pw.shl rfl rfl rfl c6 rfl rfl ?_)
    try refine Pw.run ?_
    refine Pw.list (Pw.indexO rfl rfl rfl rfl c7 (by omega) rfl rfl ?_)
    refine Pw.list (Pw.loadI rfl rfl rfl (.head _) c7 c8 rfl rfl ?_)
    try refine Pw.run ?_
    refine Pw.list (Pw.indexO rfl rfl rfl rfl c7 (by omega) rfl rfl ?_)
    refine Pw.list (Pw.storeI rfl rfl rfl rfl rfl c7 c8 .head rfl ?_)
    try refine Pw.run ?_
    refine Pw.list (Pw.indexO rfl rfl rfl rfl c9 (by omega) rfl rfl ?_)
    refine Pw.list (Pw.storeI rfl rfl rfl rfl rfl c9 (by rw [List.length_set]; exact c10) .head rfl ?_)
    try refine Pw.run ?_
    exact Pw.again (k, _, _) ⟨h, by rw [List.length_set, List.length_set]; exact hout⟩ (Nat.lt_succ_self _) ⟨rfl, rfl, rfl, rfl, rfl, trivial⟩ rfl (fun w h => h)
  · rw [if_neg c3] at h
    obtain ⟨t, ht, h⟩ := Option.bind_eq_some_iff.1 h
    have e2 := rtrim_some (by omega) ht
    subst e2
    obtain rfl := Option.some.inj h
    subst hout
    refine freeHead ?_
    try refine Pw.run ?_
    refine Pw.list (Pw.call (rtrim_ct out (some ⟨g, 0, none⟩, out.length) (by omega)) rfl rfl rfl (by kernel_rfl) rfl rfl (fun w h => ints_of_row' (fact0 h) (Nat.le_refl _) (by simp only [maxLen]; omega)) ?_)
    intro z _
    try refine Pw.run ?_
    exact Pw.ret_ (x := z) (.tmp rfl .nil) rfl trivial (fun w h => fact0 h)
end Go.Proofs.Wk
