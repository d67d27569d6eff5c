/- Walks and their mathematics, merged. No conditions beyond those written. -/
import Derived.Test.YtphmegjmmjmbeaaWmPhragmenRises1
import Derived.Test.YtphmegjmmjmbeaaProg
/- Words for the walks of a seat's program: slices of limbs as values. -/
namespace Go.Proofs.Wk
open Go.RowKit
set_option linter.unusedVariables false
set_option linter.unusedSimpArgs false
theorem mixed : Try.prog.follows .mixedOrders = true := by kernel_rfl
abbrev sl (l : List Int) (x : Option Addr × Nat) : Value := .slice x.1 l.length x.2
abbrev S1 (l : List Int) (x : Option Addr × Nat) : World → Prop := Ints .u32 l x.1 x.2
abbrev Tt {α : Type} (_ : α) : Prop := True
theorem Rows.top' {k : IntKind} {l : List Int} {A : Option Addr} {c : Nat} {W : World} (h : Ints k l A c W) : (l.length : Int) ≤ 9223372036854775807 := by
  have := h.top; simp only [maxLen] at this; omega
end Go.Proofs.Wk
/- Walks of layer 1: trimming, forming, comparing. -/
namespace Go.Proofs.Wk
open Go.RowKit
set_option maxRecDepth 100000
attribute [local irreducible] Pw OpG
set_option linter.unusedVariables false
set_option linter.unusedSimpArgs false
theorem trim_ct (l : List Int) (x : Option Addr × Nat) (hl : l.length < 1099511627776) : Ct Try.prog 66 #[sl l x] (S1 l x) (fun x => sl (trimL l) x) Tt (fun x => S1 (trimL l) x) := by
  obtain ⟨A, c⟩ := x
  have h := trim_ev hl (Nat.lt_succ_self _)
  unfold limb_trim.f at h
  generalize trimL l = r at h
  refine Ct.start Try.func66 rfl rfl (slots_of rfl slots1) (fun D w0 => ?_)
  try refine Pw.run ?_
  refine Pw.loopJ (σ := Nat × List Int) (fun s => limb_trim.l0 s.1 s.2 = some r) (fun s => ⟨[(0, .slice A s.2.length c)], [], [Ints .u32 s.2 A c]⟩) (fun s => s.1) (_, l) h (Pw.enter ⟨rfl, trivial⟩ (fun _ h => h)) ?_
  rintro ⟨k, l⟩ h
  dsimp only at h ⊢
  obtain _ | k := k
  · cases h
  refine Pw.use (p := (l.length : Int) ≤ 9223372036854775807 ∧ l.length ≤ c) (fun w h => ⟨(fact0 h).top', (fact0 h).le⟩) (fun hm => ?_)
  simp only [limb_trim.l0] at h
  try refine Pw.run ?_
  refine Pw.split 6 rfl (fun c1 => ?_) (fun c1 => ?_)
  · rw [if_pos c1] at h
    obtain ⟨c2, h⟩ := ite_none h
    obtain ⟨c3, h⟩ := ite_none h
    try refine Pw.run ?_
    refine Pw.list (Pw.index rfl rfl rfl rfl c2 c3 (fun w h => (fact0 h).has (by omega) c1) rfl rfl ?_)
    rintro ad rfl
    refine Pw.list (Pw.load1 rfl rfl (fun w hs => by first | exact (fact0 hs.all).cell (by first | assumption | omega) (by first | assumption | omega) | exact (fact1 hs.all).cell (by first | assumption | omega) (by first | assumption | omega) | exact (fact2 hs.all).cell (by first | assumption | omega) (by first | assumption | omega) | exact (fact3 hs.all).cell (by first | assumption | omega) (by first | assumption | omega)) rfl rfl ?_)
    try refine Pw.run ?_
    refine Pw.condD rfl (fun c4 => ?_) (fun c4 => ?_)
    · rw [if_pos c4] at h
      obtain ⟨c5, h⟩ := ite_none h
      try refine Pw.run ?_
      refine Pw.list (Pw.cutTo rfl rfl rfl rfl c2 (by omega) rfl rfl ?_)
      try refine Pw.run ?_
      have e : (wrap64 ((l.length : Int) - 1)).toNat = (l.take (wrap64 ((l.length : Int) - 1)).toNat).length := by rw [List.length_take]; omega
      refine Pw.again (k, l.take (wrap64 ((l.length : Int) - 1)).toNat) h (Nat.lt_succ_self _) ?_ rfl ?_
      · exact ⟨by rw [← e]; rfl, trivial⟩
      · exact fun w h => allCons ((fact0 h).take _) allNil
    · rw [if_neg c4] at h
      obtain rfl := Option.some.inj h
      try refine Pw.run ?_
      exact Pw.ret_ (x := (some ad, c)) (.tmp rfl .nil) rfl trivial (fun w h => fact0 h)
  · rw [if_neg c1] at h
    obtain rfl := Option.some.inj h
    try refine Pw.run ?_
    exact Pw.ret_ (x := (A, c)) (.tmp rfl .nil) rfl trivial (fun w h => fact0 h)
theorem fit_ct (l : List Int) (x : Option Addr × Nat) (hl : l.length < 1099511627776) : Ct Try.prog 68 #[sl l x] (S1 l x) (fun x => .tuple #[sl (fitL l).1 x, .int .i64 (fitL l).2]) Tt (fun x => S1 (fitL l).1 x) := by
  refine Ct.start Try.func68 rfl rfl (slots_of rfl slots1) (fun D w0 => ?_)
  try refine Pw.run ?_
  refine Pw.list (Pw.call (trim_ct l x hl) rfl rfl rfl (by kernel_rfl) rfl rfl (fun w h => fact0 h) ?_)
  intro x1 _
  try refine Pw.run ?_
  unfold fitL
  refine Pw.condD rfl (fun c => ?_) (fun c => ?_)
  · rw [if_neg (by omega)]
    try refine Pw.run ?_
    exact Pw.ret_ (x := (none, 0)) (.tmp rfl (.tmp rfl .nil)) rfl trivial (fun w h => Rows.nil _ _ _ _ _)
  · rw [if_pos (by omega)]
    try refine Pw.run ?_
    exact Pw.ret_ (x := x1) (.tmp rfl (.tmp rfl .nil)) rfl trivial (fun w h => fact0 h)
theorem Formed_ct (l : List Int) (x : Option Addr × Nat) (hl : l.length < 1099511627776) : Ct Try.prog 78 #[sl l x] (S1 l x) (fun _ : Unit => .bool (fmB l)) Tt (fun _ _ => True) := by
  obtain ⟨A, c⟩ := x
  have h := Formed_ev hl
  generalize fmB l = r at h
  unfold limb_Formed.f at h
  refine Ct.start Try.func78 rfl rfl (slots_of rfl slots1) (fun D w0 => ?_)
  try refine Pw.run ?_
  refine Pw.split 6 rfl (fun c1 => ?_) (fun c1 => ?_)
  · rw [if_pos c1] at h
    try refine Pw.run ?_
    refine Pw.split 10 rfl (fun c2 => ?_) (fun c2 => ?_)
    · rw [if_pos c2] at h
      obtain rfl := Option.some.inj h
      try refine Pw.run ?_
      exact Pw.ret_ (x := ()) (.tmp rfl .nil) rfl trivial (fun w h => by trivial)
    · rw [if_neg c2] at h
      obtain ⟨c3, h⟩ := ite_none h
      obtain ⟨c4, h⟩ := ite_none h
      obtain rfl := Option.some.inj h
      try refine Pw.run ?_
      refine Pw.list (Pw.index rfl rfl rfl rfl c3 c4 (fun w h => (fact0 h).has c3 c4) rfl rfl ?_)
      rintro ad rfl
      refine Pw.list (Pw.load1 rfl rfl (fun w hs => by first | exact (fact0 hs.all).cell (by first | assumption | omega) (by first | assumption | omega) | exact (fact1 hs.all).cell (by first | assumption | omega) (by first | assumption | omega) | exact (fact2 hs.all).cell (by first | assumption | omega) (by first | assumption | omega) | exact (fact3 hs.all).cell (by first | assumption | omega) (by first | assumption | omega)) rfl rfl ?_)
      try refine Pw.run ?_
      exact Pw.ret_ (x := ()) (.tmp rfl .nil) (by simp [retv, bne]; rfl) trivial (fun w h => by trivial)
  · rw [if_neg c1] at h
    obtain rfl := Option.some.inj h
    try refine Pw.run ?_
    exact Pw.ret_ (x := ()) (.tmp rfl .nil) rfl trivial (fun w h => by trivial)
theorem formed_1_ct (l : List Int) (x : Option Addr × Nat) (hl : l.length < 1099511627776) : Ct Try.prog 77 #[sl l x] (S1 l x) (fun _ : Unit => .bool (!fmB l)) Tt (fun _ _ => True) := by
  refine Ct.start Try.func77 rfl rfl (slots_of rfl slots1) (fun D w0 => ?_)
  try refine Pw.run ?_
  refine Pw.list (Pw.call (Formed_ct l x hl) rfl rfl rfl (by kernel_rfl) rfl rfl (fun w h => fact0 h) ?_)
  intro x1 _
  try refine Pw.run ?_
  exact Pw.ret_ (x := ()) (.tmp rfl .nil) rfl trivial (fun w h => by trivial)
/-- Two naturals in a row of the call's own. -/
def Two (a b : List Int) (x y : Option Addr × Nat) (g : Nat) (W : World) : Prop := W.heap[g]? = some (row [sl a x, sl b y] 34) ∧ S1 a x W ∧ S1 b y W
theorem Two.c0 {a b : List Int} {x y : Option Addr × Nat} {g : Nat} {W : World} (h : Two a b x y g W) : W.cell? ((⟨g, 0, none⟩ : Addr).add ((0 : Int).toNat * 1)) = some (sl a x) := by
  rw [add_none, cell_of_blk h.1]; rfl
theorem Two.c1 {a b : List Int} {x y : Option Addr × Nat} {g : Nat} {W : World} (h : Two a b x y g W) : W.cell? ((⟨g, 0, none⟩ : Addr).add ((1 : Int).toNat * 1)) = some (sl b y) := by
  rw [add_none, cell_of_blk h.1]; rfl
theorem IndexFunc_ct (a b : List Int) (x y : Option Addr × Nat) (g : Nat) (ha : a.length < 1099511627776) (hb : b.length < 1099511627776) :
    Ct Try.prog 84 #[.slice (some ⟨g, 0, none⟩) 2 2, .func (.func 77) #[] #[]] (Two a b x y g) (fun _ : Unit => .int .i64 (if fmB a then (if fmB b then -1 else 1) else 0)) Tt (fun _ _ => True) := by
  refine Ct.start Try.func84 rfl rfl (slots_of rfl slots2) (fun D w0 => ?_)
  try refine Pw.run ?_
  refine Pw.rounds 3 (Pw.round ?_)
  try refine Pw.run ?_
  refine Pw.list (Pw.indexS rfl rfl rfl rfl (by first | assumption | omega) (by first | assumption | omega) rfl rfl ?_)
  refine Pw.list (Pw.load1 rfl rfl (fun w hs => (fact0 hs.all).c0) rfl rfl ?_)
  refine Pw.list (Pw.call (formed_1_ct a x ha) rfl rfl rfl (by kernel_rfl) rfl rfl (fun w h => (fact0 h).2.1) ?_)
  intro _ _
  try refine Pw.run ?_
  cases fmB a
  · try refine Pw.run ?_
    exact Pw.ret_ (x := ()) (.tmp rfl .nil) rfl trivial (fun w h => by trivial)
  · try refine Pw.run ?_
    refine Pw.re (d := 8) (v' := .int .i64 1) rfl (congrArg (Value.int .i64) (wi64 (by omega) (by omega))) ?_
    refine Pw.round ?_
    try refine Pw.run ?_
    refine Pw.list (Pw.indexS rfl rfl rfl rfl (by first | assumption | omega) (by first | assumption | omega) rfl rfl ?_)
    refine Pw.list (Pw.load1 rfl rfl (fun w hs => (fact1 hs.all).c1) rfl rfl ?_)
    refine Pw.list (Pw.call (formed_1_ct b y hb) rfl rfl rfl (by kernel_rfl) rfl rfl (fun w h => (fact1 h).2.2) ?_)
    intro _ _
    try refine Pw.run ?_
    cases fmB b
    · try refine Pw.run ?_
      exact Pw.ret_ (x := ()) (.tmp rfl .nil) rfl trivial (fun w h => by trivial)
    · try refine Pw.run ?_
      refine Pw.re (d := 8) (v' := .int .i64 2) rfl (congrArg (Value.int .i64) (wi64 (by omega) (by omega))) ?_
      refine Pw.round ?_
      try refine Pw.run ?_
      exact Pw.ret_ (x := ()) (.tmp rfl .nil) rfl trivial (fun w h => by trivial)
theorem ContainsFunc_ct (a b : List Int) (x y : Option Addr × Nat) (g : Nat) (ha : a.length < 1099511627776) (hb : b.length < 1099511627776) :
    Ct Try.prog 76 #[.slice (some ⟨g, 0, none⟩) 2 2, .func (.func 77) #[] #[]] (Two a b x y g) (fun _ : Unit => .bool (!(fmB a && fmB b))) Tt (fun _ _ => True) := by
  refine Ct.start Try.func76 rfl rfl (slots_of rfl slots2) (fun D w0 => ?_)
  try refine Pw.run ?_
  refine Pw.list (Pw.call (IndexFunc_ct a b x y g ha hb) rfl rfl rfl (by kernel_rfl) rfl rfl (fun w h => fact0 h) ?_)
  intro _ _
  try refine Pw.run ?_
  exact Pw.ret_ (x := ()) (.tmp rfl .nil) (by cases fmB a <;> cases fmB b <;> rfl) trivial (fun w h => by trivial)
theorem formed_ct (a b : List Int) (x y : Option Addr × Nat) (g : Nat) (ha : a.length < 1099511627776) (hb : b.length < 1099511627776) :
    Ct Try.prog 62 #[.slice (some ⟨g, 0, none⟩) 2 2] (Two a b x y g) (fun _ : Unit => .bool (fmB a && fmB b)) Tt (fun _ _ => True) := by
  refine Ct.start Try.func62 rfl rfl (slots_of rfl slots1) (fun D w0 => ?_)
  try refine Pw.run ?_
  refine Pw.list (Pw.call (ContainsFunc_ct a b x y g ha hb) rfl rfl rfl (by kernel_rfl) rfl rfl (fun w h => fact0 h) ?_)
  intro _ _
  try refine Pw.run ?_
  exact Pw.ret_ (x := ()) (.tmp rfl .nil) (by cases fmB a <;> cases fmB b <;> rfl) trivial (fun w h => by trivial)
theorem Of_ct (n : Int) : Ct Try.prog 38 #[.int .u64 n] (fun _ => True) (fun x => sl (ofN n) x) Tt (fun x => S1 (ofN n) x) := by
  refine Ct.start Try.func38 rfl rfl (slots_of rfl slots1) (fun D w0 => ?_)
  try refine Pw.run ?_
  refine Pw.list (Pw.lit2 rfl rfl rfl rfl rfl rfl rfl rfl rfl rfl rfl (fun g => freeHead ?_))
  refine Pw.list (Pw.call (trim_ct [n % 4294967296, n / 4294967296 % 4294967296] (some ⟨g, 0, none⟩, 2) (by simp)) rfl rfl rfl (by kernel_rfl) rfl rfl (fun w h => ints_of_row' (fact0 h) (by simp) (by simp [maxLen])) ?_)
  intro x1 _
  try refine Pw.run ?_
  exact Pw.ret_ (x := x1) (.tmp rfl .nil) rfl trivial (fun w h => fact0 h)
end Go.Proofs.Wk
/- Walks of layer 1: comparing, copying, adding, subtracting. -/
namespace Go.Proofs.Wk
open Go.RowKit
set_option maxRecDepth 100000
attribute [local irreducible] Pw OpG
set_option linter.unusedVariables false
set_option linter.unusedSimpArgs false
theorem two2 {φ ψ : World → Prop} : ∀ w, All [fun W => φ W ∧ ψ W] w → All [φ, ψ] w := fun w h => allCons (fact0 h).1 (allCons (fact0 h).2 allNil)
theorem some_of {α : Type} {A : Option α} (h : A.isSome = true) : ∃ x, A = some x := Option.isSome_iff_exists.1 h
theorem compare_ct (a b : List Int) (x y : Option Addr × Nat) (ha : Fm a) (hb : Fm b) (hl : a.length < 549755813888) (hl' : b.length < 549755813888) :
    Ct Try.prog 63 #[sl a x, sl b y] (fun W => S1 a x W ∧ S1 b y W) (fun _ : Unit => .int .i64 (cmpS (val a) (val b))) Tt (fun _ _ => True) := by
  obtain ⟨A, c⟩ := x
  obtain ⟨B, d⟩ := y
  have h := compare_ev ha hb hl hl' (Nat.lt_succ_self _)
  generalize cmpS (val a) (val b) = r at h
  unfold limb_compare.f at h
  refine Ct.start Try.func63 rfl rfl (slots_of rfl slots2) (fun D w0 => Pw.facts two2 ?_)
  try refine Pw.run ?_
  refine Pw.condD rfl (fun c1 => ?_) (fun c1 => ?_)
  · rw [if_pos c1] at h
    obtain rfl := Option.some.inj h
    try refine Pw.run ?_
    exact Pw.ret_ (x := ()) (.tmp rfl .nil) rfl trivial (fun w h => by trivial)
  rw [if_neg c1] at h
  try refine Pw.run ?_
  refine Pw.condD rfl (fun c2 => ?_) (fun c2 => ?_)
  · rw [if_pos c2] at h
    obtain rfl := Option.some.inj h
    try refine Pw.run ?_
    exact Pw.ret_ (x := ()) (.tmp rfl .nil) rfl trivial (fun w h => by trivial)
  rw [if_neg c2] at h
  try refine Pw.run ?_
  refine Pw.loopJ (σ := Nat × Int) (fun s => limb_compare.l0 s.1 a b s.2 = some r) (fun s => ⟨[(0, .slice A a.length c), (1, .slice B b.length d), (5, .int .i64 s.2)], [], [Ints .u32 a A c, Ints .u32 b B d]⟩) (fun s => s.1) (_, _) h (Pw.enter ⟨rfl, rfl, rfl, trivial⟩ (fun _ h => h)) ?_
  rintro ⟨k, i⟩ h
  dsimp only at h ⊢
  obtain _ | k := k
  · cases h
  simp only [limb_compare.l0] at h
  try refine Pw.run ?_
  refine Pw.condD rfl (fun c3 => ?_) (fun c3 => ?_)
  · rw [if_pos c3] at h
    obtain ⟨c4, h⟩ := ite_none h
    obtain ⟨c5, h⟩ := ite_none h
    obtain ⟨c6, h⟩ := ite_none h
    try refine Pw.run ?_
    refine Pw.use (p := A.isSome = true ∧ B.isSome = true) (fun w h => ⟨(fact0 h).has c4 c5, (fact1 h).has c4 c6⟩) (fun hA => ?_)
    obtain ⟨⟨ad, rfl⟩, ⟨bd, rfl⟩⟩ := And.intro (some_of hA.1) (some_of hA.2)
    refine Pw.drawnG mixed rfl rfl ?_
    refine Pw.takeP 0 (nb 10 1) rfl rfl rfl rfl (by kernel_rfl) np sf ?_
    refine Pw.takeP 1 (nb 10 3) rfl rfl rfl rfl (by kernel_rfl) np sf ?_
    refine Pw.takeIx 2 (nb 10 7) rfl rfl rfl rfl rfl (by first | assumption | omega) (by first | assumption | omega) rfl rfl (by kernel_rfl) np sf ?_
    refine Pw.takeLd 3 (nb 10 15) rfl rfl rfl (fun w hS => by first | exact own_cell (fact0 hS) (by first | assumption | omega) (by first | assumption | omega) | exact own_cellX (fact0 hS) (by first | assumption | omega) (by first | assumption | omega) | exact (fact0 hS).cell (by first | assumption | omega) (by first | assumption | omega) | exact (fact1 hS).cell (by first | assumption | omega) (by first | assumption | omega) | exact (fact2 hS).cell (by first | assumption | omega) (by first | assumption | omega) | exact (fact3 hS).cell (by first | assumption | omega) (by first | assumption | omega)) rfl rfl (by kernel_rfl) np sf ?_
    refine Pw.takeP 4 (nb 10 31) rfl rfl rfl rfl (by kernel_rfl) np sf ?_
    refine Pw.takeP 5 (nb 10 63) rfl rfl rfl rfl (by kernel_rfl) np sf ?_
    refine Pw.takeIx 6 (nb 10 127) rfl rfl rfl rfl rfl (by first | assumption | omega) (by first | assumption | omega) rfl rfl (by kernel_rfl) np sf ?_
    refine Pw.takeLd 7 (nb 10 255) rfl rfl rfl (fun w hS => by first | exact own_cell (fact0 hS) (by first | assumption | omega) (by first | assumption | omega) | exact own_cellX (fact0 hS) (by first | assumption | omega) (by first | assumption | omega) | exact (fact0 hS).cell (by first | assumption | omega) (by first | assumption | omega) | exact (fact1 hS).cell (by first | assumption | omega) (by first | assumption | omega) | exact (fact2 hS).cell (by first | assumption | omega) (by first | assumption | omega) | exact (fact3 hS).cell (by first | assumption | omega) (by first | assumption | omega)) rfl rfl (by kernel_rfl) np sf ?_
    refine Pw.takeP 8 (nb 10 511) rfl rfl rfl rfl (by kernel_rfl) np sf ?_
    refine Pw.takeP 9 (nb 10 1023) rfl rfl rfl rfl (by kernel_rfl) np sf ?_
    refine Pw.done (by kernel_rfl) ?_
    try refine Pw.run ?_
    refine Pw.condD rfl (fun c7 => ?_) (fun c7 => ?_)
    · rw [if_pos c7] at h
      obtain rfl := Option.some.inj h
      try refine Pw.run ?_
      exact Pw.ret_ (x := ()) (.tmp rfl .nil) rfl trivial (fun w h => by trivial)
    rw [if_neg c7] at h
    try refine Pw.run ?_
    refine Pw.drawnG mixed rfl rfl ?_
    refine Pw.takeP 0 (nb 10 1) rfl rfl rfl rfl (by kernel_rfl) np sf ?_
    refine Pw.takeP 1 (nb 10 3) rfl rfl rfl rfl (by kernel_rfl) np sf ?_
    refine Pw.takeIx 2 (nb 10 7) rfl rfl rfl rfl rfl (by first | assumption | omega) (by first | assumption | omega) rfl rfl (by kernel_rfl) np sf ?_
    refine Pw.takeLd 3 (nb 10 15) rfl rfl rfl (fun w hS => by first | exact own_cell (fact0 hS) (by first | assumption | omega) (by first | assumption | omega) | exact own_cellX (fact0 hS) (by first | assumption | omega) (by first | assumption | omega) | exact (fact0 hS).cell (by first | assumption | omega) (by first | assumption | omega) | exact (fact1 hS).cell (by first | assumption | omega) (by first | assumption | omega) | exact (fact2 hS).cell (by first | assumption | omega) (by first | assumption | omega) | exact (fact3 hS).cell (by first | assumption | omega) (by first | assumption | omega)) rfl rfl (by kernel_rfl) np sf ?_
    refine Pw.takeP 4 (nb 10 31) rfl rfl rfl rfl (by kernel_rfl) np sf ?_
    refine Pw.takeP 5 (nb 10 63) rfl rfl rfl rfl (by kernel_rfl) np sf ?_
    refine Pw.takeIx 6 (nb 10 127) rfl rfl rfl rfl rfl (by first | assumption | omega) (by first | assumption | omega) rfl rfl (by kernel_rfl) np sf ?_
    refine Pw.takeLd 7 (nb 10 255) rfl rfl rfl (fun w hS => by first | exact own_cell (fact0 hS) (by first | assumption | omega) (by first | assumption | omega) | exact own_cellX (fact0 hS) (by first | assumption | omega) (by first | assumption | omega) | exact (fact0 hS).cell (by first | assumption | omega) (by first | assumption | omega) | exact (fact1 hS).cell (by first | assumption | omega) (by first | assumption | omega) | exact (fact2 hS).cell (by first | assumption | omega) (by first | assumption | omega) | exact (fact3 hS).cell (by first | assumption | omega) (by first | assumption | omega)) rfl rfl (by kernel_rfl) np sf ?_
    refine Pw.takeP 8 (nb 10 511) rfl rfl rfl rfl (by kernel_rfl) np sf ?_
    refine Pw.takeP 9 (nb 10 1023) rfl rfl rfl rfl (by kernel_rfl) np sf ?_
    refine Pw.done (by kernel_rfl) ?_
    try refine Pw.run ?_
    refine Pw.condD rfl (fun c8 => ?_) (fun c8 => ?_)
    · rw [if_pos c8] at h
      obtain rfl := Option.some.inj h
      try refine Pw.run ?_
      exact Pw.ret_ (x := ()) (.tmp rfl .nil) rfl trivial (fun w h => by trivial)
    rw [if_neg c8] at h
    try refine Pw.run ?_
    exact Pw.again (k, wrap64 (i - 1)) h (Nat.lt_succ_self _) ⟨rfl, rfl, rfl, trivial⟩ rfl (fun w h => h)
  · rw [if_neg c3] at h
    obtain rfl := Option.some.inj h
    try refine Pw.run ?_
    exact Pw.ret_ (x := ()) (.tmp rfl .nil) rfl trivial (fun w h => by trivial)
theorem Cmp_ct (a b : List Int) (x y : Option Addr × Nat) (ha : Lm a) (hb : Lm b) (hl : a.length < 549755813888) (hl' : b.length < 549755813888) :
    Ct Try.prog 36 #[sl a x, sl b y] (fun W => S1 a x W ∧ S1 b y W) (fun _ : Unit => .int .i64 (cmpF a b)) Tt (fun _ _ => True) := by
  refine Ct.start Try.func36 rfl rfl (slots_of rfl slots2) (fun D w0 => Pw.facts two2 ?_)
  try refine Pw.run ?_
  refine Pw.list (Pw.lit2 rfl rfl rfl rfl rfl rfl rfl rfl rfl rfl rfl (fun g => freeHead ?_))
  refine Pw.list (Pw.call (formed_ct a b x y g (by omega) (by omega)) rfl rfl rfl (by kernel_rfl) rfl rfl (fun w h => ⟨fact0 h, fact1 h, fact2 h⟩) ?_)
  intro _ _
  unfold cmpF
  cases e : fmB a && fmB b
  · rw [if_neg (by cases h1 : fmB a <;> cases h2 : fmB b <;> simp_all)]
    try refine Pw.run ?_
    exact Pw.ret_ (x := ()) (.tmp rfl .nil) rfl trivial (fun w h => by trivial)
  · have hab : fmB a = true ∧ fmB b = true := by simpa using e
    rw [if_pos hab]
    try refine Pw.run ?_
    refine Pw.list (Pw.call (compare_ct a b x y ((fmB_iff ha).1 hab.1).2 ((fmB_iff hb).1 hab.2).2 hl hl') rfl rfl rfl (by kernel_rfl) rfl rfl (fun w h => ⟨fact2 h, fact3 h⟩) ?_)
    intro _ _
    try refine Pw.run ?_
    exact Pw.ret_ (x := ()) (.tmp rfl .nil) rfl trivial (fun w h => by trivial)
/-- What is read of numbers, cell by cell. -/
theorem Rows.cells {k : IntKind} {l : List Int} {A : Option Addr} {c : Nat} {W : World} (h : Ints k l A c W) : ∀ j u, (l.map (Value.int k))[j]? = some u → ∃ b, A = some b ∧ W.cell? (b.add j) = some u := fun j u hu => by
  rw [List.getElem?_map] at hu
  cases e : l[j]? with
  | none => rw [e] at hu; cases hu
  | some x =>
    rw [e] at hu
    obtain ⟨ad, cs, rfl, _, hR, hc⟩ := h.2.2 j x e
    cases hR
    cases hu
    refine ⟨ad, rfl, ?_⟩
    have := hc 0 _ rfl
    simpa using this
theorem Clone_ct (l : List Int) (x : Option Addr × Nat) (hl : l.length < 1099511627776) : Ct Try.prog 74 #[sl l x] (S1 l x) (fun x => sl l x) Tt (fun x => S1 l x) := by
  obtain ⟨A, c⟩ := x
  refine Ct.start Try.func74 rfl rfl (slots_of rfl slots1) (fun D w0 => ?_)
  obtain _ | ad := A
  · try refine Pw.run ?_
    refine Pw.use (p := l = []) (fun w h => ?_) (fun hm => ?_)
    · rcases l with _ | ⟨y, ys⟩
      · rfl
      · have := (fact0 h).has (i := 0) (by omega) (by simp); cases this
    · subst hm
      exact Pw.ret_ (x := (none, 0)) (.tmp rfl .nil) rfl trivial (fun w h => Rows.nil _ _ _ _ _)
  · try refine Pw.run ?_
    refine Pw.list (Pw.lit0 rfl rfl rfl rfl (fun g => ?_))
    try refine Pw.run ?_
    refine Pw.list (Pw.appendCopy (news := l.map (Value.int .u32)) rfl rfl rfl rfl rfl rfl (show (l.map (Value.int .u32)).length = l.length * 1 by simp) (fun w hs => (fact0 hs.all).cells) rfl (by simp only [maxLen]; omega) (show l.length * 4 ≤ _ by omega) (.head _) rfl rfl (fun g cap ex h1 h2 => freeHead (Pw.drop ?_)) (fun h0 => Pw.drop ?_))
    · try refine Pw.run ?_
      exact Pw.ret_ (x := (some ⟨g, 0, none⟩, cap)) (.tmp rfl .nil) rfl trivial (fun w h => ints_of_row (fact0 h) (by omega) (by simp only [maxLen]; omega))
    · have e : l = [] := List.eq_nil_of_length_eq_zero h0
      subst e
      try refine Pw.run ?_
      exact Pw.ret_ (x := (some ⟨g, 0, none⟩, 0)) (.tmp rfl .nil) rfl trivial (fun w h => Rows.nil _ _ _ _ _)
end Go.Proofs.Wk
/- Walks of layer 1: adding, subtracting, multiplying. -/
namespace Go.Proofs.Wk
open Go.RowKit
set_option maxRecDepth 100000
attribute [local irreducible] Pw OpG
set_option linter.unusedVariables false
set_option linter.unusedSimpArgs false
theorem andB {a b : Bool} (h : (a && b) = false) : ¬ (a = true ∧ b = true) := by cases a <;> cases b <;> simp_all
theorem zeros_map (k : IntKind) (m : Nat) : List.replicate m (Value.int k 0) = (List.replicate m (0 : Int)).map (Value.int k) := by simp
theorem trim_more : ∀ (k : Nat) (l r : List Int), limb_trim.l0 k l = some r → limb_trim.l0 (k + 1) l = some r
  | 0, l, r, h => by cases h
  | k + 1, l, r, h => by
    unfold limb_trim.l0 at h ⊢
    split at h
    next c1 =>
      rw [if_pos c1]
      obtain ⟨c2, h⟩ := ite_none h
      obtain ⟨c3, h⟩ := ite_none h
      rw [if_pos c2, if_pos c3]
      split at h
      next c4 =>
        obtain ⟨c5, h⟩ := ite_none h
        rw [if_pos c4, if_pos c5]
        exact trim_more k _ r h
      next c4 => rw [if_neg c4]; exact h
    next c1 => rw [if_neg c1]; exact h
theorem trim_some {k : Nat} {l r : List Int} (hl : l.length < 1099511627776) (h : limb_trim.f k l = some r) : r = trimL l := by
  have h1 : ∀ j, limb_trim.l0 (k + j) l = some r := fun j => by
    induction j with
    | zero => exact h
    | succ j ih => exact trim_more _ _ _ ih
  have h2 := trim_ev hl (k := k + (l.length + 1)) (by omega)
  unfold limb_trim.f at h2
  rw [h1] at h2
  exact Option.some.inj h2
theorem fit_some {k : Nat} {l : List Int} {r : List Int × Int} (hl : l.length < 1099511627776) (h : limb_fit.f k l = some r) : r = fitL l := by
  unfold limb_fit.f at h
  obtain ⟨t, ht, h⟩ := Option.bind_eq_some_iff.1 h
  rw [trim_some hl ht] at h
  unfold fitL
  split at h
  next c => rw [if_neg (by omega)]; exact (Option.some.inj h).symm
  next c => rw [if_pos (by omega)]; exact (Option.some.inj h).symm
theorem Add_ct (a b : List Int) (x y : Option Addr × Nat) (ha : Lm a) (hb : Lm b) (hl : a.length < 1048576) (hl' : b.length < 1048576) :
    Ct Try.prog 42 #[sl a x, sl b y] (fun W => S1 a x W ∧ S1 b y W) (fun z => .tuple #[sl (addS a b).1 z, .int .i64 (addS a b).2]) Tt (fun z => S1 (addS a b).1 z) := by
  have h := add_ev ha hb (by omega) (by omega) (Nat.lt_succ_self _)
  generalize addS a b = r at h
  obtain ⟨r1, r2⟩ := r
  unfold limb_Add.f at h
  rw [formed2_ev (by omega) (by omega) (by omega), Option.bind_some] at h
  generalize (2 * a.length + 2 * b.length + 10).succ = k at h
  refine Ct.start Try.func42 rfl rfl (slots_of rfl slots2) (fun D w0 => Pw.facts two2 ?_)
  try refine Pw.run ?_
  refine Pw.list (Pw.lit2 rfl rfl rfl rfl rfl rfl rfl rfl rfl rfl rfl (fun g => freeHead ?_))
  refine Pw.list (Pw.call (formed_ct a b x y g (by omega) (by omega)) rfl rfl rfl (by kernel_rfl) rfl rfl (fun w h => ⟨fact0 h, fact1 h, fact2 h⟩) ?_)
  intro _ _
  generalize (fmB a && fmB b) = t at h ⊢
  cases t
  · rw [if_neg (by simp)] at h
    obtain ⟨rfl, rfl⟩ := Prod.mk.inj (Option.some.inj h)
    try refine Pw.run ?_
    exact Pw.ret_ (x := (none, 0)) (.tmp rfl (.tmp rfl .nil)) rfl trivial (fun w h => Rows.nil _ _ _ _ _)
  rw [if_pos rfl] at h
  try refine Pw.run ?_
  refine Pw.join (σ := (List Int × List Int) × (Option Addr × Nat) × (Option Addr × Nat)) (fun s => limb_Add.j0 k s.1.1 s.1.2 = some (r1, r2) ∧ s.1.1.length < 1048576) (fun s => ⟨[(0, sl s.1.1 s.2.1), (1, sl s.1.2 s.2.2)], [], [S1 s.1.1 s.2.1, S1 s.1.2 s.2.2]⟩) ?_ ?_
  · refine Pw.condD rfl (fun c1 => ?_) (fun c1 => ?_)
    · rw [if_pos c1] at h
      try refine Pw.run ?_
      exact Pw.arrive ((b, a), (y, x)) ⟨h, hl'⟩ ⟨rfl, rfl, trivial⟩ rfl (fun w h => allCons (fact3 h) (allCons (fact2 h) allNil))
    · rw [if_neg c1] at h
      try refine Pw.run ?_
      exact Pw.arrive ((a, b), (x, y)) ⟨h, hl⟩ ⟨rfl, rfl, trivial⟩ rfl (fun w h => allCons (fact2 h) (allCons (fact3 h) allNil))
  clear h ha hb hl hl'
  rintro ⟨⟨a, b⟩, ⟨A, c⟩, ⟨B, d⟩⟩ ⟨h, hl⟩
  dsimp only at h hl ⊢
  obtain _ | k := k
  · cases h
  simp only [limb_Add.j0] at h
  obtain ⟨c1, h⟩ := ite_none h
  obtain ⟨c2, h⟩ := ite_none h
  have e1 : wrap64 ((a.length : Int) + 1) = ((a.length + 1 : Nat) : Int) := wsucc (by omega)
  rw [e1, Int.toNat_natCast] at h
  try refine Pw.run ?_
  refine Pw.re (d := 23) (v' := .int .i64 ((a.length + 1 : Nat) : Int)) rfl (by rw [e1]) ?_
  refine Pw.list (Pw.make rfl rfl rfl rfl rfl rfl (show 4 * (a.length + 1) ≤ _ by omega) (by simp only [maxLen]; omega) rfl rfl (fun g => ?_))
  rw [zeros_map]
  try refine Pw.run ?_
  refine Pw.loopJ (σ := Nat × List Int × Int × Int) (fun s => limb_Add.l0 s.1 a b s.2.1 s.2.2.1 (a.length : Int) s.2.2.2 = some (r1, r2) ∧ s.2.1.length = a.length + 1)
    (fun s => ⟨[(0, .slice A a.length c), (1, .slice B b.length d), (6, .slice (some ⟨g, 0, none⟩) (a.length + 1) (a.length + 1)), (7, .int .u64 s.2.2.1), (26, .int .i64 a.length), (27, .int .i64 s.2.2.2)], [⟨g, row (s.2.1.map (Value.int .u32)) 41⟩], [Ints .u32 a A c, Ints .u32 b B d]⟩) (fun s => s.1) (k, _, 0, 0) ⟨h, by simp⟩ (Pw.enter ⟨rfl, rfl, rfl, rfl, rfl, rfl, trivial⟩ (fun _ h => h)) ?_
  clear h
  rintro ⟨k, out, carry, i⟩ ⟨h, hout⟩
  dsimp only at h hout ⊢
  obtain _ | k := k
  · cases h
  simp only [limb_Add.l0] at h
  try refine Pw.run ?_
  refine Pw.condD rfl (fun c3 => ?_) (fun c3 => ?_)
  · rw [if_pos c3] at h
    obtain ⟨c4, h⟩ := ite_none h
    obtain ⟨c5, h⟩ := ite_none h
    try refine Pw.run ?_
    refine Pw.list (Pw.index rfl rfl rfl rfl c4 c5 (fun w h => (fact0 h).has c4 c5) rfl rfl ?_)
    rintro ad rfl
    refine Pw.list (Pw.load1 rfl rfl (fun w hs => by first | exact (fact0 hs.all).cell (by first | assumption | omega) (by first | assumption | omega) | exact (fact1 hs.all).cell (by first | assumption | omega) (by first | assumption | omega) | exact (fact2 hs.all).cell (by first | assumption | omega) (by first | assumption | omega) | exact (fact3 hs.all).cell (by first | assumption | omega) (by first | assumption | omega)) rfl rfl ?_)
    try refine Pw.run ?_
    refine Pw.condD rfl (fun c6 => ?_) (fun c6 => ?_)
    · rw [if_pos c6] at h
      obtain ⟨c7, h⟩ := ite_none h
      try refine Pw.run ?_
      refine Pw.list (Pw.index rfl rfl rfl rfl c4 c6 (fun w h => (fact1 h).has c4 c6) rfl rfl ?_)
      rintro bd rfl
      refine Pw.list (Pw.load1 rfl rfl (fun w hs => by first | exact (fact0 hs.all).cell (by first | assumption | omega) (by first | assumption | omega) | exact (fact1 hs.all).cell (by first | assumption | omega) (by first | assumption | omega) | exact (fact2 hs.all).cell (by first | assumption | omega) (by first | assumption | omega) | exact (fact3 hs.all).cell (by first | assumption | omega) (by first | assumption | omega)) rfl rfl ?_)
      try refine Pw.run ?_
      refine Pw.list (Pw.indexO rfl rfl rfl rfl c4 (by omega) rfl rfl ?_)
      refine Pw.list (Pw.storeI rfl rfl rfl rfl rfl c4 c7 .head rfl ?_)
      try refine Pw.run ?_
      exact Pw.again (k, _, _, _) ⟨h, by rw [List.length_set]; exact hout⟩ (Nat.lt_succ_self _) ⟨rfl, rfl, rfl, rfl, rfl, rfl, trivial⟩ rfl (fun w h => h)
    · rw [if_neg c6] at h
      obtain ⟨c7, h⟩ := ite_none h
      try refine Pw.run ?_
      refine Pw.list (Pw.indexO rfl rfl rfl rfl c4 (by omega) rfl rfl ?_)
      refine Pw.list (Pw.storeI rfl rfl rfl rfl rfl c4 c7 .head rfl ?_)
      try refine Pw.run ?_
      exact Pw.again (k, _, _, _) ⟨h, by rw [List.length_set]; exact hout⟩ (Nat.lt_succ_self _) ⟨rfl, rfl, rfl, rfl, rfl, rfl, trivial⟩ rfl (fun w h => h)
  · rw [if_neg c3] at h
    obtain ⟨c4, h⟩ := ite_none h
    obtain ⟨c5, h⟩ := ite_none h
    obtain ⟨t, ht, h⟩ := Option.bind_eq_some_iff.1 h
    have e2 : t = fitL (out.set (a.length : Int).toNat (carry % 4294967296)) := fit_some (by rw [List.length_set]; omega) ht
    subst e2
    obtain ⟨rfl, rfl⟩ := Prod.mk.inj (Option.some.inj h)
    try refine Pw.run ?_
    refine Pw.list (Pw.indexO rfl rfl rfl rfl c4 (by omega) rfl rfl ?_)
    refine Pw.list (Pw.storeI rfl rfl rfl rfl rfl c4 c5 .head rfl ?_)
    refine freeHead ?_
    try refine Pw.run ?_
    have e3 : a.length + 1 = (out.set (a.length : Int).toNat (carry % 4294967296)).length := by rw [List.length_set, hout]
    refine Pw.re (d := 62) rfl (congrArg (fun m => Value.slice (some ⟨g, 0, none⟩) m (a.length + 1)) e3) ?_
    refine Pw.list (Pw.call (fit_ct (out.set (a.length : Int).toNat (carry % 4294967296)) (some ⟨g, 0, none⟩, a.length + 1) (by rw [← e3]; omega)) rfl rfl rfl (by kernel_rfl) rfl rfl (fun w h => ints_of_row' (fact0 h) (by rw [← e3]; omega) (by rw [← e3]; simp only [maxLen]; omega)) ?_)
    intro z _
    try refine Pw.run ?_
    exact Pw.ret_ (x := z) (.tmp rfl (.tmp rfl .nil)) rfl trivial (fun w h => fact0 h)
theorem Mul_ct (a b : List Int) (x y : Option Addr × Nat) (ha : Lm a) (hb : Lm b) (hl : a.length < 1048576) (hl' : b.length < 1048576) :
    Ct Try.prog 55 #[sl a x, sl b y] (fun W => S1 a x W ∧ S1 b y W) (fun z => .tuple #[sl (mulS a b).1 z, .int .i64 (mulS a b).2]) Tt (fun z => S1 (mulS a b).1 z) := by
  have h := mul_ev ha hb (by omega) (by omega) (Nat.lt_succ_self _)
  generalize mulS a b = r at h
  obtain ⟨r1, r2⟩ := r
  unfold limb_Mul.f at h
  rw [formed2_ev (by omega) (by omega) (by omega), Option.bind_some] at h
  generalize Nat.succ _ = k at h
  refine Ct.start Try.func55 rfl rfl (slots_of rfl slots2) (fun D w0 => Pw.facts two2 ?_)
  try refine Pw.run ?_
  refine Pw.list (Pw.lit2 rfl rfl rfl rfl rfl rfl rfl rfl rfl rfl rfl (fun g => freeHead ?_))
  refine Pw.list (Pw.call (formed_ct a b x y g (by omega) (by omega)) rfl rfl rfl (by kernel_rfl) rfl rfl (fun w h => ⟨fact0 h, fact1 h, fact2 h⟩) ?_)
  intro _ _
  generalize (fmB a && fmB b) = t at h ⊢
  cases t
  · rw [if_neg (by simp)] at h
    obtain ⟨rfl, rfl⟩ := Prod.mk.inj (Option.some.inj h)
    try refine Pw.run ?_
    exact Pw.ret_ (x := (none, 0)) (.tmp rfl (.tmp rfl .nil)) rfl trivial (fun w h => Rows.nil _ _ _ _ _)
  rw [if_pos rfl] at h
  obtain ⟨c1, h⟩ := ite_none h
  obtain ⟨c2, h⟩ := ite_none h
  obtain ⟨A, c⟩ := x
  obtain ⟨B, d⟩ := y
  refine Pw.facts (G' := [Ints .u32 a A c, Ints .u32 b B d]) (fun w h => allCons (fact2 h) (allCons (fact3 h) allNil)) ?_
  obtain ⟨m, hm⟩ : ∃ m, m = a.length + b.length := ⟨_, rfl⟩
  have e1 : wrap64 ((a.length : Int) + b.length) = (m : Int) := by rw [wi64 (by omega) (by omega)]; omega
  rw [e1, Int.toNat_natCast] at h
  try refine Pw.run ?_
  refine Pw.re (d := 21) (v' := .int .i64 (m : Int)) rfl (by rw [e1]) ?_
  refine Pw.list (Pw.make rfl rfl rfl rfl rfl rfl (show 4 * m ≤ _ by omega) (by simp only [maxLen]; omega) rfl rfl (fun g => ?_))
  rw [zeros_map]
  try refine Pw.run ?_
  refine Pw.loopJ (σ := Nat × List Int × Int) (fun s => limb_Mul.l0 s.1 b s.2.1 a (a.length : Int) s.2.2 = some (r1, r2) ∧ s.2.1.length = m)
    (fun s => ⟨[(1, .slice B b.length d), (6, .slice (some ⟨g, 0, none⟩) m m), (23, .slice A a.length c), (24, .int .i64 a.length), (25, .int .i64 s.2.2)], [⟨g, row (s.2.1.map (Value.int .u32)) 41⟩], [Ints .u32 a A c, Ints .u32 b B d]⟩) (fun s => s.1) (k, _, 0) ⟨h, by simp⟩ (Pw.enter ⟨rfl, rfl, rfl, rfl, rfl, trivial⟩ (fun _ h => h)) ?_
  clear h
  rintro ⟨k, out, i⟩ ⟨h, hout⟩
  dsimp only at h hout ⊢
  obtain _ | k := k
  · cases h
  simp only [limb_Mul.l0] at h
  try refine Pw.run ?_
  refine Pw.condD rfl (fun c3 => ?_) (fun c3 => ?_)
  · rw [if_pos c3] at h
    obtain ⟨c4, h⟩ := ite_none h
    obtain ⟨c5, h⟩ := ite_none h
    try refine Pw.run ?_
    refine Pw.list (Pw.index rfl rfl rfl rfl c4 c5 (fun w h => (fact0 h).has c4 c5) rfl rfl ?_)
    rintro ad rfl
    refine Pw.list (Pw.load1 rfl rfl (fun w hs => by first | exact (fact0 hs.all).cell (by first | assumption | omega) (by first | assumption | omega) | exact (fact1 hs.all).cell (by first | assumption | omega) (by first | assumption | omega) | exact (fact2 hs.all).cell (by first | assumption | omega) (by first | assumption | omega) | exact (fact3 hs.all).cell (by first | assumption | omega) (by first | assumption | omega)) rfl rfl ?_)
    try refine Pw.run ?_
    refine Pw.loopJ (σ := Nat × List Int × Int × Int) (fun s => limb_Mul.l1 s.1 b s.2.1 i (rd a i) s.2.2.1 a (a.length : Int) i b (b.length : Int) s.2.2.2 = some (r1, r2) ∧ s.2.1.length = m ∧ s.1 ≤ k)
      (fun s => ⟨[(1, .slice B b.length d), (6, .slice (some ⟨g, 0, none⟩) m m), (7, .int .i64 i), (8, .int .u32 (rd a i)), (9, .int .u64 s.2.2.1), (23, .slice (some ad) a.length c), (24, .int .i64 a.length), (25, .int .i64 i), (30, .slice B b.length d), (31, .int .i64 b.length), (32, .int .i64 s.2.2.2)], [⟨g, row (s.2.1.map (Value.int .u32)) 41⟩], [Ints .u32 a (some ad) c, Ints .u32 b B d]⟩) (fun s => s.1) (k, _, 0, 0) ⟨h, hout, Nat.le_refl _⟩ (Pw.enter ⟨rfl, rfl, rfl, rfl, rfl, rfl, rfl, rfl, rfl, rfl, rfl, trivial⟩ (fun _ h => h)) ?_
    clear h hout
    rintro ⟨k', out, carry, j⟩ ⟨h, hout, hk⟩
    dsimp only at h hout hk ⊢
    obtain _ | k' := k'
    · cases h
    simp only [limb_Mul.l1] at h
    try refine Pw.run ?_
    refine Pw.condD rfl (fun c6 => ?_) (fun c6 => ?_)
    · rw [if_pos c6] at h
      obtain ⟨c7, h⟩ := ite_none h
      obtain ⟨c8, h⟩ := ite_none h
      obtain ⟨c9, h⟩ := ite_none h
      obtain ⟨c10, h⟩ := ite_none h
      try refine Pw.run ?_
      refine Pw.list (Pw.index rfl rfl rfl rfl c7 c8 (fun w h => (fact1 h).has c7 c8) rfl rfl ?_)
      rintro bd rfl
      refine Pw.list (Pw.load1 rfl rfl (fun w hs => by first | exact (fact0 hs.all).cell (by first | assumption | omega) (by first | assumption | omega) | exact (fact1 hs.all).cell (by first | assumption | omega) (by first | assumption | omega) | exact (fact2 hs.all).cell (by first | assumption | omega) (by first | assumption | omega) | exact (fact3 hs.all).cell (by first | assumption | omega) (by first | assumption | omega)) rfl rfl ?_)
      try refine Pw.run ?_
      refine Pw.list (Pw.indexO rfl rfl rfl rfl c9 (by omega) rfl rfl ?_)
      refine Pw.list (Pw.loadI rfl rfl rfl (.head _) c9 c10 rfl rfl ?_)
      try refine Pw.run ?_
      refine Pw.list (Pw.indexO rfl rfl rfl rfl c9 (by omega) rfl rfl ?_)
      refine Pw.list (Pw.storeI rfl rfl rfl rfl rfl c9 c10 .head rfl ?_)
      try refine Pw.run ?_
      exact Pw.again (k', _, _, _) ⟨h, by rw [List.length_set]; exact hout, by omega⟩ (Nat.lt_succ_self _) ⟨rfl, rfl, rfl, rfl, rfl, rfl, rfl, rfl, rfl, rfl, rfl, trivial⟩ rfl (fun w h => h)
    · rw [if_neg c6] at h
      obtain ⟨c9, h⟩ := ite_none h
      obtain ⟨c10, h⟩ := ite_none h
      try refine Pw.run ?_
      refine Pw.list (Pw.indexO rfl rfl rfl rfl c9 (by omega) rfl rfl ?_)
      refine Pw.list (Pw.storeI rfl rfl rfl rfl rfl c9 c10 .head rfl ?_)
      try refine Pw.run ?_
      exact Pw.again (k', _, _) ⟨h, by rw [List.length_set]; exact hout⟩ (by show k' < k + 1; omega) ⟨rfl, rfl, rfl, rfl, rfl, trivial⟩ rfl (fun w h => h)
  · rw [if_neg c3] at h
    obtain ⟨t, ht, h⟩ := Option.bind_eq_some_iff.1 h
    have e2 : t = fitL out := fit_some (by omega) ht
    subst e2
    obtain ⟨rfl, rfl⟩ := Prod.mk.inj (Option.some.inj h)
    subst hout
    refine freeHead ?_
    try refine Pw.run ?_
    refine Pw.list (Pw.call (fit_ct out (some ⟨g, 0, none⟩, out.length) (by omega)) rfl rfl rfl (by kernel_rfl) rfl rfl (fun w h => ints_of_row' (fact0 h) (Nat.le_refl _) (by simp only [maxLen]; omega)) ?_)
    intro z _
    try refine Pw.run ?_
    exact Pw.ret_ (x := z) (.tmp rfl (.tmp rfl .nil)) rfl trivial (fun w h => fact0 h)
end Go.Proofs.Wk
/- Walks of layer 1: subtracting, dividing. -/
namespace Go.Proofs.Wk
open Go.RowKit
set_option maxRecDepth 100000
attribute [local irreducible] Pw OpG
set_option linter.unusedVariables false
set_option linter.unusedSimpArgs false
theorem small_ct (l : List Int) (x : Option Addr × Nat) (b : Int) (ha : Lm l) (hb0 : 0 < b) (hb1 : b ≤ 4294967295) (hl : l.length < 1048576) :
    Ct Try.prog 85 #[sl l x, .int .u32 b] (S1 l x) (fun z : (Option Addr × Nat) × (Option Addr × Nat) => .tuple #[sl (natL (val l / b)) z.1, sl (natL (val l % b)) z.2]) Tt (fun z W => S1 (natL (val l / b)) z.1 W ∧ S1 (natL (val l % b)) z.2 W) := by
  obtain ⟨A, c⟩ := x
  have h := small_ev ha hb0 hb1 (by omega) (Nat.lt_succ_self _)
  generalize natL (val l / b) = q at h
  generalize natL (val l % b) = m at h
  generalize Nat.succ _ = k at h
  unfold limb_small.f at h
  obtain ⟨c1, h⟩ := ite_none h
  obtain ⟨c2, h⟩ := ite_none h
  simp only [Int.toNat_natCast] at h
  refine Ct.start Try.func85 rfl rfl (slots_of rfl slots2) (fun D w0 => ?_)
  try refine Pw.run ?_
  refine Pw.list (Pw.make rfl rfl rfl rfl rfl rfl (show 4 * l.length ≤ _ by omega) (by simp only [maxLen]; omega) rfl rfl (fun g => ?_))
  rw [zeros_map]
  try refine Pw.run ?_
  refine Pw.loopJ (σ := Nat × List Int × Int × Int) (fun s => limb_small.l0 s.1 l b s.2.1 s.2.2.1 s.2.2.2 = some (q, m) ∧ s.2.1.length = l.length)
    (fun s => ⟨[(0, .slice A l.length c), (1, .int .u32 b), (6, .slice (some ⟨g, 0, none⟩) l.length l.length), (7, .int .u64 s.2.2.1), (8, .int .i64 s.2.2.2)], [⟨g, row (s.2.1.map (Value.int .u32)) 41⟩], [Ints .u32 l A c]⟩) (fun s => s.1) (k, _, 0, _) ⟨h, by simp⟩ (Pw.enter ⟨rfl, rfl, rfl, rfl, rfl, trivial⟩ (fun _ h => h)) ?_
  clear h
  rintro ⟨k, out, rest, i⟩ ⟨h, hout⟩
  dsimp only at h hout ⊢
  obtain _ | k := k
  · cases h
  simp only [limb_small.l0] at h
  try refine Pw.run ?_
  refine Pw.condD rfl (fun c3 => ?_) (fun c3 => ?_)
  · rw [if_pos c3] at h
    obtain ⟨c4, h⟩ := ite_none h
    obtain ⟨c5, h⟩ := ite_none h
    obtain ⟨c6, h⟩ := none_ite h
    obtain ⟨c7, h⟩ := ite_none h
    try refine Pw.run ?_
    refine Pw.list (Pw.index rfl rfl rfl rfl c4 c5 (fun w h => (fact0 h).has c4 c5) rfl rfl ?_)
    rintro ad rfl
    refine Pw.list (Pw.load1 rfl rfl (fun w hs => by first | exact (fact0 hs.all).cell (by first | assumption | omega) (by first | assumption | omega) | exact (fact1 hs.all).cell (by first | assumption | omega) (by first | assumption | omega) | exact (fact2 hs.all).cell (by first | assumption | omega) (by first | assumption | omega) | exact (fact3 hs.all).cell (by first | assumption | omega) (by first | assumption | omega)) rfl rfl ?_)
    try refine Pw.run ?_
    refine Pw.list (Pw.quo rfl rfl rfl c6 rfl rfl rfl ?_)
    try refine Pw.run ?_
    refine Pw.list (Pw.indexO rfl rfl rfl rfl c4 (by omega) rfl rfl ?_)
    refine Pw.list (Pw.storeI rfl rfl rfl rfl rfl c4 c7 .head rfl ?_)
    try refine Pw.run ?_
    refine Pw.list (Pw.rem rfl rfl rfl c6 rfl rfl ?_)
    try refine Pw.run ?_
    exact Pw.again (k, _, _, _) ⟨h, by rw [List.length_set]; exact hout⟩ (Nat.lt_succ_self _) ⟨rfl, rfl, rfl, rfl, rfl, trivial⟩ rfl (fun w h => h)
  · rw [if_neg c3] at h
    obtain ⟨t, ht, h⟩ := Option.bind_eq_some_iff.1 h
    obtain ⟨u, hu, h⟩ := Option.bind_eq_some_iff.1 h
    have e1 := trim_some (by omega) ht
    have e2 := trim_some (by simp) hu
    obtain ⟨rfl, rfl⟩ := Prod.mk.inj (Option.some.inj h)
    subst e1 e2
    refine freeHead ?_
    try refine Pw.run ?_
    refine Pw.re (d := 39) (v' := sl out (some ⟨g, 0, none⟩, l.length)) rfl (congrArg (fun m => Value.slice (some ⟨g, 0, none⟩) m l.length) hout.symm) ?_
    refine Pw.list (Pw.call (trim_ct out (some ⟨g, 0, none⟩, l.length) (by omega)) rfl rfl rfl (by kernel_rfl) rfl rfl (fun w h => ints_of_row' (fact0 h) (by omega) (by simp only [maxLen]; omega)) ?_)
    intro z1 _
    try refine Pw.run ?_
    refine Pw.list (Pw.lit1 rfl rfl rfl rfl rfl rfl rfl rfl rfl (fun g' => freeHead ?_))
    refine Pw.list (Pw.call (trim_ct [rest % 4294967296] (some ⟨g', 0, none⟩, 1) (by simp)) rfl rfl rfl (by kernel_rfl) rfl rfl (fun w h => ints_of_row' (fact0 h) (by simp) (by simp [maxLen])) ?_)
    intro z2 _
    try refine Pw.run ?_
    exact Pw.ret_ (x := (z1, z2)) (.tmp rfl (.tmp rfl .nil)) rfl trivial (fun w h => ⟨fact2 h, fact0 h⟩)
theorem shift_ct (l : List Int) (x : Option Addr × Nat) (s : Int) (out' : List Int) (k : Nat) (h : limb_shift.f k l s = some out') (ho : out'.length = l.length + 1) (hl : l.length < 1048576) :
    CtO Try.prog 87 #[sl l x, .int .i64 s] (S1 l x) (fun g : Nat => .slice (some ⟨g, 0, none⟩) (l.length + 1) (l.length + 1)) Tt id (fun _ => row (out'.map (Value.int .u32)) 41) := by
  obtain ⟨A, c⟩ := x
  unfold limb_shift.f at h
  obtain ⟨c1, h⟩ := ite_none h
  obtain ⟨c2, h⟩ := ite_none h
  have e1 : wrap64 ((l.length : Int) + 1) = ((l.length + 1 : Nat) : Int) := wsucc (by omega)
  rw [e1, Int.toNat_natCast] at h
  refine CtO.start Try.func87 rfl rfl (slots_of rfl slots2) (fun D w0 => ?_)
  try refine Pw.run ?_
  refine Pw.re (d := 11) (v' := .int .i64 ((l.length + 1 : Nat) : Int)) rfl (by rw [e1]) ?_
  refine Pw.list (Pw.make rfl rfl rfl rfl rfl rfl (show 4 * (l.length + 1) ≤ _ by omega) (by simp only [maxLen]; omega) rfl rfl (fun g => ?_))
  rw [zeros_map]
  try refine Pw.run ?_
  refine Pw.loopJ (σ := Nat × List Int × Int) (fun t => limb_shift.l0 t.1 s t.2.1 l (l.length : Int) t.2.2 = some out' ∧ t.2.1.length = l.length + 1)
    (fun t => ⟨[(1, .int .i64 s), (5, .slice (some ⟨g, 0, none⟩) (l.length + 1) (l.length + 1)), (13, .slice A l.length c), (14, .int .i64 l.length), (15, .int .i64 t.2.2)], [⟨g, row (t.2.1.map (Value.int .u32)) 41⟩], [Ints .u32 l A c]⟩) (fun s => s.1) (k, _, 0) ⟨h, by simp⟩ (Pw.enter ⟨rfl, rfl, rfl, rfl, rfl, trivial⟩ (fun _ h => h)) ?_
  clear h
  rintro ⟨k, out, i⟩ ⟨h, hout⟩
  dsimp only at h hout ⊢
  obtain _ | k := k
  · cases h
  simp only [limb_shift.l0] at h
  try refine Pw.run ?_
  refine Pw.condD rfl (fun c3 => ?_) (fun c3 => ?_)
  · rw [if_pos c3] at h
    obtain ⟨c4, h⟩ := ite_none h
    obtain ⟨c5, h⟩ := ite_none h
    obtain ⟨c6, h⟩ := ite_none h
    obtain ⟨c7, h⟩ := ite_none h
    obtain ⟨c8, h⟩ := ite_none h
    obtain ⟨c9, h⟩ := ite_none h
    try refine Pw.run ?_
    refine Pw.list (Pw.index rfl rfl rfl rfl c4 c5 (fun w h => (fact0 h).has c4 c5) rfl rfl ?_)
    rintro ad rfl
    refine Pw.list (Pw.load1 rfl rfl (fun w hs => by first | exact (fact0 hs.all).cell (by first | assumption | omega) (by first | assumption | omega) | exact (fact1 hs.all).cell (by first | assumption | omega) (by first | assumption | omega) | exact (fact2 hs.all).cell (by first | assumption | omega) (by first | assumption | omega) | exact (fact3 hs.all).cell (by first | assumption | omega) (by first | assumption | omega)) rfl rfl ?_)
    try refine Pw.run ?_
    refine Pw.list (Pw.shl rfl rfl rfl c6 rfl rfl ?_)
    try refine Pw.run ?_
    refine Pw.list (Pw.indexO rfl rfl rfl rfl c4 (by omega) rfl rfl ?_)
    refine Pw.list (Pw.loadI rfl rfl rfl (.head _) c4 c7 rfl rfl ?_)
    try refine Pw.run ?_
    refine Pw.list (Pw.indexO rfl rfl rfl rfl c4 (by omega) rfl rfl ?_)
    refine Pw.list (Pw.storeI rfl rfl rfl rfl rfl c4 c7 .head rfl ?_)
    try refine Pw.run ?_
    refine Pw.list (Pw.indexO rfl rfl rfl rfl c8 (by omega) rfl rfl ?_)
    refine Pw.list (Pw.storeI rfl rfl rfl rfl rfl c8 (by rw [List.length_set]; exact c9) .head rfl ?_)
    try refine Pw.run ?_
    exact Pw.again (k, _, _) ⟨h, by rw [List.length_set, List.length_set]; exact hout⟩ (Nat.lt_succ_self _) ⟨rfl, rfl, rfl, rfl, rfl, trivial⟩ rfl (fun w h => h)
  · rw [if_neg c3] at h
    obtain rfl := Option.some.inj h
    try refine Pw.run ?_
    exact Pw.retO (x := g) (.head _) (.tmp rfl .nil) rfl trivial
theorem unshift_ct (l : List Int) (x : Option Addr × Nat) (s : Int) (k : Nat) (r : List Int) (h : limb_unshift.f k l s = some r) (hl : l.length < 1048577) :
    Ct Try.prog 91 #[sl l x, .int .i64 s] (S1 l x) (fun z => sl r z) Tt (fun z => S1 r z) := by
  obtain ⟨A, c⟩ := x
  unfold limb_unshift.f at h
  obtain ⟨c1, h⟩ := ite_none h
  obtain ⟨c2, h⟩ := ite_none h
  rw [Int.toNat_natCast] at h
  refine Ct.start Try.func91 rfl rfl (slots_of rfl slots2) (fun D w0 => ?_)
  try refine Pw.run ?_
  refine Pw.list (Pw.make rfl rfl rfl rfl rfl rfl (show 4 * l.length ≤ _ by omega) (by simp only [maxLen]; omega) rfl rfl (fun g => ?_))
  rw [zeros_map]
  try refine Pw.run ?_
  refine Pw.loopJ (σ := Nat × List Int × Int) (fun t => limb_unshift.l0 t.1 l s t.2.1 (l.length : Int) t.2.2 = some r ∧ t.2.1.length = l.length)
    (fun t => ⟨[(0, .slice A l.length c), (1, .int .i64 s), (5, .slice (some ⟨g, 0, none⟩) l.length l.length), (12, .int .i64 l.length), (13, .int .i64 t.2.2)], [⟨g, row (t.2.1.map (Value.int .u32)) 41⟩], [Ints .u32 l A c]⟩) (fun s => s.1) (k, _, 0) ⟨h, by simp⟩ (Pw.enter ⟨rfl, rfl, rfl, rfl, rfl, trivial⟩ (fun _ h => h)) ?_
  clear h
  rintro ⟨k, out, i⟩ ⟨h, hout⟩
  dsimp only at h hout ⊢
  obtain _ | k := k
  · cases h
  simp only [limb_unshift.l0] at h
  try refine Pw.run ?_
  refine Pw.condD rfl (fun c3 => ?_) (fun c3 => ?_)
  · rw [if_pos c3] at h
    obtain ⟨c4, h⟩ := ite_none h
    obtain ⟨c5, h⟩ := ite_none h
    try refine Pw.run ?_
    refine Pw.list (Pw.index rfl rfl rfl rfl c4 c5 (fun w h => (fact0 h).has c4 c5) rfl rfl ?_)
    rintro ad rfl
    refine Pw.list (Pw.load1 rfl rfl (fun w hs => by first | exact (fact0 hs.all).cell (by first | assumption | omega) (by first | assumption | omega) | exact (fact1 hs.all).cell (by first | assumption | omega) (by first | assumption | omega) | exact (fact2 hs.all).cell (by first | assumption | omega) (by first | assumption | omega) | exact (fact3 hs.all).cell (by first | assumption | omega) (by first | assumption | omega)) rfl rfl ?_)
    try refine Pw.run ?_
    refine Pw.condD rfl (fun c6 => ?_) (fun c6 => ?_)
    · rw [if_pos c6] at h
      obtain ⟨c7, h⟩ := ite_none h
      obtain ⟨c8, h⟩ := ite_none h
      obtain ⟨c9, h⟩ := ite_none h
      try refine Pw.run ?_
      refine Pw.list (Pw.indexS rfl rfl rfl rfl (by first | assumption | omega) (by first | assumption | omega) rfl rfl ?_)
      refine Pw.list (Pw.load1 rfl rfl (fun w hs => by first | exact (fact0 hs.all).cell (by first | assumption | omega) (by first | assumption | omega) | exact (fact1 hs.all).cell (by first | assumption | omega) (by first | assumption | omega) | exact (fact2 hs.all).cell (by first | assumption | omega) (by first | assumption | omega) | exact (fact3 hs.all).cell (by first | assumption | omega) (by first | assumption | omega)) rfl rfl ?_)
      try refine Pw.run ?_
      refine Pw.list (Pw.shr rfl rfl rfl c8 rfl rfl ?_)
      try refine Pw.run ?_
      refine Pw.list (Pw.indexO rfl rfl rfl rfl c4 (by omega) rfl rfl ?_)
      refine Pw.list (Pw.storeI rfl rfl rfl rfl rfl c4 c9 .head rfl ?_)
      try refine Pw.run ?_
      exact Pw.again (k, _, _) ⟨h, by rw [List.length_set]; exact hout⟩ (Nat.lt_succ_self _) ⟨rfl, rfl, rfl, rfl, rfl, trivial⟩ rfl (fun w h => h)
    · rw [if_neg c6] at h
      obtain ⟨c8, h⟩ := ite_none h
      obtain ⟨c9, h⟩ := ite_none h
      try refine Pw.run ?_
      refine Pw.list (Pw.shr rfl rfl rfl c8 rfl rfl ?_)
      try refine Pw.run ?_
      refine Pw.list (Pw.indexO rfl rfl rfl rfl c4 (by omega) rfl rfl ?_)
      refine Pw.list (Pw.storeI rfl rfl rfl rfl rfl c4 c9 .head rfl ?_)
      try refine Pw.run ?_
      exact Pw.again (k, _, _) ⟨h, by rw [List.length_set]; exact hout⟩ (Nat.lt_succ_self _) ⟨rfl, rfl, rfl, rfl, rfl, trivial⟩ rfl (fun w h => h)
  · rw [if_neg c3] at h
    obtain ⟨t, ht, h⟩ := Option.bind_eq_some_iff.1 h
    have e1 := trim_some (by omega) ht
    obtain rfl := Option.some.inj h
    subst e1
    refine freeHead ?_
    try refine Pw.run ?_
    refine Pw.re (d := 43) (v' := sl out (some ⟨g, 0, none⟩, l.length)) rfl (congrArg (fun m => Value.slice (some ⟨g, 0, none⟩) m l.length) hout.symm) ?_
    refine Pw.list (Pw.call (trim_ct out (some ⟨g, 0, none⟩, l.length) (by omega)) rfl rfl rfl (by kernel_rfl) rfl rfl (fun w h => ints_of_row' (fact0 h) (by omega) (by simp only [maxLen]; omega)) ?_)
    intro z1 _
    try refine Pw.run ?_
    exact Pw.ret_ (x := z1) (.tmp rfl .nil) rfl trivial (fun w h => fact0 h)
end Go.Proofs.Wk
/- Walks of layer 1: long division. -/
namespace Go.Proofs.Wk
open Go.RowKit
set_option maxRecDepth 100000
attribute [local irreducible] Pw OpG
set_option linter.unusedVariables false
set_option linter.unusedSimpArgs false
theorem wm (z : Int) : wrap64 (z % 4294967296) = z % 4294967296 := wi64 (by omega) (by omega)
theorem take_ct (pre u post v : List Int) (y : Option Addr × Nat) (g o c : Nat) (q : Int) (k : Nat) (b : Bool) (u' : List Int) (ho : pre.length = o) (h : limb_take.f k u v q = some (b, u')) (hl : u.length < 1048578) :
    Ct1 Try.prog 89 #[.slice (some ⟨g, o, none⟩) u.length c, sl v y, .int .u64 q] g (row ((pre ++ u ++ post).map (Value.int .u32)) 41) (S1 v y) (fun _ : Unit => .bool b) Tt (fun _ => row ((pre ++ u' ++ post).map (Value.int .u32)) 41) (fun _ _ => True) := by
  obtain ⟨B, d⟩ := y
  unfold limb_take.f at h
  obtain ⟨m, hm⟩ : ∃ m, m = u.length := ⟨_, rfl⟩
  rw [← hm] at h hl ⊢
  refine Ct1.start Try.func89 rfl rfl (slots_of rfl slots3) (fun D w0 hD => ?_)
  try refine Pw.run ?_
  refine Pw.loopJ (σ := Nat × List Int × Int × Int × Int) (fun t => limb_take.l0 t.1 t.2.1 v q t.2.2.1 t.2.2.2.1 (m : Int) t.2.2.2.2 = some (b, u') ∧ t.2.1.length = m)
    (fun t => ⟨[(0, .slice (some ⟨g, o, none⟩) m c), (1, .slice B v.length d), (2, .int .u64 q), (7, .int .u64 t.2.2.1), (8, .int .i64 t.2.2.2.1), (13, .int .i64 m), (14, .int .i64 t.2.2.2.2)], [⟨g, row ((pre ++ t.2.1 ++ post).map (Value.int .u32)) 41⟩], [Ints .u32 v B d]⟩) (fun s => s.1) (k, u, 0, 0, 0) ⟨h, hm.symm⟩ (Pw.enter ⟨rfl, rfl, rfl, rfl, rfl, rfl, rfl, trivial⟩ (fun _ h => h)) ?_
  clear h
  rintro ⟨k, out, carry, borrow, i⟩ ⟨h, hout⟩
  dsimp only at h hout ⊢
  obtain _ | k := k
  · cases h
  simp only [limb_take.l0] at h
  try refine Pw.run ?_
  refine Pw.condD rfl (fun c3 => ?_) (fun c3 => ?_)
  · rw [if_pos c3] at h
    try refine Pw.run ?_
    refine Pw.condD rfl (fun c4 => ?_) (fun c4 => ?_)
    · rw [if_pos c4] at h
      obtain ⟨c5, h⟩ := ite_none h
      obtain ⟨c6, h⟩ := ite_none h
      rw [Option.bind_some] at h
      try refine Pw.run ?_
      refine Pw.list (Pw.index rfl rfl rfl rfl c5 c4 (fun w h => (fact0 h).has c5 c4) rfl rfl ?_)
      rintro ad rfl
      refine Pw.list (Pw.load1 rfl rfl (fun w hs => by first | exact (fact0 hs.all).cell (by first | assumption | omega) (by first | assumption | omega) | exact (fact1 hs.all).cell (by first | assumption | omega) (by first | assumption | omega) | exact (fact2 hs.all).cell (by first | assumption | omega) (by first | assumption | omega) | exact (fact3 hs.all).cell (by first | assumption | omega) (by first | assumption | omega)) rfl rfl ?_)
      try refine Pw.run ?_
      refine Pw.list (Pw.indexO rfl rfl rfl rfl c5 (by omega) rfl rfl ?_)
      refine Pw.list (Pw.loadW rfl rfl rfl ho (.head _) c5 c6 rfl rfl ?_)
      try refine Pw.run ?_
      simp only [wm]
      refine Pw.list (Pw.indexO rfl rfl rfl rfl c5 (by omega) rfl rfl ?_)
      refine Pw.list (Pw.storeW rfl rfl rfl rfl rfl ho c5 c6 .head rfl ?_)
      try refine Pw.run ?_
      refine Pw.condD rfl (fun c7 => ?_) (fun c7 => ?_)
      · rw [if_pos c7] at h
        try refine Pw.run ?_
        exact Pw.again (k, _, _, _, _) ⟨h, by rw [List.length_set]; exact hout⟩ (Nat.lt_succ_self _) ⟨rfl, rfl, rfl, rfl, rfl, rfl, rfl, trivial⟩ rfl (fun w h => h)
      · rw [if_neg c7] at h
        try refine Pw.run ?_
        exact Pw.again (k, _, _, _, _) ⟨h, by rw [List.length_set]; exact hout⟩ (Nat.lt_succ_self _) ⟨rfl, rfl, rfl, rfl, rfl, rfl, rfl, trivial⟩ rfl (fun w h => h)
    · rw [if_neg c4] at h
      obtain ⟨c5, h⟩ := ite_none h
      obtain ⟨c6, h⟩ := ite_none h
      rw [Option.bind_some] at h
      try refine Pw.run ?_
      refine Pw.list (Pw.indexO rfl rfl rfl rfl c5 (by omega) rfl rfl ?_)
      refine Pw.list (Pw.loadW rfl rfl rfl ho (.head _) c5 c6 rfl rfl ?_)
      try refine Pw.run ?_
      simp only [wm]
      refine Pw.list (Pw.indexO rfl rfl rfl rfl c5 (by omega) rfl rfl ?_)
      refine Pw.list (Pw.storeW rfl rfl rfl rfl rfl ho c5 c6 .head rfl ?_)
      try refine Pw.run ?_
      refine Pw.condD rfl (fun c7 => ?_) (fun c7 => ?_)
      · rw [if_pos c7] at h
        try refine Pw.run ?_
        exact Pw.again (k, _, _, _, _) ⟨h, by rw [List.length_set]; exact hout⟩ (Nat.lt_succ_self _) ⟨rfl, rfl, rfl, rfl, rfl, rfl, rfl, trivial⟩ rfl (fun w h => h)
      · rw [if_neg c7] at h
        try refine Pw.run ?_
        exact Pw.again (k, _, _, _, _) ⟨h, by rw [List.length_set]; exact hout⟩ (Nat.lt_succ_self _) ⟨rfl, rfl, rfl, rfl, rfl, rfl, rfl, trivial⟩ rfl (fun w h => h)
  · rw [if_neg c3] at h
    obtain ⟨rfl, rfl⟩ := Prod.mk.inj (Option.some.inj h)
    try refine Pw.run ?_
    exact Pw.ret1 (x := ()) hD (.head _) (.tmp rfl .nil) (by simp [retv, bne]; rfl) trivial (fun w h => by trivial)
theorem give_ct (pre u post v : List Int) (y : Option Addr × Nat) (g o c : Nat) (k : Nat) (u' : List Int) (ho : pre.length = o) (h : limb_give.f k u v = some u') (hl : u.length < 1048578) :
    Ct1 Try.prog 90 #[.slice (some ⟨g, o, none⟩) u.length c, sl v y] g (row ((pre ++ u ++ post).map (Value.int .u32)) 41) (S1 v y) (fun _ : Unit => .tuple #[]) Tt (fun _ => row ((pre ++ u' ++ post).map (Value.int .u32)) 41) (fun _ _ => True) := by
  obtain ⟨B, d⟩ := y
  unfold limb_give.f at h
  obtain ⟨m, hm⟩ : ∃ m, m = u.length := ⟨_, rfl⟩
  rw [← hm] at h hl ⊢
  refine Ct1.start Try.func90 rfl rfl (slots_of rfl slots2) (fun D w0 hD => ?_)
  try refine Pw.run ?_
  refine Pw.loopJ (σ := Nat × List Int × Int × Int) (fun t => limb_give.l0 t.1 t.2.1 v t.2.2.1 (m : Int) t.2.2.2 = some u' ∧ t.2.1.length = m)
    (fun t => ⟨[(0, .slice (some ⟨g, o, none⟩) m c), (1, .slice B v.length d), (4, .int .u64 t.2.2.1), (7, .int .i64 m), (8, .int .i64 t.2.2.2)], [⟨g, row ((pre ++ t.2.1 ++ post).map (Value.int .u32)) 41⟩], [Ints .u32 v B d]⟩) (fun s => s.1) (k, u, 0, 0) ⟨h, hm.symm⟩ (Pw.enter ⟨rfl, rfl, rfl, rfl, rfl, trivial⟩ (fun _ h => h)) ?_
  clear h
  rintro ⟨k, out, carry, i⟩ ⟨h, hout⟩
  dsimp only at h hout ⊢
  obtain _ | k := k
  · cases h
  simp only [limb_give.l0] at h
  try refine Pw.run ?_
  refine Pw.condD rfl (fun c3 => ?_) (fun c3 => ?_)
  · rw [if_pos c3] at h
    obtain ⟨c5, h⟩ := ite_none h
    obtain ⟨c6, h⟩ := ite_none h
    try refine Pw.run ?_
    refine Pw.list (Pw.indexO rfl rfl rfl rfl c5 (by omega) rfl rfl ?_)
    refine Pw.list (Pw.loadW rfl rfl rfl ho (.head _) c5 c6 rfl rfl ?_)
    try refine Pw.run ?_
    refine Pw.condD rfl (fun c4 => ?_) (fun c4 => ?_)
    · rw [if_pos c4] at h
      try refine Pw.run ?_
      refine Pw.list (Pw.index rfl rfl rfl rfl c5 c4 (fun w h => (fact0 h).has c5 c4) rfl rfl ?_)
      rintro ad rfl
      refine Pw.list (Pw.load1 rfl rfl (fun w hs => by first | exact (fact0 hs.all).cell (by first | assumption | omega) (by first | assumption | omega) | exact (fact1 hs.all).cell (by first | assumption | omega) (by first | assumption | omega) | exact (fact2 hs.all).cell (by first | assumption | omega) (by first | assumption | omega) | exact (fact3 hs.all).cell (by first | assumption | omega) (by first | assumption | omega)) rfl rfl ?_)
      try refine Pw.run ?_
      refine Pw.list (Pw.indexO rfl rfl rfl rfl c5 (by omega) rfl rfl ?_)
      refine Pw.list (Pw.storeW rfl rfl rfl rfl rfl ho c5 c6 .head rfl ?_)
      try refine Pw.run ?_
      exact Pw.again (k, _, _, _) ⟨h, by rw [List.length_set]; exact hout⟩ (Nat.lt_succ_self _) ⟨rfl, rfl, rfl, rfl, rfl, trivial⟩ rfl (fun w h => h)
    · rw [if_neg c4] at h
      try refine Pw.run ?_
      refine Pw.list (Pw.indexO rfl rfl rfl rfl c5 (by omega) rfl rfl ?_)
      refine Pw.list (Pw.storeW rfl rfl rfl rfl rfl ho c5 c6 .head rfl ?_)
      try refine Pw.run ?_
      exact Pw.again (k, _, _, _) ⟨h, by rw [List.length_set]; exact hout⟩ (Nat.lt_succ_self _) ⟨rfl, rfl, rfl, rfl, rfl, trivial⟩ rfl (fun w h => h)
  · rw [if_neg c3] at h
    obtain rfl := Option.some.inj h
    try refine Pw.run ?_
    exact Pw.ret1N (x := ()) hD (.head _) .nil rfl trivial (fun w h => by trivial)
end Go.Proofs.Wk
/- Walks of layer 1: the digit's guess. -/
namespace Go.Proofs.Wk
open Go.RowKit
set_option maxRecDepth 100000
attribute [local irreducible] Pw OpG
set_option linter.unusedVariables false
set_option linter.unusedSimpArgs false
theorem guess_ct (u v : List Int) (x y : Option Addr × Nat) (k : Nat) (r : Int) (h : limb_guess.f k u v = some r) (hl : u.length < 1048578) (hl' : v.length < 1048578) :
    Ct Try.prog 88 #[sl u x, sl v y] (fun W => S1 u x W ∧ S1 v y W) (fun _ : Unit => .int .u64 r) Tt (fun _ _ => True) := by
  obtain ⟨A, c⟩ := x
  obtain ⟨B, d⟩ := y
  unfold limb_guess.f at h
  obtain ⟨c1, h⟩ := ite_none h
  obtain ⟨c2, h⟩ := ite_none h
  obtain ⟨c3, h⟩ := ite_none h
  obtain ⟨c4, h⟩ := ite_none h
  obtain ⟨c5, h⟩ := ite_none h
  obtain ⟨c6, h⟩ := ite_none h
  obtain ⟨c7, h⟩ := none_ite h
  refine Ct.start Try.func88 rfl rfl (slots_of rfl slots2) (fun D w0 => Pw.facts two2 ?_)
  refine Pw.use (p := A.isSome = true ∧ B.isSome = true) (fun w h => ⟨(fact0 h).has c1 c2, (fact1 h).has c5 c6⟩) (fun hA => ?_)
  obtain ⟨⟨ad, rfl⟩, ⟨bd, rfl⟩⟩ := And.intro (some_of hA.1) (some_of hA.2)
  try refine Pw.run ?_
  refine Pw.drawnG mixed rfl rfl ?_
  refine Pw.takeP 0 (nb 15 1) rfl rfl rfl rfl (by kernel_rfl) np sf ?_
  refine Pw.takeP 1 (nb 15 3) rfl rfl rfl rfl (by kernel_rfl) np sf ?_
  refine Pw.takeP 2 (nb 15 7) rfl rfl rfl rfl (by kernel_rfl) np sf ?_
  refine Pw.takeIx 3 (nb 15 15) rfl rfl rfl rfl rfl (by first | assumption | omega) (by first | assumption | omega) rfl rfl (by kernel_rfl) np sf ?_
  refine Pw.takeLd 4 (nb 15 31) rfl rfl rfl (fun w hS => by first | exact own_cell (fact0 hS) (by first | assumption | omega) (by first | assumption | omega) | exact own_cellX (fact0 hS) (by first | assumption | omega) (by first | assumption | omega) | exact (fact0 hS).cell (by first | assumption | omega) (by first | assumption | omega) | exact (fact1 hS).cell (by first | assumption | omega) (by first | assumption | omega) | exact (fact2 hS).cell (by first | assumption | omega) (by first | assumption | omega) | exact (fact3 hS).cell (by first | assumption | omega) (by first | assumption | omega)) rfl rfl (by kernel_rfl) np sf ?_
  refine Pw.takeP 5 (nb 15 63) rfl rfl rfl rfl (by kernel_rfl) np sf ?_
  refine Pw.takeP 6 (nb 15 127) rfl rfl rfl rfl (by kernel_rfl) np sf ?_
  refine Pw.takeP 7 (nb 15 255) rfl rfl rfl rfl (by kernel_rfl) np sf ?_
  refine Pw.takeP 8 (nb 15 511) rfl rfl rfl rfl (by kernel_rfl) np sf ?_
  refine Pw.takeP 9 (nb 15 1023) rfl rfl rfl rfl (by kernel_rfl) np sf ?_
  refine Pw.takeIx 10 (nb 15 2047) rfl rfl rfl rfl rfl (by first | assumption | omega) (by first | assumption | omega) rfl rfl (by kernel_rfl) np sf ?_
  refine Pw.takeLd 11 (nb 15 4095) rfl rfl rfl (fun w hS => by first | exact own_cell (fact0 hS) (by first | assumption | omega) (by first | assumption | omega) | exact own_cellX (fact0 hS) (by first | assumption | omega) (by first | assumption | omega) | exact (fact0 hS).cell (by first | assumption | omega) (by first | assumption | omega) | exact (fact1 hS).cell (by first | assumption | omega) (by first | assumption | omega) | exact (fact2 hS).cell (by first | assumption | omega) (by first | assumption | omega) | exact (fact3 hS).cell (by first | assumption | omega) (by first | assumption | omega)) rfl rfl (by kernel_rfl) np sf ?_
  refine Pw.takeP 12 (nb 15 8191) rfl rfl rfl rfl (by kernel_rfl) np sf ?_
  refine Pw.takeP 13 (nb 15 16383) rfl rfl rfl rfl (by kernel_rfl) np sf ?_
  refine Pw.takeP 14 (nb 15 32767) rfl rfl rfl rfl (by kernel_rfl) np sf ?_
  refine Pw.done (by kernel_rfl) ?_
  try refine Pw.run ?_
  refine Pw.drawnG mixed rfl rfl ?_
  refine Pw.takeP 0 (nb 18 1) rfl rfl rfl rfl (by kernel_rfl) np sf ?_
  refine Pw.takeP 1 (nb 18 3) rfl rfl rfl rfl (by kernel_rfl) np sf ?_
  refine Pw.takeP 2 (nb 18 7) rfl rfl rfl rfl (by kernel_rfl) np sf ?_
  refine Pw.takeP 3 (nb 18 15) rfl rfl rfl rfl (by kernel_rfl) np sf ?_
  refine Pw.takeIx 4 (nb 18 31) rfl rfl rfl rfl rfl (by first | assumption | omega) (by first | assumption | omega) rfl rfl (by kernel_rfl) np sf ?_
  refine Pw.takeLd 5 (nb 18 63) rfl rfl rfl (fun w hS => by first | exact own_cell (fact0 hS) (by first | assumption | omega) (by first | assumption | omega) | exact own_cellX (fact0 hS) (by first | assumption | omega) (by first | assumption | omega) | exact (fact0 hS).cell (by first | assumption | omega) (by first | assumption | omega) | exact (fact1 hS).cell (by first | assumption | omega) (by first | assumption | omega) | exact (fact2 hS).cell (by first | assumption | omega) (by first | assumption | omega) | exact (fact3 hS).cell (by first | assumption | omega) (by first | assumption | omega)) rfl rfl (by kernel_rfl) np sf ?_
  refine Pw.takeP 6 (nb 18 127) rfl rfl rfl rfl (by kernel_rfl) np sf ?_
  refine Pw.takeQuo 7 (nb 18 255) rfl rfl rfl rfl (by first | assumption | omega) rfl rfl rfl (by kernel_rfl) np sf ?_
  refine Pw.takeP 8 (nb 18 511) rfl rfl rfl rfl (by kernel_rfl) np sf ?_
  refine Pw.takeP 9 (nb 18 1023) rfl rfl rfl rfl (by kernel_rfl) np sf ?_
  refine Pw.takeP 10 (nb 18 2047) rfl rfl rfl rfl (by kernel_rfl) np sf ?_
  refine Pw.takeP 11 (nb 18 4095) rfl rfl rfl rfl (by kernel_rfl) np sf ?_
  refine Pw.takeIx 12 (nb 18 8191) rfl rfl rfl rfl rfl (by first | assumption | omega) (by first | assumption | omega) rfl rfl (by kernel_rfl) np sf ?_
  refine Pw.takeLd 13 (nb 18 16383) rfl rfl rfl (fun w hS => by first | exact own_cell (fact0 hS) (by first | assumption | omega) (by first | assumption | omega) | exact own_cellX (fact0 hS) (by first | assumption | omega) (by first | assumption | omega) | exact (fact0 hS).cell (by first | assumption | omega) (by first | assumption | omega) | exact (fact1 hS).cell (by first | assumption | omega) (by first | assumption | omega) | exact (fact2 hS).cell (by first | assumption | omega) (by first | assumption | omega) | exact (fact3 hS).cell (by first | assumption | omega) (by first | assumption | omega)) rfl rfl (by kernel_rfl) np sf ?_
  refine Pw.takeP 14 (nb 18 32767) rfl rfl rfl rfl (by kernel_rfl) np sf ?_
  refine Pw.takeRem 15 (nb 18 65535) rfl rfl rfl rfl (by first | assumption | omega) rfl rfl (by kernel_rfl) np sf ?_
  refine Pw.takeP 16 (nb 18 131071) rfl rfl rfl rfl (by kernel_rfl) np sf ?_
  refine Pw.takeP 17 (nb 18 262143) rfl rfl rfl rfl (by kernel_rfl) np sf ?_
  refine Pw.done (by kernel_rfl) ?_
  try refine Pw.run ?_
  refine Pw.loopJ (σ := Nat × Int × Int) (fun s => limb_guess.l0 s.1 u v (v.length : Int) (u.length : Int) s.2.1 s.2.2 = some r) (fun s => ⟨[(0, .slice (some ad) u.length c), (1, .slice (some bd) v.length d), (5, .int .i64 v.length), (6, .int .i64 u.length), (8, .int .u64 s.2.1), (9, .int .u64 s.2.2)], [], [Ints .u32 u (some ad) c, Ints .u32 v (some bd) d]⟩) (fun s => s.1) (k, _, _) h (Pw.enter ⟨rfl, rfl, rfl, rfl, rfl, rfl, trivial⟩ (fun _ h => h)) ?_
  clear h
  rintro ⟨k, q, rem⟩ h
  dsimp only at h ⊢
  obtain _ | k := k
  · cases h
  simp only [limb_guess.l0] at h
  refine Pw.seq (Pw.seq ?_)
  refine Pw.join (σ := Bool) (fun b => limb_guess.j1 k u v (v.length : Int) (u.length : Int) q rem b = some r) (fun b => ⟨[(0, .slice (some ad) u.length c), (1, .slice (some bd) v.length d), (5, .int .i64 v.length), (6, .int .i64 u.length), (8, .int .u64 q), (9, .int .u64 rem), (66, .bool b)], [], [Ints .u32 u (some ad) c, Ints .u32 v (some bd) d]⟩) ?_ ?_
  · skip
    refine Pw.drawnG mixed rfl rfl ?_
    refine Pw.takeP 0 (nb 23 1) rfl rfl rfl rfl (by kernel_rfl) np sf ?_
    refine Pw.takeP 1 (nb 23 3) rfl rfl rfl rfl (by kernel_rfl) np sf ?_
    refine Pw.takeP 2 (nb 23 7) rfl rfl rfl rfl (by kernel_rfl) np sf ?_
    refine Pw.takeP 3 (nb 23 15) rfl rfl rfl rfl (by kernel_rfl) np sf ?_
    by_cases c8 : q / 4294967296 = 0
    · rw [if_pos c8] at h
      obtain ⟨d1, h⟩ := ite_none h
      obtain ⟨d2, h⟩ := ite_none h
      obtain ⟨d3, h⟩ := ite_none h
      obtain ⟨d4, h⟩ := ite_none h
      refine Pw.re (d := 47) (v' := .bool false) rfl (by simp [c8]) ?_
      refine Pw.takeP 4 (nb 23 31) rfl rfl rfl rfl (by kernel_rfl) np sf ?_
      refine Pw.takeP 5 (nb 23 63) rfl rfl rfl rfl (by kernel_rfl) np sf ?_
      refine Pw.takeP 6 (nb 23 127) rfl rfl rfl rfl (by kernel_rfl) np sf ?_
      refine Pw.takeP 7 (nb 23 255) rfl rfl rfl rfl (by kernel_rfl) np sf ?_
      refine Pw.takeIx 8 (nb 23 511) rfl rfl rfl rfl rfl (by first | assumption | omega) (by first | assumption | omega) rfl rfl (by kernel_rfl) np sf ?_
      refine Pw.takeLd 9 (nb 23 1023) rfl rfl rfl (fun w hS => by first | exact own_cell (fact0 hS) (by first | assumption | omega) (by first | assumption | omega) | exact own_cellX (fact0 hS) (by first | assumption | omega) (by first | assumption | omega) | exact (fact0 hS).cell (by first | assumption | omega) (by first | assumption | omega) | exact (fact1 hS).cell (by first | assumption | omega) (by first | assumption | omega) | exact (fact2 hS).cell (by first | assumption | omega) (by first | assumption | omega) | exact (fact3 hS).cell (by first | assumption | omega) (by first | assumption | omega)) rfl rfl (by kernel_rfl) np sf ?_
      refine Pw.takeP 10 (nb 23 2047) rfl rfl rfl rfl (by kernel_rfl) np sf ?_
      refine Pw.takeP 11 (nb 23 4095) rfl rfl rfl rfl (by kernel_rfl) np sf ?_
      refine Pw.takeP 12 (nb 23 8191) rfl rfl rfl rfl (by kernel_rfl) np sf ?_
      refine Pw.takeP 13 (nb 23 16383) rfl rfl rfl rfl (by kernel_rfl) np sf ?_
      refine Pw.takeP 14 (nb 23 32767) rfl rfl rfl rfl (by kernel_rfl) np sf ?_
      refine Pw.takeP 15 (nb 23 65535) rfl rfl rfl rfl (by kernel_rfl) np sf ?_
      refine Pw.takeP 16 (nb 23 131071) rfl rfl rfl rfl (by kernel_rfl) np sf ?_
      refine Pw.takeIx 17 (nb 23 262143) rfl rfl rfl rfl rfl (by first | assumption | omega) (by first | assumption | omega) rfl rfl (by kernel_rfl) np sf ?_
      refine Pw.takeLd 18 (nb 23 524287) rfl rfl rfl (fun w hS => by first | exact own_cell (fact0 hS) (by first | assumption | omega) (by first | assumption | omega) | exact own_cellX (fact0 hS) (by first | assumption | omega) (by first | assumption | omega) | exact (fact0 hS).cell (by first | assumption | omega) (by first | assumption | omega) | exact (fact1 hS).cell (by first | assumption | omega) (by first | assumption | omega) | exact (fact2 hS).cell (by first | assumption | omega) (by first | assumption | omega) | exact (fact3 hS).cell (by first | assumption | omega) (by first | assumption | omega)) rfl rfl (by kernel_rfl) np sf ?_
      refine Pw.takeP 19 (nb 23 1048575) rfl rfl rfl rfl (by kernel_rfl) np sf ?_
      refine Pw.takeP 20 (nb 23 2097151) rfl rfl rfl rfl (by kernel_rfl) np sf ?_
      refine Pw.takeP 21 (nb 23 4194303) rfl rfl rfl rfl (by kernel_rfl) np sf ?_
      refine Pw.takeP 22 (nb 23 8388607) rfl rfl rfl rfl (by kernel_rfl) np sf ?_
      refine Pw.done (by kernel_rfl) ?_
      exact Pw.arrive _ h ⟨rfl, rfl, rfl, rfl, rfl, rfl, rfl, trivial⟩ rfl (fun w h => h)
    · rw [if_neg c8] at h
      refine Pw.re (d := 47) (v' := .bool true) rfl (by simp [c8]) ?_
      refine Pw.takeO 4 (nb 23 31) rfl rfl rfl (by kernel_rfl) np sf ?_
      refine Pw.takeO 5 (nb 23 63) rfl rfl rfl (by kernel_rfl) np sf ?_
      refine Pw.takeO 6 (nb 23 127) rfl rfl rfl (by kernel_rfl) np sf ?_
      refine Pw.takeO 7 (nb 23 255) rfl rfl rfl (by kernel_rfl) np sf ?_
      refine Pw.takeO 8 (nb 23 511) rfl rfl rfl (by kernel_rfl) np sf ?_
      refine Pw.takeO 9 (nb 23 1023) rfl rfl rfl (by kernel_rfl) np sf ?_
      refine Pw.takeO 10 (nb 23 2047) rfl rfl rfl (by kernel_rfl) np sf ?_
      refine Pw.takeO 11 (nb 23 4095) rfl rfl rfl (by kernel_rfl) np sf ?_
      refine Pw.takeO 12 (nb 23 8191) rfl rfl rfl (by kernel_rfl) np sf ?_
      refine Pw.takeO 13 (nb 23 16383) rfl rfl rfl (by kernel_rfl) np sf ?_
      refine Pw.takeO 14 (nb 23 32767) rfl rfl rfl (by kernel_rfl) np sf ?_
      refine Pw.takeO 15 (nb 23 65535) rfl rfl rfl (by kernel_rfl) np sf ?_
      refine Pw.takeO 16 (nb 23 131071) rfl rfl rfl (by kernel_rfl) np sf ?_
      refine Pw.takeO 17 (nb 23 262143) rfl rfl rfl (by kernel_rfl) np sf ?_
      refine Pw.takeO 18 (nb 23 524287) rfl rfl rfl (by kernel_rfl) np sf ?_
      refine Pw.takeO 19 (nb 23 1048575) rfl rfl rfl (by kernel_rfl) np sf ?_
      refine Pw.takeO 20 (nb 23 2097151) rfl rfl rfl (by kernel_rfl) np sf ?_
      refine Pw.takeO 21 (nb 23 4194303) rfl rfl rfl (by kernel_rfl) np sf ?_
      refine Pw.takeP 22 (nb 23 8388607) rfl rfl rfl rfl (by kernel_rfl) np sf ?_
      refine Pw.done (by kernel_rfl) ?_
      exact Pw.arrive true h ⟨rfl, rfl, rfl, rfl, rfl, rfl, rfl, trivial⟩ rfl (fun w h => h)
  clear h
  intro b h
  dsimp only at h ⊢
  obtain _ | k := k
  · cases h
  simp only [limb_guess.j1] at h
  refine Pw.condB rfl (fun hb => ?_) (fun hb => ?_)
  · rw [if_pos hb] at h
    obtain ⟨d1, h⟩ := ite_none h
    obtain ⟨d2, h⟩ := ite_none h
    try refine Pw.run ?_
    refine Pw.list (Pw.indexS rfl rfl rfl rfl (by first | assumption | omega) (by first | assumption | omega) rfl rfl ?_)
    refine Pw.list (Pw.load1 rfl rfl (fun w hs => by first | exact (fact0 hs.all).cell (by first | assumption | omega) (by first | assumption | omega) | exact (fact1 hs.all).cell (by first | assumption | omega) (by first | assumption | omega) | exact (fact2 hs.all).cell (by first | assumption | omega) (by first | assumption | omega) | exact (fact3 hs.all).cell (by first | assumption | omega) (by first | assumption | omega)) rfl rfl ?_)
    try refine Pw.run ?_
    refine Pw.condD rfl (fun c8 => ?_) (fun c8 => ?_)
    · rw [if_neg c8] at h
      obtain rfl := Option.some.inj h
      try refine Pw.run ?_
      exact Pw.ret_ (x := ()) (.tmp rfl .nil) rfl trivial (fun w h => by trivial)
    · rw [if_pos (Decidable.not_not.1 c8)] at h
      try refine Pw.run ?_
      exact Pw.again (k, _, _) h (by show k < k + 2; omega) ⟨rfl, rfl, rfl, rfl, rfl, rfl, trivial⟩ rfl (fun w h => h)
  · rw [if_neg (by simp [hb])] at h
    obtain rfl := Option.some.inj h
    try refine Pw.run ?_
    exact Pw.ret_ (x := ()) (.tmp rfl .nil) rfl trivial (fun w h => by trivial)
end Go.Proofs.Wk
/- Walks of layer 1: long division's loop. -/
namespace Go.Proofs.Wk
open Go.RowKit
set_option maxRecDepth 100000
attribute [local irreducible] Pw OpG
set_option linter.unusedVariables false
set_option linter.unusedSimpArgs false
theorem win (u : List Int) (i m : Nat) : u.take i ++ (u.drop i).take m ++ u.drop (i + m) = u := by
  rw [List.append_assoc, ← List.drop_drop, List.take_append_drop, List.take_append_drop]
theorem shift_len0 : ∀ (k : Nat) (s : Int) (out l : List Int) (n i : Int) (r : List Int), limb_shift.l0 k s out l n i = some r → r.length = out.length
  | 0, s, out, l, n, i, r, h => by cases h
  | k + 1, s, out, l, n, i, r, h => by
    simp only [limb_shift.l0] at h
    split at h
    · obtain ⟨_, h⟩ := ite_none h
      obtain ⟨_, h⟩ := ite_none h
      obtain ⟨_, h⟩ := ite_none h
      obtain ⟨_, h⟩ := ite_none h
      obtain ⟨_, h⟩ := ite_none h
      obtain ⟨_, h⟩ := ite_none h
      rw [shift_len0 k _ _ _ _ _ _ h, List.length_set, List.length_set]
    · rw [Option.some.inj h]
theorem shift_len {k : Nat} {l r : List Int} {s : Int} (h : limb_shift.f k l s = some r) (hl : l.length < 1048576) : r.length = l.length + 1 := by
  unfold limb_shift.f at h
  obtain ⟨_, h⟩ := ite_none h
  obtain ⟨_, h⟩ := ite_none h
  rw [shift_len0 _ _ _ _ _ _ _ h, List.length_replicate, wi64 (by omega) (by omega)]; omega
theorem take_len0 : ∀ (k : Nat) (u v : List Int) (q c d n i : Int) (r : Bool × List Int), limb_take.l0 k u v q c d n i = some r → r.2.length = u.length
  | 0, u, v, q, c, d, n, i, r, h => by cases h
  | k + 1, u, v, q, c, d, n, i, r, h => by
    simp only [limb_take.l0] at h
    split at h
    · split at h
      · obtain ⟨_, h⟩ := ite_none h
        obtain ⟨_, h⟩ := ite_none h
        rw [Option.bind_some] at h
        split at h <;> rw [take_len0 k _ _ _ _ _ _ _ _ h, List.length_set]
      · obtain ⟨_, h⟩ := ite_none h
        obtain ⟨_, h⟩ := ite_none h
        rw [Option.bind_some] at h
        split at h <;> rw [take_len0 k _ _ _ _ _ _ _ _ h, List.length_set]
    · rw [← Option.some.inj h]
theorem give_len0 : ∀ (k : Nat) (u v : List Int) (c n i : Int) (r : List Int), limb_give.l0 k u v c n i = some r → r.length = u.length
  | 0, u, v, c, n, i, r, h => by cases h
  | k + 1, u, v, c, n, i, r, h => by
    simp only [limb_give.l0] at h
    split at h
    · obtain ⟨_, h⟩ := ite_none h
      obtain ⟨_, h⟩ := ite_none h
      split at h <;> rw [give_len0 k _ _ _ _ _ _ h, List.length_set]
    · rw [← Option.some.inj h]
theorem long_ct (a b : List Int) (x y : Option Addr × Nat) (ha : Lm a) (hb : Fm b) (hn2 : 2 ≤ b.length) (hab : b.length ≤ a.length) (hl : a.length < 1048576) :
    Ct Try.prog 86 #[sl a x, sl b y] (fun W => S1 a x W ∧ S1 b y W) (fun z : (Option Addr × Nat) × (Option Addr × Nat) => .tuple #[sl (natL (val a / val b)) z.1, sl (natL (val a % val b)) z.2]) Tt (fun z W => S1 (natL (val a / val b)) z.1 W ∧ S1 (natL (val a % val b)) z.2 W) := by
  obtain ⟨A, c⟩ := x
  obtain ⟨B, d⟩ := y
  have h := long_ev ha hb hn2 hab (by omega) (Nat.lt_succ_self _)
  generalize natL (val a / val b) = q at h
  generalize natL (val a % val b) = m at h
  generalize Nat.succ _ = k at h
  unfold limb_long.f at h
  refine Ct.start Try.func86 rfl rfl (slots_of rfl slots2) (fun D w0 => Pw.facts two2 ?_)
  refine Pw.use (p := B.isSome = true) (fun w h => (fact1 h).has (i := 0) (by omega) (by omega)) (fun hB => ?_)
  obtain ⟨bd, rfl⟩ := some_of hB
  try refine Pw.run ?_
  refine Pw.loopJ (σ := Nat × Int) (fun s => limb_long.l0 s.1 a b s.2 = some (q, m)) (fun s => ⟨[(0, .slice A a.length c), (1, .slice (some bd) b.length d), (6, .int .i64 s.2)], [], [Ints .u32 a A c, Ints .u32 b (some bd) d]⟩) (fun s => s.1) (k, 0) h (Pw.enter ⟨rfl, rfl, rfl, trivial⟩ (fun _ h => h)) ?_
  clear h
  rintro ⟨k, s⟩ h
  dsimp only at h ⊢
  obtain _ | k := k
  · cases h
  simp only [limb_long.l0] at h
  obtain ⟨c1, h⟩ := ite_none h
  obtain ⟨c2, h⟩ := ite_none h
  obtain ⟨c3, h⟩ := ite_none h
  try refine Pw.run ?_
  refine Pw.list (Pw.indexS rfl rfl rfl rfl (by first | assumption | omega) (by first | assumption | omega) rfl rfl ?_)
  refine Pw.list (Pw.load1 rfl rfl (fun w hs => by first | exact (fact0 hs.all).cell (by first | assumption | omega) (by first | assumption | omega) | exact (fact1 hs.all).cell (by first | assumption | omega) (by first | assumption | omega) | exact (fact2 hs.all).cell (by first | assumption | omega) (by first | assumption | omega) | exact (fact3 hs.all).cell (by first | assumption | omega) (by first | assumption | omega)) rfl rfl ?_)
  try refine Pw.run ?_
  refine Pw.list (Pw.shl rfl rfl rfl c3 rfl rfl ?_)
  try refine Pw.run ?_
  refine Pw.condD rfl (fun c4 => ?_) (fun c4 => ?_)
  · rw [if_pos c4] at h
    try refine Pw.run ?_
    exact Pw.again (k, _) h (Nat.lt_succ_self _) ⟨rfl, rfl, rfl, trivial⟩ rfl (fun w h => h)
  rw [if_neg c4] at h
  obtain ⟨vv, hv, h⟩ := Option.bind_eq_some_iff.1 h
  have hvv := shift_len hv (by omega)
  obtain ⟨c5, h⟩ := ite_none h
  obtain ⟨c6, h⟩ := ite_none h
  rw [Option.bind_some, Int.toNat_natCast] at h
  obtain ⟨u, hu, h⟩ := Option.bind_eq_some_iff.1 h
  have hul := shift_len hu hl
  obtain ⟨v, hvt⟩ : ∃ v, vv.take b.length = v := ⟨_, rfl⟩
  have hvl : v.length = b.length := by rw [← hvt, List.length_take]; omega
  rw [hvt, hul, hvl] at h
  obtain ⟨c7, h⟩ := ite_none h
  obtain ⟨c8, h⟩ := ite_none h
  rw [Option.bind_some] at h
  obtain ⟨n, hn⟩ : ∃ n, n = a.length + 1 - b.length := ⟨_, rfl⟩
  have e1 : wrap64 (((a.length + 1 : Nat) : Int) - (b.length : Int)) = (n : Int) := by rw [wi64 (by omega) (by omega)]; omega
  rw [e1, Int.toNat_natCast, List.length_replicate] at h
  try refine Pw.run ?_
  refine Pw.list (Pw.callO (shift_ct b (some bd, d) s vv k hv hvv (by omega)) rfl rfl rfl (by kernel_rfl) rfl rfl (fun w h => fact1 h) ?_)
  intro g _
  try refine Pw.run ?_
  refine Pw.list (Pw.cutTo rfl rfl rfl rfl c5 (by omega) rfl rfl (freeHead ?_))
  refine Pw.facts (G' := [Ints .u32 a A c, Ints .u32 v (some ⟨g, 0, none⟩) (b.length + 1)]) (fun w h => allCons (fact1 h) (allCons (by
    have := ints_of_row' (c := b.length + 1) (fact0 h) (by omega) (by simp only [maxLen]; omega)
    rw [← hvt]; exact this.take _) allNil)) ?_
  refine Pw.re (d := 30) (v' := sl v (some ⟨g, 0, none⟩, b.length + 1)) rfl (congrArg (fun m => Value.slice (some ⟨g, 0, none⟩) m (b.length + 1)) (by rw [hvl]; rfl)) ?_
  try refine Pw.run ?_
  refine Pw.list (Pw.callO (shift_ct a (A, c) s u k hu hul (by omega)) rfl rfl rfl (by kernel_rfl) rfl rfl (fun w h => fact0 h) ?_)
  intro gu _
  try refine Pw.run ?_
  refine Pw.re (d := 38) (v' := .int .i64 (n : Int)) rfl (by rw [← e1, hvl]) ?_
  refine Pw.list (Pw.make rfl rfl rfl rfl rfl rfl (show 4 * n ≤ _ by omega) (by simp only [maxLen]; omega) rfl rfl (fun gq => ?_))
  rw [zeros_map]
  try refine Pw.run ?_
  refine Pw.loopJ (σ := Nat × List Int × List Int × Int) (fun t => limb_long.l1 t.1 s v t.2.1 t.2.2.1 t.2.2.2 = some (q, m) ∧ t.2.1.length = a.length + 1 ∧ t.2.2.1.length = n)
    (fun t => ⟨[(6, .int .i64 s), (7, .slice (some ⟨g, 0, none⟩) v.length (b.length + 1)), (8, .slice (some ⟨gu, 0, none⟩) (a.length + 1) (a.length + 1)), (9, .slice (some ⟨gq, 0, none⟩) n n), (10, .int .i64 t.2.2.2)], [⟨gq, row (t.2.2.1.map (Value.int .u32)) 41⟩, ⟨gu, row (t.2.1.map (Value.int .u32)) 41⟩], [Ints .u32 v (some ⟨g, 0, none⟩) (b.length + 1)]⟩) (fun s => s.1) (k, u, _, _) ⟨h, hul, by simp⟩ (Pw.enter ⟨rfl, rfl, rfl, rfl, rfl, trivial⟩ (fun _ h => allCons (fact1 h) allNil)) ?_
  clear h hu hul hv hvt
  rintro ⟨k, u, qq, i⟩ ⟨h, hul, hql⟩
  dsimp only at h hul hql ⊢
  obtain _ | k := k
  · cases h
  simp only [limb_long.l1] at h
  try refine Pw.run ?_
  refine Pw.condD rfl (fun d1 => ?_) (fun d1 => ?_)
  · rw [if_pos d1] at h
    obtain ⟨gs, hg, h⟩ := Option.bind_eq_some_iff.1 h
    obtain ⟨⟨bb, u1⟩, ht, h⟩ := Option.bind_eq_some_iff.1 h
    unfold limb_guess.w at hg
    unfold limb_take.w at ht
    obtain ⟨⟨_, d2⟩, hg⟩ := ite_none hg
    obtain ⟨_, ht⟩ := ite_none ht
    obtain ⟨o, ho⟩ : ∃ o, i.toNat = o := ⟨_, rfl⟩
    rw [ho] at hg ht d2
    obtain ⟨wn, hwn⟩ : ∃ w, (u.drop o).take (v.length + 1) = w := ⟨_, rfl⟩
    have hwl : wn.length = v.length + 1 := by rw [← hwn, List.length_take, List.length_drop]; omega
    have hue : u.take o ++ wn ++ u.drop (o + (v.length + 1)) = u := by rw [← hwn]; exact win u o _
    have hpl : (u.take o).length = o := by rw [List.length_take]; omega
    rw [hwn] at hg ht
    obtain ⟨⟨b2, w2⟩, ht2, h2⟩ := Option.bind_eq_some_iff.1 ht
    have hw2 : w2.length = wn.length := take_len0 _ _ _ _ _ _ _ _ _ ht2
    obtain ⟨rfl, rfl⟩ := Prod.mk.inj (Option.some.inj h2)
    dsimp only at h
    try refine Pw.run ?_
    have e2 : wrap64 (wrap64 (i + (v.length : Int)) + 1) = ((o + (v.length + 1) : Nat) : Int) := by rw [wi64 (n := i + (v.length : Int)) (by omega) (by omega), wi64 (by omega) (by omega)]; omega
    refine Pw.re (d := 53) (v' := .int .i64 ((o + (v.length + 1) : Nat) : Int)) rfl (by rw [e2]) ?_
    refine Pw.list (Pw.cut rfl rfl rfl rfl rfl d1 (by omega) (by omega) (by omega) rfl rfl ?_)
    refine Pw.re (d := 54) (v' := .slice (some ⟨gu, o, none⟩) wn.length (a.length + 1 - o)) rfl (by rw [ho, hwl]; show Value.slice (some (Addr.add ⟨gu, 0, none⟩ (o * 1))) (o + (v.length + 1) - o) _ = _; rw [Nat.mul_one, add_none, Nat.zero_add, show o + (v.length + 1) - o = v.length + 1 by omega]) ?_
    try refine Pw.run ?_
    refine Pw.list (Pw.callR (guess_ct wn v (some ⟨gu, o, none⟩, a.length + 1 - o) (some ⟨g, 0, none⟩, b.length + 1) k gs hg (by omega) (by omega)) rfl rfl rfl (by kernel_rfl) rfl rfl (fun w hs => ⟨ints_of_rowW (pre := u.take o) (post := u.drop (o + (v.length + 1))) (by rw [hue]; exact hs.own _ (.tail _ (.head _))) hpl (by omega) (by simp only [maxLen]; omega), fact0 hs.all⟩) ?_)
    intro _ _
    try refine Pw.run ?_
    refine Pw.list (Pw.call1 (L' := fun _ => [⟨gq, _⟩, ⟨gu, _⟩]) (take_ct (u.take o) wn (u.drop (o + (v.length + 1))) v (some ⟨g, 0, none⟩, b.length + 1) gu o (a.length + 1 - o) gs k b2 w2 hpl ht2 (by omega)) rfl rfl rfl (by kernel_rfl) rfl rfl (fun w h => fact0 h) (by rw [hue]; exact .tail _ (.head _)) (fun _ => by rw [hue]; exact .tail .head) ?_)
    intro _ _
    obtain ⟨u1, hu1⟩ : ∃ z, u.take o ++ w2 ++ u.drop (o + (v.length + 1)) = z := ⟨_, rfl⟩
    have hu1l : u1.length = a.length + 1 := by rw [← hu1, List.length_append, List.length_append, List.length_take, List.length_drop]; omega
    rw [ho, hu1] at h
    rw [hu1]
    clear hu1
    refine Pw.facts (G' := [Ints .u32 v (some ⟨g, 0, none⟩) (b.length + 1)]) (fun w h => allCons (fact1 h) allNil) ?_
    try refine Pw.run ?_
    refine Pw.condB rfl (fun hb => ?_) (fun hb => ?_)
    · rw [if_pos hb] at h
      obtain ⟨u3, hg3, h⟩ := Option.bind_eq_some_iff.1 h
      unfold limb_give.w at hg3
      obtain ⟨⟨_, d3⟩, hg3⟩ := ite_none hg3
      rw [ho] at hg3 d3
      obtain ⟨wn1, hwn1⟩ : ∃ w, (u1.drop o).take (v.length + 1) = w := ⟨_, rfl⟩
      have hwl1 : wn1.length = wn.length := by rw [← hwn1, List.length_take, List.length_drop]; omega
      have hue1 : u1.take o ++ wn1 ++ u1.drop (o + (v.length + 1)) = u1 := by rw [← hwn1]; exact win u1 o _
      have hpl1 : (u1.take o).length = o := by rw [List.length_take]; omega
      rw [hwn1] at hg3
      obtain ⟨w3, hg4, h3⟩ := Option.bind_eq_some_iff.1 hg3
      have hw3 : w3.length = wn1.length := give_len0 _ _ _ _ _ _ _ hg4
      obtain rfl := Option.some.inj h3
      obtain ⟨d4, h⟩ := ite_none h
      obtain ⟨d5, h⟩ := ite_none h
      try refine Pw.run ?_
      refine Pw.re (d := 64) (v' := .slice (some ⟨gu, o, none⟩) wn1.length (a.length + 1 - o)) rfl (by rw [hwl1]) ?_
      refine Pw.list (Pw.call1 (L' := fun _ => [⟨gq, _⟩, ⟨gu, _⟩]) (give_ct (u1.take o) wn1 (u1.drop (o + (v.length + 1))) v (some ⟨g, 0, none⟩, b.length + 1) gu o (a.length + 1 - o) k w3 hpl1 hg4 (by omega)) rfl rfl rfl (by kernel_rfl) rfl rfl (fun w h => fact0 h) (by rw [hue1]; exact .tail _ (.head _)) (fun _ => by rw [hue1]; exact .tail .head) ?_)
      intro _ _
      try refine Pw.run ?_
      refine Pw.list (Pw.indexO rfl rfl rfl rfl d4 (by omega) rfl rfl ?_)
      refine Pw.list (Pw.storeI rfl rfl rfl rfl rfl d4 d5 .head rfl ?_)
      try refine Pw.run ?_
      exact Pw.again (k, _, _, _) ⟨h, by rw [List.length_append, List.length_append, List.length_take, List.length_drop]; omega, by rw [List.length_set]; exact hql⟩ (Nat.lt_succ_self _) ⟨rfl, rfl, rfl, rfl, rfl, trivial⟩ (by rw [ho]) (fun w h => allCons (fact1 h) allNil)
    · rw [if_neg (by simp [hb])] at h
      obtain ⟨d4, h⟩ := ite_none h
      obtain ⟨d5, h⟩ := ite_none h
      try refine Pw.run ?_
      refine Pw.list (Pw.indexO rfl rfl rfl rfl d4 (by omega) rfl rfl ?_)
      refine Pw.list (Pw.storeI rfl rfl rfl rfl rfl d4 d5 .head rfl ?_)
      try refine Pw.run ?_
      exact Pw.again (k, _, _, _) ⟨h, hu1l, by rw [List.length_set]; exact hql⟩ (Nat.lt_succ_self _) ⟨rfl, rfl, rfl, rfl, rfl, trivial⟩ (by rw [ho]) (fun w h => h)
  · rw [if_neg d1] at h
    obtain ⟨t, ht, h⟩ := Option.bind_eq_some_iff.1 h
    have e1 := trim_some (by omega) ht
    subst e1
    obtain ⟨d2, h⟩ := ite_none h
    obtain ⟨d3, h⟩ := ite_none h
    obtain ⟨r2, hr, h⟩ := Option.bind_eq_some_iff.1 h
    obtain ⟨rfl, rfl⟩ := Prod.mk.inj (Option.some.inj h)
    refine freeHead (freeHead ?_)
    try refine Pw.run ?_
    refine Pw.drawnG mixed rfl rfl ?_
    refine Pw.takeP 0 (nb 10 1) rfl rfl rfl rfl (by kernel_rfl) np sf ?_
    refine Pw.takeP 2 (nb 10 5) rfl rfl rfl rfl (by kernel_rfl) np sf ?_
    refine Pw.takeP 3 (nb 10 13) rfl rfl rfl rfl (by kernel_rfl) np sf ?_
    refine Pw.takeP 4 (nb 10 29) rfl rfl rfl rfl (by kernel_rfl) np sf ?_
    refine Pw.takeCut 5 (nb 10 61) rfl rfl rfl rfl rfl (by first | assumption | omega) (by first | assumption | omega) rfl rfl (by kernel_rfl) np sf ?_
    refine Pw.takeP 6 (nb 10 125) rfl rfl rfl rfl (by kernel_rfl) np sf ?_
    refine Pw.one 1 (nb 10 127) rfl (by kernel_rfl) ?_
    -- call Op.call { callee := Callee.value (Operand.func 66), args := #[Operand.tmp 72], argTypes := #[34] }
    refine Pw.re (d := 72) (v' := sl qq (some ⟨gq, 0, none⟩, n)) rfl (congrArg (fun m => Value.slice (some ⟨gq, 0, none⟩) m n) hql.symm) ?_
    refine Pw.call (trim_ct qq (some ⟨gq, 0, none⟩, n) (by omega)) rfl rfl rfl (by kernel_rfl) rfl rfl (fun w h => ints_of_row' (fact1 h) (by omega) (by simp only [maxLen]; omega)) ?_
    intro z1 _
    refine Pw.after (fun w h => allTail h.all) ?_
    refine Pw.one 7 (nb 10 255) rfl (by kernel_rfl) ?_
    -- call Op.call { callee := Callee.value (Operand.func 91), args := #[Operand.tmp 77, Operand.tmp 78], argTypes := #[34, 3] }
    have hut : (u.take ((v.length : Int)).toNat).length = v.length := by rw [List.length_take]; omega
    refine Pw.re (d := 77) (v' := sl (u.take ((v.length : Int)).toNat) (some ⟨gu, 0, none⟩, a.length + 1)) rfl (congrArg (fun m => Value.slice (some ⟨gu, 0, none⟩) m (a.length + 1)) (by rw [hut]; rfl)) ?_
    refine Pw.call (unshift_ct (u.take ((v.length : Int)).toNat) (some ⟨gu, 0, none⟩, a.length + 1) s k r2 hr (by omega)) rfl rfl rfl (by kernel_rfl) rfl rfl (fun w h => (ints_of_row' (fact1 h) (by omega) (by simp only [maxLen]; omega)).take _) ?_
    intro z2 _
    refine Pw.after (fun w h => allTail (allTail h.all)) ?_
    refine Pw.takeP 8 (nb 10 511) rfl rfl rfl rfl (by kernel_rfl) np sf ?_
    refine Pw.takeP 9 (nb 10 1023) rfl rfl rfl rfl (by kernel_rfl) np sf ?_
    refine Pw.done (by kernel_rfl) ?_
    try refine Pw.run ?_
    exact Pw.ret_ (x := (z1, z2)) (.tmp rfl (.tmp rfl .nil)) rfl trivial (fun w h => ⟨fact1 h, fact0 h⟩)
end Go.Proofs.Wk
/- Walks of layer 1: dividing, the greatest common divisor, subtracting. -/
namespace Go.Proofs.Wk
open Go.RowKit
set_option maxRecDepth 100000
attribute [local irreducible] Pw OpG
set_option linter.unusedVariables false
set_option linter.unusedSimpArgs false
theorem divide_ct (a b : List Int) (x y : Option Addr × Nat) (ha : Fm a) (hb : Fm b) (hb0 : b.length ≠ 0) (hl : a.length < 1048576) (hl' : b.length < 1048576) :
    Ct Try.prog 79 #[sl a x, sl b y] (fun W => S1 a x W ∧ S1 b y W) (fun z : (Option Addr × Nat) × (Option Addr × Nat) => .tuple #[sl (natL (val a / val b)) z.1, sl (natL (val a % val b)) z.2]) Tt (fun z W => S1 (natL (val a / val b)) z.1 W ∧ S1 (natL (val a % val b)) z.2 W) := by
  have A0 := val_nonneg ha.1; have B0 := val_nonneg hb.1
  have hbl := (Fm.iff hb.1).1 hb
  refine Ct.start Try.func79 rfl rfl (slots_of rfl slots2) (fun D w0 => Pw.facts two2 ?_)
  try refine Pw.run ?_
  refine Pw.list (Pw.call (compare_ct a b x y ha hb (by omega) (by omega)) rfl rfl rfl (by kernel_rfl) rfl rfl (fun w h => ⟨fact0 h, fact1 h⟩) ?_)
  intro _ _
  try refine Pw.run ?_
  refine Pw.condD rfl (fun c1 => ?_) (fun c1 => ?_)
  · have hlt : val a < val b := by
      unfold cmpS at c1; split at c1
      · assumption
      · split at c1 <;> omega
    try refine Pw.run ?_
    refine Pw.list (Pw.call (Clone_ct a x (by omega)) rfl rfl rfl (by kernel_rfl) rfl rfl (fun w h => fact1 h) ?_)
    intro z _
    rw [Int.ediv_eq_zero_of_lt A0 hlt, Int.emod_eq_of_lt A0 hlt, natL_zero, ← ha.natL]
    try refine Pw.run ?_
    exact Pw.ret_ (x := ((none, 0), z)) (.tmp rfl (.tmp rfl .nil)) rfl trivial (fun w h => ⟨Rows.nil _ _ _ _ _, fact0 h⟩)
  have hlt : ¬ val a < val b := fun h => c1 (by unfold cmpS; rw [if_pos h]; omega)
  try refine Pw.run ?_
  refine Pw.condD rfl (fun c2 => ?_) (fun c2 => ?_)
  · obtain ⟨b0, rfl⟩ : ∃ x, b = [x] := List.length_eq_one_iff.1 (by omega)
    have hx := hb.1.head
    have hx0 : b0 ≠ 0 := by
      rcases hbl with h | h
      · exact absurd h hb0
      · simpa [rd] using h
    obtain ⟨B, d⟩ := y
    refine Pw.use (p := B.isSome = true) (fun w h => (fact2 h).has (i := 0) (by omega) (by omega)) (fun hB => ?_)
    obtain ⟨bd, rfl⟩ := some_of hB
    try refine Pw.run ?_
    refine Pw.list (Pw.indexS rfl rfl rfl rfl (Int.le_refl 0) (by show (0 : Int) < 1; omega) rfl rfl ?_)
    refine Pw.list (Pw.load1 rfl rfl (fun w hs => (fact2 hs.all).cell (i := 0) (Int.le_refl 0) (by show (0 : Int) < 1; omega)) rfl rfl ?_)
    refine Pw.list (Pw.call (small_ct a x b0 ha.1 (by omega) hx.2 hl) rfl rfl rfl (by kernel_rfl) rfl rfl (fun w h => fact1 h) ?_)
    intro z _
    rw [show val [b0] = b0 by simp [val]]
    try refine Pw.run ?_
    exact Pw.ret_ (x := z) (.tmp rfl (.tmp rfl .nil)) rfl trivial (fun w h => fact0 h)
  · have hab : b.length ≤ a.length := by
      rcases Nat.lt_or_ge a.length b.length with h | h
      · exfalso
        have h2 := (hb.len_pw (by omega)); have h3 := val_lt_pw ha.1
        have := pw_le (show a.length ≤ b.length - 1 by omega)
        omega
      · exact h
    try refine Pw.run ?_
    refine Pw.list (Pw.call (long_ct a b x y ha.1 hb (by omega) hab hl) rfl rfl rfl (by kernel_rfl) rfl rfl (fun w h => ⟨fact1 h, fact2 h⟩) ?_)
    intro z _
    try refine Pw.run ?_
    exact Pw.ret_ (x := z) (.tmp rfl (.tmp rfl .nil)) rfl trivial (fun w h => fact0 h)
theorem DivMod_ct (a b : List Int) (x y : Option Addr × Nat) (ha : Lm a) (hb : Lm b) (hl : a.length < 1048576) (hl' : b.length < 1048576) :
    Ct Try.prog 65 #[sl a x, sl b y] (fun W => S1 a x W ∧ S1 b y W) (fun z : (Option Addr × Nat) × (Option Addr × Nat) => .tuple #[sl (divS a b).1 z.1, sl (divS a b).2.1 z.2, .int .i64 (divS a b).2.2]) Tt (fun z W => S1 (divS a b).1 z.1 W ∧ S1 (divS a b).2.1 z.2 W) := by
  refine Ct.start Try.func65 rfl rfl (slots_of rfl slots2) (fun D w0 => Pw.facts two2 ?_)
  try refine Pw.run ?_
  refine Pw.list (Pw.lit2 rfl rfl rfl rfl rfl rfl rfl rfl rfl rfl rfl (fun g => freeHead ?_))
  refine Pw.list (Pw.call (formed_ct a b x y g (by omega) (by omega)) rfl rfl rfl (by kernel_rfl) rfl rfl (fun w h => ⟨fact0 h, fact1 h, fact2 h⟩) ?_)
  intro _ _
  unfold divS
  cases e : fmB a && fmB b
  · rw [if_neg (andB e)]
    try refine Pw.run ?_
    exact Pw.ret_ (x := ((none, 0), (none, 0))) (.tmp rfl (.tmp rfl (.tmp rfl .nil))) rfl trivial (fun w h => ⟨Rows.nil _ _ _ _ _, Rows.nil _ _ _ _ _⟩)
  · have hab : fmB a = true ∧ fmB b = true := by simpa using e
    rw [if_pos hab]
    try refine Pw.run ?_
    refine Pw.condD rfl (fun c1 => ?_) (fun c1 => ?_)
    · rw [if_pos (by omega)]
      try refine Pw.run ?_
      exact Pw.ret_ (x := ((none, 0), (none, 0))) (.tmp rfl (.tmp rfl (.tmp rfl .nil))) rfl trivial (fun w h => ⟨Rows.nil _ _ _ _ _, Rows.nil _ _ _ _ _⟩)
    · rw [if_neg (by omega)]
      try refine Pw.run ?_
      refine Pw.list (Pw.call (divide_ct a b x y ((fmB_iff ha).1 hab.1).2 ((fmB_iff hb).1 hab.2).2 (by omega) hl hl') rfl rfl rfl (by kernel_rfl) rfl rfl (fun w h => ⟨fact2 h, fact3 h⟩) ?_)
      intro z _
      try refine Pw.run ?_
      exact Pw.ret_ (x := z) (.tmp rfl (.tmp rfl (.tmp rfl .nil))) rfl trivial (fun w h => fact0 h)
end Go.Proofs.Wk
/- Walks of layer 1: the greatest common divisor, subtracting. -/
namespace Go.Proofs.Wk
open Go.RowKit
set_option maxRecDepth 100000
attribute [local irreducible] Pw OpG
set_option linter.unusedVariables false
set_option linter.unusedSimpArgs false
theorem Gcd_ct (a b : List Int) (x y : Option Addr × Nat) (ha : Lm a) (hb : Lm b) (hl : a.length < 1048576) (hl' : b.length < 1048576) :
    Ct Try.prog 64 #[sl a x, sl b y] (fun W => S1 a x W ∧ S1 b y W) (fun z : Option Addr × Nat => .tuple #[sl (gcdS a b).1 z, .int .i64 (gcdS a b).2]) Tt (fun z => S1 (gcdS a b).1 z) := by
  refine Ct.start Try.func64 rfl rfl (slots_of rfl slots2) (fun D w0 => Pw.facts two2 ?_)
  try refine Pw.run ?_
  refine Pw.list (Pw.lit2 rfl rfl rfl rfl rfl rfl rfl rfl rfl rfl rfl (fun g => freeHead ?_))
  refine Pw.list (Pw.call (formed_ct a b x y g (by omega) (by omega)) rfl rfl rfl (by kernel_rfl) rfl rfl (fun w h => ⟨fact0 h, fact1 h, fact2 h⟩) ?_)
  intro _ _
  unfold gcdS
  cases e : fmB a && fmB b
  · rw [if_neg (andB e)]
    try refine Pw.run ?_
    exact Pw.ret_ (x := (none, 0)) (.tmp rfl (.tmp rfl .nil)) rfl trivial (fun w h => Rows.nil _ _ _ _ _)
  have hab : fmB a = true ∧ fmB b = true := by simpa using e
  rw [if_pos hab]
  obtain ⟨ea, la, va, pa⟩ := fm_of ha hab.1
  obtain ⟨eb, lb, vb, pb⟩ := fm_of hb hab.2
  obtain ⟨G0, hG0⟩ : ∃ z, z = gcdI (val a) (val b) := ⟨_, rfl⟩
  rw [← hG0]
  try refine Pw.run ?_
  refine Pw.loopJ (σ := (Int × (Option Addr × Nat)) × Int × (Option Addr × Nat)) (fun s => 0 ≤ s.1.1 ∧ 0 ≤ s.2.1 ∧ s.1.1 < pw 400 ∧ s.2.1 < pw 400 ∧ G0 = gcdI s.1.1 s.2.1) (fun s => ⟨[(0, sl (natL s.1.1) s.1.2), (1, sl (natL s.2.1) s.2.2)], [], [S1 (natL s.1.1) s.1.2, S1 (natL s.2.1) s.2.2]⟩) (fun s => s.2.1.toNat) ((val a, x), (val b, y)) ⟨va, vb, pa, pb, hG0⟩ ?_ ?_
  · rw [← ea, ← eb]
    exact Pw.enter ⟨rfl, rfl, trivial⟩ (fun _ h => allCons (fact2 h) (allCons (fact3 h) allNil))
  clear ea eb va vb pa pb hG0 la lb
  rintro ⟨⟨u, x⟩, ⟨v, y⟩⟩ ⟨hu, hv, pu, pv, hG⟩
  dsimp only at hu hv pu pv hG ⊢
  have lu := natL_len_le hu pu
  have lv := natL_len_le hv pv
  try refine Pw.run ?_
  refine Pw.condD rfl (fun c1 => ?_) (fun c1 => ?_)
  · have h0 : v ≠ 0 := fun e => by rw [(natL_len_zero hv).2 e] at c1; omega
    have r0 := Int.emod_nonneg u h0
    have r1 := Int.emod_lt_of_pos u (show 0 < v by omega)
    try refine Pw.run ?_
    refine Pw.list (Pw.call (divide_ct (natL u) (natL v) x y (natL_fm u) (natL_fm v) (by omega) (by omega) (by omega)) rfl rfl rfl (by kernel_rfl) rfl rfl (fun w h => ⟨fact0 h, fact1 h⟩) ?_)
    intro z _
    rw [val_natL hu, val_natL hv]
    try refine Pw.run ?_
    exact Pw.again ((v, y), (u % v, z.2)) ⟨hv, r0, pv, by show u % v < pw 400; omega, by rw [hG]; exact gcdI_step hu (by omega)⟩ (by show (u % v).toNat < v.toNat; omega) ⟨rfl, rfl, trivial⟩ rfl (fun w h => allCons (fact2 h) (allCons (fact0 h).2 allNil))
  · have h0 : v = 0 := (natL_len_zero hv).1 (by omega)
    subst h0
    rw [gcdI_zero hu] at hG
    subst hG
    try refine Pw.run ?_
    refine Pw.list (Pw.call (Clone_ct (natL G0) x (by omega)) rfl rfl rfl (by kernel_rfl) rfl rfl (fun w h => fact0 h) ?_)
    intro z _
    try refine Pw.run ?_
    exact Pw.ret_ (x := z) (.tmp rfl (.tmp rfl .nil)) rfl trivial (fun w h => fact0 h)
theorem CloneO_ct (l : List Int) (x : Option Addr × Nat) (hl : l.length < 1099511627776) (h0 : l.length ≠ 0) : CtO Try.prog 74 #[sl l x] (S1 l x) (fun z : Nat × Nat × List Value => .slice (some ⟨z.1, 0, none⟩) l.length z.2.1) (fun z => l.length ≤ z.2.1) (fun z => z.1) (fun z => row (l.map (Value.int .u32) ++ z.2.2) 41) := by
  obtain ⟨A, c⟩ := x
  refine CtO.start Try.func74 rfl rfl (slots_of rfl slots1) (fun D w0 => ?_)
  refine Pw.use (p := A.isSome = true) (fun w h => (fact0 h).has (i := 0) (by omega) (by omega)) (fun hA => ?_)
  obtain ⟨ad, rfl⟩ := some_of hA
  try refine Pw.run ?_
  refine Pw.list (Pw.lit0 rfl rfl rfl rfl (fun g => ?_))
  try refine Pw.run ?_
  refine Pw.list (Pw.appendCopy (news := l.map (Value.int .u32)) rfl rfl rfl rfl rfl rfl (show (l.map (Value.int .u32)).length = l.length * 1 by simp) (fun w hs => (fact0 hs.all).cells) rfl (by simp only [maxLen]; omega) (show l.length * 4 ≤ _ by omega) (.head _) rfl rfl (fun g cap ex h1 h2 => ?_) (fun e => absurd e h0))
  try refine Pw.run ?_
  exact Pw.retO (x := (g, cap, ex)) (.head _) (.tmp rfl .nil) rfl h1
theorem Sub_ct (a b : List Int) (x y : Option Addr × Nat) (ha : Lm a) (hb : Lm b) (hl : a.length < 1048576) (hl' : b.length < 1048576) :
    Ct Try.prog 54 #[sl a x, sl b y] (fun W => S1 a x W ∧ S1 b y W) (fun z : Option Addr × Nat => .tuple #[sl (subS a b).1 z, .int .i64 (subS a b).2]) Tt (fun z => S1 (subS a b).1 z) := by
  refine Ct.start Try.func54 rfl rfl (slots_of rfl slots2) (fun D w0 => Pw.facts two2 ?_)
  have h := sub_ev ha hb (by omega) (by omega) (Nat.lt_succ_self _)
  generalize hk : Nat.succ _ = k at h
  unfold limb_Sub.f at h
  rw [formed2_ev (by omega) (by omega) (by omega), Option.bind_some] at h
  try refine Pw.run ?_
  refine Pw.list (Pw.lit2 rfl rfl rfl rfl rfl rfl rfl rfl rfl rfl rfl (fun g => freeHead ?_))
  refine Pw.list (Pw.call (formed_ct a b x y g (by omega) (by omega)) rfl rfl rfl (by kernel_rfl) rfl rfl (fun w h => ⟨fact0 h, fact1 h, fact2 h⟩) ?_)
  intro _ _
  cases e : fmB a && fmB b
  · rw [e, if_neg (by simp)] at h
    generalize subS a b = r at h ⊢
    obtain rfl := Option.some.inj h
    try refine Pw.run ?_
    exact Pw.ret_ (x := (none, 0)) (.tmp rfl (.tmp rfl .nil)) rfl trivial (fun w h => Rows.nil _ _ _ _ _)
  have hab : fmB a = true ∧ fmB b = true := by simpa using e
  have fa := ((fmB_iff ha).1 hab.1).2; have fb := ((fmB_iff hb).1 hab.2).2
  rw [e, if_pos rfl, compare_ev fa fb (by omega) (by omega) (by omega), Option.bind_some] at h
  generalize subS a b = r at h ⊢
  obtain ⟨r1, r2⟩ := r
  try refine Pw.run ?_
  refine Pw.list (Pw.call (compare_ct a b x y fa fb (by omega) (by omega)) rfl rfl rfl (by kernel_rfl) rfl rfl (fun w h => ⟨fact2 h, fact3 h⟩) ?_)
  intro _ _
  try refine Pw.run ?_
  refine Pw.condD rfl (fun c1 => ?_) (fun c1 => ?_)
  · rw [if_pos c1] at h
    obtain ⟨rfl, rfl⟩ := Prod.mk.inj (Option.some.inj h)
    try refine Pw.run ?_
    exact Pw.ret_ (x := (none, 0)) (.tmp rfl (.tmp rfl .nil)) rfl trivial (fun w h => Rows.nil _ _ _ _ _)
  rw [if_neg c1, clone_ev (by omega), Option.bind_some] at h
  obtain ⟨B, d⟩ := y
  by_cases h0 : a.length = 0
  · obtain rfl := List.eq_nil_of_length_eq_zero h0
    obtain _ | k := k
    · cases h
    simp only [limb_Sub.l0] at h
    rw [if_neg (by simp)] at h
    obtain ⟨t, ht, h⟩ := Option.bind_eq_some_iff.1 h
    have e1 := trim_some (by simp) ht
    subst e1
    obtain ⟨rfl, rfl⟩ := Prod.mk.inj (Option.some.inj h)
    try refine Pw.run ?_
    refine Pw.list (Pw.call (Clone_ct [] x (by simp)) rfl rfl rfl (by kernel_rfl) rfl rfl (fun w h => Rows.nil _ _ _ _ _) ?_)
    intro z _
    try refine Pw.run ?_
    refine Pw.rounds 1 ?_
    refine Pw.round ?_
    try refine Pw.run ?_
    refine Pw.list (Pw.call (trim_ct [] z (by simp)) rfl rfl rfl (by kernel_rfl) rfl rfl (fun w h => Rows.nil _ _ _ _ _) ?_)
    intro z1 _
    try refine Pw.run ?_
    exact Pw.ret_ (x := z1) (.tmp rfl (.tmp rfl .nil)) rfl trivial (fun w h => fact0 h)
  try refine Pw.run ?_
  refine Pw.list (Pw.callO (CloneO_ct a x (by omega) h0) rfl rfl rfl (by kernel_rfl) rfl rfl (fun w h => fact3 h) ?_)
  rintro ⟨g, cap, ex⟩ hcap
  dsimp only at hcap ⊢
  try refine Pw.run ?_
  obtain ⟨m, hm⟩ : ∃ m, m = a.length := ⟨_, rfl⟩
  rw [← hm] at h hcap ⊢
  refine Pw.loopJ (σ := Nat × List Int × Int × Int) (fun s => limb_Sub.l0 s.1 b s.2.1 s.2.2.1 (m : Int) s.2.2.2 = some (r1, r2) ∧ s.2.1.length = m)
    (fun s => ⟨[(1, .slice B b.length d), (6, .slice (some ⟨g, 0, none⟩) m cap), (7, .int .i64 s.2.2.1), (24, .int .i64 m), (25, .int .i64 s.2.2.2)], [⟨g, row (s.2.1.map (Value.int .u32) ++ ex) 41⟩], [Ints .u32 b B d]⟩) (fun s => s.1) (k, a, 0, 0) ⟨h, hm.symm⟩ (Pw.enter ⟨rfl, rfl, rfl, rfl, rfl, trivial⟩ (fun _ h => allCons (fact3 (allTail h)) allNil)) ?_
  clear h
  rintro ⟨k, out, br, i⟩ ⟨h, hout⟩
  dsimp only at h hout ⊢
  obtain _ | k := k
  · cases h
  simp only [limb_Sub.l0] at h
  try refine Pw.run ?_
  refine Pw.condD rfl (fun c3 => ?_) (fun c3 => ?_)
  · rw [if_pos c3] at h
    obtain ⟨c4, h⟩ := ite_none h
    obtain ⟨c5, h⟩ := ite_none h
    try refine Pw.run ?_
    refine Pw.list (Pw.indexO rfl rfl rfl rfl c4 (by omega) rfl rfl ?_)
    refine Pw.list (Pw.loadX rfl rfl rfl (.head _) c4 c5 rfl rfl ?_)
    try refine Pw.run ?_
    refine Pw.condD rfl (fun c6 => ?_) (fun c6 => ?_)
    · rw [if_pos c6, Option.bind_some] at h
      try refine Pw.run ?_
      refine Pw.list (Pw.index rfl rfl rfl rfl c4 c6 (fun w h => (fact0 h).has c4 c6) rfl rfl ?_)
      rintro bd rfl
      refine Pw.list (Pw.load1 rfl rfl (fun w hs => by first | exact (fact0 hs.all).cell (by first | assumption | omega) (by first | assumption | omega) | exact (fact1 hs.all).cell (by first | assumption | omega) (by first | assumption | omega) | exact (fact2 hs.all).cell (by first | assumption | omega) (by first | assumption | omega) | exact (fact3 hs.all).cell (by first | assumption | omega) (by first | assumption | omega)) rfl rfl ?_)
      try refine Pw.run ?_
      refine Pw.list (Pw.indexO rfl rfl rfl rfl c4 (by omega) rfl rfl ?_)
      refine Pw.list (Pw.storeX rfl rfl rfl rfl rfl c4 c5 .head rfl ?_)
      try refine Pw.run ?_
      refine Pw.condD rfl (fun c7 => ?_) (fun c7 => ?_)
      · rw [if_pos c7] at h
        try refine Pw.run ?_
        exact Pw.again (k, _, _, _) ⟨h, by rw [List.length_set]; exact hout⟩ (Nat.lt_succ_self _) ⟨rfl, rfl, rfl, rfl, rfl, trivial⟩ rfl (fun w h => h)
      · rw [if_neg c7] at h
        try refine Pw.run ?_
        exact Pw.again (k, _, _, _) ⟨h, by rw [List.length_set]; exact hout⟩ (Nat.lt_succ_self _) ⟨rfl, rfl, rfl, rfl, rfl, trivial⟩ rfl (fun w h => h)
    · rw [if_neg c6, Option.bind_some] at h
      try refine Pw.run ?_
      refine Pw.list (Pw.indexO rfl rfl rfl rfl c4 (by omega) rfl rfl ?_)
      refine Pw.list (Pw.storeX rfl rfl rfl rfl rfl c4 c5 .head rfl ?_)
      try refine Pw.run ?_
      refine Pw.condD rfl (fun c7 => ?_) (fun c7 => ?_)
      · rw [if_pos c7] at h
        try refine Pw.run ?_
        exact Pw.again (k, _, _, _) ⟨h, by rw [List.length_set]; exact hout⟩ (Nat.lt_succ_self _) ⟨rfl, rfl, rfl, rfl, rfl, trivial⟩ rfl (fun w h => h)
      · rw [if_neg c7] at h
        try refine Pw.run ?_
        exact Pw.again (k, _, _, _) ⟨h, by rw [List.length_set]; exact hout⟩ (Nat.lt_succ_self _) ⟨rfl, rfl, rfl, rfl, rfl, trivial⟩ rfl (fun w h => h)
  · rw [if_neg c3] at h
    obtain ⟨t, ht, h⟩ := Option.bind_eq_some_iff.1 h
    have e1 := trim_some (by omega) ht
    subst e1
    obtain ⟨rfl, rfl⟩ := Prod.mk.inj (Option.some.inj h)
    refine freeHead ?_
    try refine Pw.run ?_
    refine Pw.re (d := 54) (v' := sl out (some ⟨g, 0, none⟩, cap)) rfl (congrArg (fun m => Value.slice (some ⟨g, 0, none⟩) m cap) hout.symm) ?_
    refine Pw.list (Pw.call (trim_ct out (some ⟨g, 0, none⟩, cap) (by omega)) rfl rfl rfl (by kernel_rfl) rfl rfl (fun w h => ints_of_row (fact0 h) (by omega) (by simp only [maxLen]; omega)) ?_)
    intro z1 _
    try refine Pw.run ?_
    exact Pw.ret_ (x := z1) (.tmp rfl (.tmp rfl .nil)) rfl trivial (fun w h => fact0 h)
end Go.Proofs.Wk
/- Walks of the reference: trimming, forming, comparing. -/
namespace Go.Proofs.Wk
open Go.RowKit
set_option maxRecDepth 100000
attribute [local irreducible] Pw OpG
set_option linter.unusedVariables false
set_option linter.unusedSimpArgs false
theorem rtrim_ct (l : List Int) (x : Option Addr × Nat) (hl : l.length < 1099511627776) : Ct Try.prog 56 #[sl l x] (S1 l x) (fun x => sl (trimL l) x) Tt (fun x => S1 (trimL l) x) := by
  obtain ⟨A, c⟩ := x
  have h := rtrim_ev hl (Nat.lt_succ_self _)
  unfold psephosref01_trim.f at h
  generalize trimL l = r at h
  refine Ct.start Try.func56 rfl rfl (slots_of rfl slots1) (fun D w0 => ?_)
  try refine Pw.run ?_
  refine Pw.loopJ (σ := Nat × Int) (fun s => psephosref01_trim.l0 s.1 l s.2 = some r) (fun s => ⟨[(0, .slice A l.length c), (3, .int .i64 s.2)], [], [Ints .u32 l A c]⟩) (fun s => s.1) (_, _) h (Pw.enter ⟨rfl, rfl, trivial⟩ (fun _ h => h)) ?_
  clear h
  rintro ⟨k, n⟩ h
  dsimp only at h ⊢
  obtain _ | k := k
  · cases h
  simp only [psephosref01_trim.l0] at h
  try refine Pw.run ?_
  refine Pw.split 8 rfl (fun c1 => ?_) (fun c1 => ?_)
  · rw [if_pos c1] at h
    obtain ⟨c2, h⟩ := ite_none h
    obtain ⟨c3, h⟩ := ite_none h
    try refine Pw.run ?_
    refine Pw.list (Pw.index rfl rfl rfl rfl c2 c3 (fun w h => (fact0 h).has c2 c3) rfl rfl ?_)
    rintro ad rfl
    refine Pw.list (Pw.load1 rfl rfl (fun w hs => by first | exact (fact0 hs.all).cell (by first | assumption | omega) (by first | assumption | omega) | exact (fact1 hs.all).cell (by first | assumption | omega) (by first | assumption | omega) | exact (fact2 hs.all).cell (by first | assumption | omega) (by first | assumption | omega) | exact (fact3 hs.all).cell (by first | assumption | omega) (by first | assumption | omega)) rfl rfl ?_)
    try refine Pw.run ?_
    refine Pw.condD rfl (fun c4 => ?_) (fun c4 => ?_)
    · rw [if_pos c4] at h
      try refine Pw.run ?_
      exact Pw.again (k, _) h (Nat.lt_succ_self _) ⟨rfl, rfl, trivial⟩ rfl (fun w h => h)
    · rw [if_neg c4] at h
      rw [Option.bind_some] at h
      obtain ⟨d1, h⟩ := ite_none h
      obtain ⟨d2, h⟩ := ite_none h
      obtain ⟨d3, h⟩ := ite_none h
      have e1 := Option.some.inj h
      rw [List.nil_append] at e1
      subst e1
      have e2 : (l.take n.toNat).length = n.toNat := by rw [List.length_take]; omega
      refine Pw.use (p := l.length ≤ c) (fun w h => (fact0 h).le) (fun hm => ?_)
      try refine Pw.run ?_
      refine Pw.list (Pw.lit0 rfl rfl rfl rfl (fun g => ?_))
      try refine Pw.run ?_
      refine Pw.list (Pw.cutTo rfl rfl rfl rfl d1 (by omega) rfl rfl ?_)
      refine Pw.list (Pw.appendCopy (news := (l.take n.toNat).map (Value.int .u32)) rfl rfl rfl rfl rfl rfl (show ((l.take n.toNat).map (Value.int .u32)).length = n.toNat * 1 by rw [List.length_map, e2, Nat.mul_one]) (fun w hs => ((fact0 hs.all).take _).cells) rfl (by simp only [maxLen]; omega) (show n.toNat * 4 ≤ _ by omega) (.head _) rfl rfl (fun g cap ex h1 h2 => freeHead (Pw.drop ?_)) (fun h0 => Pw.drop ?_))
      · try refine Pw.run ?_
        exact Pw.ret_ (x := (some ⟨g, 0, none⟩, cap)) (.tmp rfl .nil) (congrArg (fun m => Value.slice (some ⟨g, 0, none⟩) m cap) e2.symm) trivial (fun w h => ints_of_row (fact0 h) (by omega) (by simp only [maxLen]; omega))
      · rw [h0]
        try refine Pw.run ?_
        exact Pw.ret_ (x := (some ⟨g, 0, none⟩, 0)) (.tmp rfl .nil) rfl trivial (fun w h => Rows.nil _ _ _ _ _)
  · rw [if_neg c1] at h
    rw [Option.bind_some] at h
    obtain ⟨d1, h⟩ := ite_none h
    obtain ⟨d2, h⟩ := ite_none h
    obtain ⟨d3, h⟩ := ite_none h
    have e1 := Option.some.inj h
    rw [List.nil_append] at e1
    subst e1
    have e2 : (l.take n.toNat).length = n.toNat := by rw [List.length_take]; omega
    refine Pw.use (p := l.length ≤ c) (fun w h => (fact0 h).le) (fun hm => ?_)
    try refine Pw.run ?_
    refine Pw.list (Pw.lit0 rfl rfl rfl rfl (fun g => ?_))
    try refine Pw.run ?_
    refine Pw.list (Pw.cutTo rfl rfl rfl rfl d1 (by omega) rfl rfl ?_)
    refine Pw.list (Pw.appendCopy (news := (l.take n.toNat).map (Value.int .u32)) rfl rfl rfl rfl rfl rfl (show ((l.take n.toNat).map (Value.int .u32)).length = n.toNat * 1 by rw [List.length_map, e2, Nat.mul_one]) (fun w hs => ((fact0 hs.all).take _).cells) rfl (by simp only [maxLen]; omega) (show n.toNat * 4 ≤ _ by omega) (.head _) rfl rfl (fun g cap ex h1 h2 => freeHead (Pw.drop ?_)) (fun h0 => Pw.drop ?_))
    · try refine Pw.run ?_
      exact Pw.ret_ (x := (some ⟨g, 0, none⟩, cap)) (.tmp rfl .nil) (congrArg (fun m => Value.slice (some ⟨g, 0, none⟩) m cap) e2.symm) trivial (fun w h => ints_of_row (fact0 h) (by omega) (by simp only [maxLen]; omega))
    · rw [h0]
      try refine Pw.run ?_
      exact Pw.ret_ (x := (some ⟨g, 0, none⟩, 0)) (.tmp rfl .nil) rfl trivial (fun w h => Rows.nil _ _ _ _ _)
theorem rOf_ct (n : Int) : Ct Try.prog 29 #[.int .u64 n] (fun _ => True) (fun x => sl (ofN n) x) Tt (fun x => S1 (ofN n) x) := by
  refine Ct.start Try.func29 rfl rfl (slots_of rfl slots1) (fun D w0 => ?_)
  try refine Pw.run ?_
  refine Pw.list (Pw.lit2 rfl rfl rfl rfl rfl rfl rfl rfl rfl rfl rfl (fun g => freeHead ?_))
  refine Pw.list (Pw.call (rtrim_ct [n % 4294967296, (n / 4294967296) % 4294967296] (some ⟨g, 0, none⟩, 2) (by simp)) rfl rfl rfl (by kernel_rfl) rfl rfl (fun w h => ints_of_row' (fact0 h) (by simp) (by simp [maxLen])) ?_)
  intro z _
  try refine Pw.run ?_
  exact Pw.ret_ (x := z) (.tmp rfl .nil) rfl trivial (fun w h => fact0 h)
theorem rcmpF_ct (a b : List Int) (x y : Option Addr × Nat) (k : Nat) (r : Int) (h : psephosref01_cmp.f k a b = some r) :
    Ct Try.prog 60 #[sl a x, sl b y] (fun W => S1 a x W ∧ S1 b y W) (fun _ : Unit => .int .i64 r) Tt (fun _ _ => True) := by
  obtain ⟨A, c⟩ := x
  obtain ⟨B, d⟩ := y
  unfold psephosref01_cmp.f at h
  refine Ct.start Try.func60 rfl rfl (slots_of rfl slots2) (fun D w0 => Pw.facts two2 ?_)
  try refine Pw.run ?_
  refine Pw.condD rfl (fun c1 => ?_) (fun c1 => ?_)
  · rw [if_neg c1] at h
    try refine Pw.run ?_
    refine Pw.condD rfl (fun c2 => ?_) (fun c2 => ?_)
    · rw [if_pos c2] at h
      obtain rfl := Option.some.inj h
      try refine Pw.run ?_
      exact Pw.ret_ (x := ()) (.tmp rfl .nil) rfl trivial (fun w h => by trivial)
    · rw [if_neg c2] at h
      obtain rfl := Option.some.inj h
      try refine Pw.run ?_
      exact Pw.ret_ (x := ()) (.tmp rfl .nil) rfl trivial (fun w h => by trivial)
  rw [if_pos (Decidable.not_not.1 c1)] at h
  try refine Pw.run ?_
  refine Pw.loopJ (σ := Nat × Int) (fun s => psephosref01_cmp.l0 s.1 a b s.2 = some r) (fun s => ⟨[(0, .slice A a.length c), (1, .slice B b.length d), (5, .int .i64 s.2)], [], [Ints .u32 a A c, Ints .u32 b B d]⟩) (fun s => s.1) (_, _) h (Pw.enter ⟨rfl, rfl, rfl, trivial⟩ (fun _ h => h)) ?_
  clear h
  rintro ⟨k, i⟩ h
  dsimp only at h ⊢
  obtain _ | k := k
  · cases h
  simp only [psephosref01_cmp.l0] at h
  try refine Pw.run ?_
  refine Pw.condD rfl (fun c3 => ?_) (fun c3 => ?_)
  · rw [if_pos c3] at h
    obtain ⟨c4, h⟩ := ite_none h
    obtain ⟨c5, h⟩ := ite_none h
    obtain ⟨c6, h⟩ := ite_none h
    try refine Pw.run ?_
    refine Pw.use (p := A.isSome = true ∧ B.isSome = true) (fun w h => ⟨(fact0 h).has c4 c5, (fact1 h).has c4 c6⟩) (fun hA => ?_)
    obtain ⟨⟨ad, rfl⟩, ⟨bd, rfl⟩⟩ := And.intro (some_of hA.1) (some_of hA.2)
    refine Pw.drawnG mixed rfl rfl ?_
    refine Pw.takeP 0 (nb 9 1) rfl rfl rfl rfl (by kernel_rfl) np sf ?_
    refine Pw.takeP 1 (nb 9 3) rfl rfl rfl rfl (by kernel_rfl) np sf ?_
    refine Pw.takeIx 2 (nb 9 7) rfl rfl rfl rfl rfl (by first | assumption | omega) (by first | assumption | omega) rfl rfl (by kernel_rfl) np sf ?_
    refine Pw.takeLd 3 (nb 9 15) rfl rfl rfl (fun w hS => by first | exact own_cell (fact0 hS) (by first | assumption | omega) (by first | assumption | omega) | exact own_cellX (fact0 hS) (by first | assumption | omega) (by first | assumption | omega) | exact (fact0 hS).cell (by first | assumption | omega) (by first | assumption | omega) | exact (fact1 hS).cell (by first | assumption | omega) (by first | assumption | omega) | exact (fact2 hS).cell (by first | assumption | omega) (by first | assumption | omega) | exact (fact3 hS).cell (by first | assumption | omega) (by first | assumption | omega)) rfl rfl (by kernel_rfl) np sf ?_
    refine Pw.takeP 4 (nb 9 31) rfl rfl rfl rfl (by kernel_rfl) np sf ?_
    refine Pw.takeP 5 (nb 9 63) rfl rfl rfl rfl (by kernel_rfl) np sf ?_
    refine Pw.takeIx 6 (nb 9 127) rfl rfl rfl rfl rfl (by first | assumption | omega) (by first | assumption | omega) rfl rfl (by kernel_rfl) np sf ?_
    refine Pw.takeLd 7 (nb 9 255) rfl rfl rfl (fun w hS => by first | exact own_cell (fact0 hS) (by first | assumption | omega) (by first | assumption | omega) | exact own_cellX (fact0 hS) (by first | assumption | omega) (by first | assumption | omega) | exact (fact0 hS).cell (by first | assumption | omega) (by first | assumption | omega) | exact (fact1 hS).cell (by first | assumption | omega) (by first | assumption | omega) | exact (fact2 hS).cell (by first | assumption | omega) (by first | assumption | omega) | exact (fact3 hS).cell (by first | assumption | omega) (by first | assumption | omega)) rfl rfl (by kernel_rfl) np sf ?_
    refine Pw.takeP 8 (nb 9 511) rfl rfl rfl rfl (by kernel_rfl) np sf ?_
    refine Pw.done (by kernel_rfl) ?_
    try refine Pw.run ?_
    refine Pw.condD rfl (fun c7 => ?_) (fun c7 => ?_)
    · rw [if_pos c7] at h
      obtain rfl := Option.some.inj h
      try refine Pw.run ?_
      exact Pw.ret_ (x := ()) (.tmp rfl .nil) rfl trivial (fun w h => by trivial)
    rw [if_neg c7] at h
    try refine Pw.run ?_
    refine Pw.drawnG mixed rfl rfl ?_
    refine Pw.takeP 0 (nb 9 1) rfl rfl rfl rfl (by kernel_rfl) np sf ?_
    refine Pw.takeP 1 (nb 9 3) rfl rfl rfl rfl (by kernel_rfl) np sf ?_
    refine Pw.takeIx 2 (nb 9 7) rfl rfl rfl rfl rfl (by first | assumption | omega) (by first | assumption | omega) rfl rfl (by kernel_rfl) np sf ?_
    refine Pw.takeLd 3 (nb 9 15) rfl rfl rfl (fun w hS => by first | exact own_cell (fact0 hS) (by first | assumption | omega) (by first | assumption | omega) | exact own_cellX (fact0 hS) (by first | assumption | omega) (by first | assumption | omega) | exact (fact0 hS).cell (by first | assumption | omega) (by first | assumption | omega) | exact (fact1 hS).cell (by first | assumption | omega) (by first | assumption | omega) | exact (fact2 hS).cell (by first | assumption | omega) (by first | assumption | omega) | exact (fact3 hS).cell (by first | assumption | omega) (by first | assumption | omega)) rfl rfl (by kernel_rfl) np sf ?_
    refine Pw.takeP 4 (nb 9 31) rfl rfl rfl rfl (by kernel_rfl) np sf ?_
    refine Pw.takeP 5 (nb 9 63) rfl rfl rfl rfl (by kernel_rfl) np sf ?_
    refine Pw.takeIx 6 (nb 9 127) rfl rfl rfl rfl rfl (by first | assumption | omega) (by first | assumption | omega) rfl rfl (by kernel_rfl) np sf ?_
    refine Pw.takeLd 7 (nb 9 255) rfl rfl rfl (fun w hS => by first | exact own_cell (fact0 hS) (by first | assumption | omega) (by first | assumption | omega) | exact own_cellX (fact0 hS) (by first | assumption | omega) (by first | assumption | omega) | exact (fact0 hS).cell (by first | assumption | omega) (by first | assumption | omega) | exact (fact1 hS).cell (by first | assumption | omega) (by first | assumption | omega) | exact (fact2 hS).cell (by first | assumption | omega) (by first | assumption | omega) | exact (fact3 hS).cell (by first | assumption | omega) (by first | assumption | omega)) rfl rfl (by kernel_rfl) np sf ?_
    refine Pw.takeP 8 (nb 9 511) rfl rfl rfl rfl (by kernel_rfl) np sf ?_
    refine Pw.done (by kernel_rfl) ?_
    try refine Pw.run ?_
    refine Pw.condD rfl (fun c8 => ?_) (fun c8 => ?_)
    · rw [if_pos c8] at h
      obtain rfl := Option.some.inj h
      try refine Pw.run ?_
      exact Pw.ret_ (x := ()) (.tmp rfl .nil) rfl trivial (fun w h => by trivial)
    rw [if_neg c8] at h
    try refine Pw.run ?_
    exact Pw.again (k, wrap64 (i - 1)) h (Nat.lt_succ_self _) ⟨rfl, rfl, rfl, trivial⟩ rfl (fun w h => h)
  · rw [if_neg c3] at h
    obtain rfl := Option.some.inj h
    try refine Pw.run ?_
    exact Pw.ret_ (x := ()) (.tmp rfl .nil) rfl trivial (fun w h => by trivial)
theorem rcmp_ct (a b : List Int) (x y : Option Addr × Nat) (ha : Fm a) (hb : Fm b) (hl : a.length < 549755813888) (hl' : b.length < 549755813888) :
    Ct Try.prog 60 #[sl a x, sl b y] (fun W => S1 a x W ∧ S1 b y W) (fun _ : Unit => .int .i64 (cmpS (val a) (val b))) Tt (fun _ _ => True) :=
  rcmpF_ct a b x y _ _ (rcmp_ev ha hb hl hl' (Nat.lt_succ_self _))
theorem cmpS_zero {x y : Int} : cmpS x y = 0 ↔ x = y := by
  unfold cmpS
  split
  · constructor <;> intro <;> omega
  · split
    · constructor <;> intro <;> omega
    · constructor <;> intro <;> omega
theorem rSame_ct (a b : List Int) (x y : Option Addr × Nat) (ha : Fm a) (hb : Fm b) (hl : a.length < 549755813888) (hl' : b.length < 549755813888) :
    Ct Try.prog 69 #[sl a x, sl b y] (fun W => S1 a x W ∧ S1 b y W) (fun _ : Unit => .bool (decide (val a = val b))) Tt (fun _ _ => True) := by
  refine Ct.start Try.func69 rfl rfl (slots_of rfl slots2) (fun D w0 => Pw.facts two2 ?_)
  try refine Pw.run ?_
  refine Pw.split 10 rfl (fun c1 => ?_) (fun c1 => ?_)
  · try refine Pw.run ?_
    refine Pw.list (Pw.call (rcmp_ct a b x y ha hb hl hl') rfl rfl rfl (by kernel_rfl) rfl rfl (fun w h => ⟨fact0 h, fact1 h⟩) ?_)
    intro _ _
    try refine Pw.run ?_
    exact Pw.ret_ (x := ()) (.tmp rfl .nil) (congrArg Value.bool (decide_eq_decide.2 cmpS_zero)) trivial (fun w h => by trivial)
  · try refine Pw.run ?_
    have hne : val a ≠ val b := fun e => c1 (by rw [ha.natL, hb.natL, e])
    exact Pw.ret_ (x := ()) (.tmp rfl .nil) (by rw [decide_eq_false hne]; rfl) trivial (fun w h => by trivial)
def bdS (l : List Int) : List Int × Int := if l.length ≤ 400 then (l, 0) else ([], 4)
end Go.Proofs.Wk
/- Walks of the reference: adding, subtracting, multiplying. -/
namespace Go.Proofs.Wk
open Go.RowKit
set_option maxRecDepth 100000
attribute [local irreducible] Pw OpG
set_option linter.unusedVariables false
set_option linter.unusedSimpArgs false
theorem rtrim_more : ∀ (k : Nat) (l : List Int) (n : Int) (r : List Int), psephosref01_trim.l0 k l n = some r → psephosref01_trim.l0 (k + 1) l n = some r
  | 0, l, n, r, h => by cases h
  | k + 1, l, n, r, h => by
    unfold psephosref01_trim.l0 at h ⊢
    split at h
    next c1 =>
      rw [if_pos c1]
      obtain ⟨c2, h⟩ := ite_none h
      obtain ⟨c3, h⟩ := ite_none h
      rw [if_pos c2, if_pos c3]
      split at h
      next c4 => rw [if_pos c4]; exact rtrim_more k _ _ r h
      next c4 => rw [if_neg c4]; exact h
    next c1 => rw [if_neg c1]; exact h
theorem rtrim_some {k : Nat} {l r : List Int} (hl : l.length < 1099511627776) (h : psephosref01_trim.f k l = some r) : r = trimL l := by
  have h1 : ∀ j, psephosref01_trim.l0 (k + j) l (l.length : Int) = some r := fun j => by
    induction j with
    | zero => exact h
    | succ j ih => exact rtrim_more _ _ _ _ ih
  have h2 := rtrim_ev hl (k := k + (l.length + 1)) (by omega)
  unfold psephosref01_trim.f at h2
  rw [h1] at h2
  exact Option.some.inj h2
end Go.Proofs.Wk
/- Walks of the reference: subtracting, multiplying. -/
namespace Go.Proofs.Wk
open Go.RowKit
set_option maxRecDepth 100000
attribute [local irreducible] Pw OpG
set_option linter.unusedVariables false
set_option linter.unusedSimpArgs false
theorem rsubF_ct (a b : List Int) (x y : Option Addr × Nat) (k : Nat) (r : List Int) (h : psephosref01_sub.f k a b = some r) (hl : a.length < 4194304) :
    Ct Try.prog 82 #[sl a x, sl b y] (fun W => S1 a x W ∧ S1 b y W) (fun z : Option Addr × Nat => sl r z) Tt (fun z => S1 r z) := by
  obtain ⟨A, c⟩ := x
  obtain ⟨B, d⟩ := y
  unfold psephosref01_sub.f at h
  rw [Option.bind_some, if_pos (by simp; omega), Option.bind_some, List.nil_append] at h
  refine Ct.start Try.func82 rfl rfl (slots_of rfl slots2) (fun D w0 => Pw.facts two2 ?_)
  try refine Pw.run ?_
  refine Pw.list (Pw.lit0 rfl rfl rfl rfl (fun g => ?_))
  try refine Pw.run ?_
  refine Pw.list (Pw.appendCopy (news := a.map (Value.int .u32)) rfl rfl rfl rfl rfl rfl (show (a.map (Value.int .u32)).length = a.length * 1 by simp) (fun w hs => (fact0 hs.all).cells) rfl (by simp only [maxLen]; omega) (show a.length * 4 ≤ _ by omega) (.head _) rfl rfl (fun g cap ex h1 h2 => ?_) (fun h0 => Pw.drop ?_))
  · refine Pw.perm (.swap ..) (Pw.drop ?_)
    try refine Pw.run ?_
    obtain ⟨m, hm⟩ : ∃ m, m = a.length := ⟨_, rfl⟩
    rw [← hm] at h h1 ⊢
    refine Pw.loopJ (σ := Nat × List Int × Int × Int) (fun s => psephosref01_sub.l0 s.1 b s.2.1 s.2.2.1 (m : Int) s.2.2.2 = some r ∧ s.2.1.length = m)
      (fun s => ⟨[(1, .slice B b.length d), (5, .slice (some ⟨g, 0, none⟩) m cap), (6, .int .u64 s.2.2.1), (13, .int .i64 m), (14, .int .i64 s.2.2.2)], [⟨g, row (s.2.1.map (Value.int .u32) ++ ex) 41⟩], [Ints .u32 b B d]⟩) (fun s => s.1) (k, a, 0, 0) ⟨h, hm.symm⟩ (Pw.enter ⟨rfl, rfl, rfl, rfl, rfl, trivial⟩ (fun _ h => allTail h)) ?_
    clear h
    rintro ⟨k, out, br, i⟩ ⟨h, hout⟩
    dsimp only at h hout ⊢
    obtain _ | k := k
    · cases h
    simp only [psephosref01_sub.l0] at h
    try refine Pw.run ?_
    refine Pw.condD rfl (fun c3 => ?_) (fun c3 => ?_)
    · rw [if_pos c3] at h
      try refine Pw.run ?_
      refine Pw.condD rfl (fun c6 => ?_) (fun c6 => ?_)
      · rw [if_pos c6] at h
        obtain ⟨c4, h⟩ := ite_none h
        obtain ⟨c5, h⟩ := ite_none h
        try refine Pw.run ?_
        refine Pw.list (Pw.index rfl rfl rfl rfl c4 c6 (fun w h => (fact0 h).has c4 c6) rfl rfl ?_)
        rintro bd rfl
        refine Pw.list (Pw.load1 rfl rfl (fun w hs => by first | exact (fact0 hs.all).cell (by first | assumption | omega) (by first | assumption | omega) | exact (fact1 hs.all).cell (by first | assumption | omega) (by first | assumption | omega) | exact (fact2 hs.all).cell (by first | assumption | omega) (by first | assumption | omega) | exact (fact3 hs.all).cell (by first | assumption | omega) (by first | assumption | omega)) rfl rfl ?_)
        try refine Pw.run ?_
        refine Pw.list (Pw.indexO rfl rfl rfl rfl c4 (by omega) rfl rfl ?_)
        refine Pw.list (Pw.loadX rfl rfl rfl (.head _) c4 c5 rfl rfl ?_)
        try refine Pw.run ?_
        refine Pw.condD rfl (fun c7 => ?_) (fun c7 => ?_)
        · rw [if_pos c7] at h
          try refine Pw.run ?_
          refine Pw.list (Pw.indexO rfl rfl rfl rfl c4 (by omega) rfl rfl ?_)
          refine Pw.list (Pw.loadX rfl rfl rfl (.head _) c4 c5 rfl rfl ?_)
          try refine Pw.run ?_
          refine Pw.list (Pw.indexO rfl rfl rfl rfl c4 (by omega) rfl rfl ?_)
          refine Pw.list (Pw.storeX rfl rfl rfl rfl rfl c4 c5 .head rfl ?_)
          try refine Pw.run ?_
          exact Pw.again (k, _, _, _) ⟨h, by rw [List.length_set]; exact hout⟩ (Nat.lt_succ_self _) ⟨rfl, rfl, rfl, rfl, rfl, trivial⟩ rfl (fun w h => h)
        · rw [if_neg c7] at h
          try refine Pw.run ?_
          refine Pw.list (Pw.indexO rfl rfl rfl rfl c4 (by omega) rfl rfl ?_)
          refine Pw.list (Pw.loadX rfl rfl rfl (.head _) c4 c5 rfl rfl ?_)
          try refine Pw.run ?_
          refine Pw.list (Pw.indexO rfl rfl rfl rfl c4 (by omega) rfl rfl ?_)
          refine Pw.list (Pw.storeX rfl rfl rfl rfl rfl c4 c5 .head rfl ?_)
          try refine Pw.run ?_
          exact Pw.again (k, _, _, _) ⟨h, by rw [List.length_set]; exact hout⟩ (Nat.lt_succ_self _) ⟨rfl, rfl, rfl, rfl, rfl, trivial⟩ rfl (fun w h => h)
      · rw [if_neg c6] at h
        obtain ⟨c4, h⟩ := ite_none h
        obtain ⟨c5, h⟩ := ite_none h
        try refine Pw.run ?_
        refine Pw.list (Pw.indexO rfl rfl rfl rfl c4 (by omega) rfl rfl ?_)
        refine Pw.list (Pw.loadX rfl rfl rfl (.head _) c4 c5 rfl rfl ?_)
        try refine Pw.run ?_
        refine Pw.condD rfl (fun c7 => ?_) (fun c7 => ?_)
        · rw [if_pos c7] at h
          try refine Pw.run ?_
          refine Pw.list (Pw.indexO rfl rfl rfl rfl c4 (by omega) rfl rfl ?_)
          refine Pw.list (Pw.loadX rfl rfl rfl (.head _) c4 c5 rfl rfl ?_)
          try refine Pw.run ?_
          refine Pw.list (Pw.indexO rfl rfl rfl rfl c4 (by omega) rfl rfl ?_)
          refine Pw.list (Pw.storeX rfl rfl rfl rfl rfl c4 c5 .head rfl ?_)
          try refine Pw.run ?_
          exact Pw.again (k, _, _, _) ⟨h, by rw [List.length_set]; exact hout⟩ (Nat.lt_succ_self _) ⟨rfl, rfl, rfl, rfl, rfl, trivial⟩ rfl (fun w h => h)
        · rw [if_neg c7] at h
          try refine Pw.run ?_
          refine Pw.list (Pw.indexO rfl rfl rfl rfl c4 (by omega) rfl rfl ?_)
          refine Pw.list (Pw.loadX rfl rfl rfl (.head _) c4 c5 rfl rfl ?_)
          try refine Pw.run ?_
          refine Pw.list (Pw.indexO rfl rfl rfl rfl c4 (by omega) rfl rfl ?_)
          refine Pw.list (Pw.storeX rfl rfl rfl rfl rfl c4 c5 .head rfl ?_)
          try refine Pw.run ?_
          exact Pw.again (k, _, _, _) ⟨h, by rw [List.length_set]; exact hout⟩ (Nat.lt_succ_self _) ⟨rfl, rfl, rfl, rfl, rfl, trivial⟩ rfl (fun w h => h)
    · rw [if_neg c3] at h
      obtain ⟨t, ht, h⟩ := Option.bind_eq_some_iff.1 h
      have e1 := rtrim_some (by omega) ht
      subst e1
      obtain rfl := Option.some.inj h
      refine freeHead ?_
      try refine Pw.run ?_
      refine Pw.re (d := 49) (v' := sl out (some ⟨g, 0, none⟩, cap)) rfl (congrArg (fun m => Value.slice (some ⟨g, 0, none⟩) m cap) hout.symm) ?_
      refine Pw.list (Pw.call (rtrim_ct out (some ⟨g, 0, none⟩, cap) (by omega)) rfl rfl rfl (by kernel_rfl) rfl rfl (fun w h => ints_of_row (fact0 h) (by omega) (by simp only [maxLen]; omega)) ?_)
      intro z1 _
      try refine Pw.run ?_
      exact Pw.ret_ (x := z1) (.tmp rfl .nil) rfl trivial (fun w h => fact0 h)
  · obtain rfl := List.eq_nil_of_length_eq_zero h0
    obtain _ | k := k
    · cases h
    simp only [psephosref01_sub.l0] at h
    rw [if_neg (by simp)] at h
    obtain ⟨t, ht, h⟩ := Option.bind_eq_some_iff.1 h
    have e1 := rtrim_some (by simp) ht
    subst e1
    obtain rfl := Option.some.inj h
    try refine Pw.run ?_
    refine Pw.rounds 1 ?_
    refine Pw.round ?_
    try refine Pw.run ?_
    refine Pw.list (Pw.call (rtrim_ct [] (some ⟨g, 0, none⟩, 0) (by simp)) rfl rfl rfl (by kernel_rfl) rfl rfl (fun w h => Rows.nil _ _ _ _ _) ?_)
    intro z1 _
    try refine Pw.run ?_
    exact Pw.ret_ (x := z1) (.tmp rfl .nil) rfl trivial (fun w h => fact0 h)
end Go.Proofs.Wk
/- Walks of the reference: bits, shifting, halving. -/
namespace Go.Proofs.Wk
open Go.RowKit
set_option maxRecDepth 100000
attribute [local irreducible] Pw OpG
set_option linter.unusedVariables false
set_option linter.unusedSimpArgs false
theorem rbits_ct (a : List Int) (x : Option Addr × Nat) (k : Nat) (r : Int) (h : psephosref01_bits.f k a = some r) (hl : a.length < 4194304) :
    Ct Try.prog 80 #[sl a x] (S1 a x) (fun _ : Unit => .int .i64 r) Tt (fun _ _ => True) := by
  obtain ⟨A, c⟩ := x
  unfold psephosref01_bits.f at h
  refine Ct.start Try.func80 rfl rfl (slots_of rfl slots1) (fun D w0 => ?_)
  try refine Pw.run ?_
  refine Pw.loopJ (σ := Nat × Int) (fun s => psephosref01_bits.l0 s.1 a s.2 = some r) (fun s => ⟨[(0, .slice A a.length c), (3, .int .i64 s.2)], [], [Ints .u32 a A c]⟩) (fun s => s.1) (_, _) h (Pw.enter ⟨rfl, rfl, trivial⟩ (fun _ h => h)) ?_
  clear h
  rintro ⟨k, n⟩ h
  dsimp only at h ⊢
  obtain _ | k := k
  · cases h
  simp only [psephosref01_bits.l0] at h
  try refine Pw.run ?_
  refine Pw.split 9 rfl (fun c1 => ?_) (fun c1 => ?_)
  · rw [if_pos c1] at h
    obtain ⟨c2, h⟩ := ite_none h
    obtain ⟨c3, h⟩ := ite_none h
    obtain ⟨c4, h⟩ := ite_none h
    try refine Pw.run ?_
    refine Pw.list (Pw.index rfl rfl rfl rfl c2 c3 (fun w h => (fact0 h).has c2 c3) rfl rfl ?_)
    rintro ad rfl
    refine Pw.list (Pw.load1 rfl rfl (fun w hs => by first | exact (fact0 hs.all).cell (by first | assumption | omega) (by first | assumption | omega) | exact (fact1 hs.all).cell (by first | assumption | omega) (by first | assumption | omega) | exact (fact2 hs.all).cell (by first | assumption | omega) (by first | assumption | omega) | exact (fact3 hs.all).cell (by first | assumption | omega) (by first | assumption | omega)) rfl rfl ?_)
    try refine Pw.run ?_
    refine Pw.list (Pw.shr rfl rfl rfl c4 rfl rfl ?_)
    try refine Pw.run ?_
    refine Pw.condD rfl (fun c5 => ?_) (fun c5 => ?_)
    · rw [if_pos c5] at h
      try refine Pw.run ?_
      exact Pw.again (k, _) h (Nat.lt_succ_self _) ⟨rfl, rfl, trivial⟩ rfl (fun w h => h)
    · rw [if_neg c5] at h
      obtain rfl := Option.some.inj h
      try refine Pw.run ?_
      exact Pw.ret_ (x := ()) (.tmp rfl .nil) rfl trivial (fun w h => by trivial)
  · rw [if_neg c1] at h
    obtain rfl := Option.some.inj h
    try refine Pw.run ?_
    exact Pw.ret_ (x := ()) (.tmp rfl .nil) rfl trivial (fun w h => by trivial)
theorem rshifted_ct (a : List Int) (x : Option Addr × Nat) (s : Int) (k : Nat) (r : List Int) (h : psephosref01_shifted.f k a s = some r) (hs : 0 ≤ s) (hs1 : s < 134217728) (hl : a.length < 1048576) :
    Ct Try.prog 81 #[sl a x, .int .i64 s] (S1 a x) (fun z => sl r z) Tt (fun z => S1 r z) := by
  obtain ⟨A, c⟩ := x
  unfold psephosref01_shifted.f at h
  obtain ⟨c1, h⟩ := ite_none h
  obtain ⟨c2, h⟩ := ite_none h
  have e0 : Int.tdiv s 32 = s / 32 := Int.tdiv_eq_ediv_of_nonneg hs
  obtain ⟨m, hm⟩ : ∃ m, m = a.length + (s / 32).toNat + 1 := ⟨_, rfl⟩
  have e1 : wrap64 (wrap64 ((a.length : Int) + wrap64 (Int.tdiv s 32)) + 1) = (m : Int) := by rw [e0, wi64 (n := s / 32) (by omega) (by omega), wi64 (n := (a.length : Int) + s / 32) (by omega) (by omega), wi64 (by omega) (by omega)]; omega
  rw [e1, Int.toNat_natCast] at h
  refine Ct.start Try.func81 rfl rfl (slots_of rfl slots2) (fun D w0 => ?_)
  try refine Pw.run ?_
  refine Pw.re (d := 13) (v' := .int .i64 (m : Int)) rfl (by rw [e1]) ?_
  refine Pw.list (Pw.make rfl rfl rfl rfl rfl rfl (show 4 * m ≤ _ by omega) (by simp only [maxLen]; omega) rfl rfl (fun g => ?_))
  rw [zeros_map]
  try refine Pw.run ?_
  refine Pw.loopJ (σ := Nat × List Int × Int) (fun t => psephosref01_shifted.l0 t.1 a s t.2.1 (a.length : Int) t.2.2 = some r ∧ t.2.1.length = m)
    (fun t => ⟨[(0, .slice A a.length c), (1, .int .i64 s), (5, .slice (some ⟨g, 0, none⟩) m m), (16, .int .i64 a.length), (17, .int .i64 t.2.2)], [⟨g, row (t.2.1.map (Value.int .u32)) 41⟩], [Ints .u32 a A c]⟩) (fun s => s.1) (k, _, 0) ⟨h, by simp⟩ (Pw.enter ⟨rfl, rfl, rfl, rfl, rfl, trivial⟩ (fun _ h => h)) ?_
  clear h
  rintro ⟨k, out, i⟩ ⟨h, hout⟩
  dsimp only at h hout ⊢
  obtain _ | k := k
  · cases h
  simp only [psephosref01_shifted.l0] at h
  try refine Pw.run ?_
  refine Pw.condD rfl (fun c3 => ?_) (fun c3 => ?_)
  · rw [if_pos c3] at h
    obtain ⟨c4, h⟩ := ite_none h
    obtain ⟨c5, h⟩ := ite_none h
    obtain ⟨c6, h⟩ := ite_none h
    obtain ⟨c7, h⟩ := ite_none h
    obtain ⟨c8, h⟩ := ite_none h
    obtain ⟨c9, h⟩ := ite_none h
    obtain ⟨c10, h⟩ := ite_none h
    try refine Pw.run ?_
    refine Pw.list (Pw.index rfl rfl rfl rfl c4 c5 (fun w h => (fact0 h).has c4 c5) rfl rfl ?_)
    rintro ad rfl
    refine Pw.list (Pw.load1 rfl rfl (fun w hs => by first | exact (fact0 hs.all).cell (by first | assumption | omega) (by first | assumption | omega) | exact (fact1 hs.all).cell (by first | assumption | omega) (by first | assumption | omega) | exact (fact2 hs.all).cell (by first | assumption | omega) (by first | assumption | omega) | exact (fact3 hs.all).cell (by first | assumption | omega) (by first | assumption | omega)) rfl rfl ?_)
    try refine Pw.run ?_
    refine Pw.list (Pw.shl rfl rfl rfl c6 rfl rfl ?_)
    try refine Pw.run ?_
    refine Pw.list (Pw.indexO rfl rfl rfl rfl c7 (by omega) rfl rfl ?_)
    refine Pw.list (Pw.loadI rfl rfl rfl (.head _) c7 c8 rfl rfl ?_)
    try refine Pw.run ?_
    refine Pw.list (Pw.indexO rfl rfl rfl rfl c7 (by omega) rfl rfl ?_)
    refine Pw.list (Pw.storeI rfl rfl rfl rfl rfl c7 c8 .head rfl ?_)
    try refine Pw.run ?_
    refine Pw.list (Pw.indexO rfl rfl rfl rfl c9 (by omega) rfl rfl ?_)
    refine Pw.list (Pw.storeI rfl rfl rfl rfl rfl c9 (by rw [List.length_set]; exact c10) .head rfl ?_)
    try refine Pw.run ?_
    exact Pw.again (k, _, _) ⟨h, by rw [List.length_set, List.length_set]; exact hout⟩ (Nat.lt_succ_self _) ⟨rfl, rfl, rfl, rfl, rfl, trivial⟩ rfl (fun w h => h)
  · rw [if_neg c3] at h
    obtain ⟨t, ht, h⟩ := Option.bind_eq_some_iff.1 h
    have e2 := rtrim_some (by omega) ht
    subst e2
    obtain rfl := Option.some.inj h
    subst hout
    refine freeHead ?_
    try refine Pw.run ?_
    refine Pw.list (Pw.call (rtrim_ct out (some ⟨g, 0, none⟩, out.length) (by omega)) rfl rfl rfl (by kernel_rfl) rfl rfl (fun w h => ints_of_row' (fact0 h) (Nat.le_refl _) (by simp only [maxLen]; omega)) ?_)
    intro z _
    try refine Pw.run ?_
    exact Pw.ret_ (x := z) (.tmp rfl .nil) rfl trivial (fun w h => fact0 h)
end Go.Proofs.Wk
/- Walks of the reference: halving, dividing, the greatest common divisor. -/
namespace Go.Proofs.Wk
open Go.RowKit
set_option maxRecDepth 100000
attribute [local irreducible] Pw OpG
set_option linter.unusedVariables false
set_option linter.unusedSimpArgs false
theorem rhalf_ct (a : List Int) (x : Option Addr × Nat) (k : Nat) (r : List Int) (h : psephosref01_half.f k a = some r) (hl : a.length < 4194304) :
    Ct Try.prog 83 #[sl a x] (S1 a x) (fun z : Option Addr × Nat => sl r z) Tt (fun z => S1 r z) := by
  obtain ⟨A, c⟩ := x
  unfold psephosref01_half.f at h
  rw [Option.bind_some, if_pos (by simp; omega), Option.bind_some, List.nil_append] at h
  refine Ct.start Try.func83 rfl rfl (slots_of rfl slots1) (fun D w0 => ?_)
  try refine Pw.run ?_
  refine Pw.list (Pw.lit0 rfl rfl rfl rfl (fun g => ?_))
  try refine Pw.run ?_
  refine Pw.list (Pw.appendCopy (news := a.map (Value.int .u32)) rfl rfl rfl rfl rfl rfl (show (a.map (Value.int .u32)).length = a.length * 1 by simp) (fun w hs => (fact0 hs.all).cells) rfl (by simp only [maxLen]; omega) (show a.length * 4 ≤ _ by omega) (.head _) rfl rfl (fun g cap ex h1 h2 => ?_) (fun h0 => Pw.drop ?_))
  · refine Pw.perm (.swap ..) (Pw.drop ?_)
    try refine Pw.run ?_
    obtain ⟨m, hm⟩ : ∃ m, m = a.length := ⟨_, rfl⟩
    refine Pw.loopJ (σ := Nat × List Int × Int) (fun s => psephosref01_half.l0 s.1 a s.2.1 (m : Int) s.2.2 = some r ∧ s.2.1.length = m)
      (fun s => ⟨[(0, .slice A a.length c), (3, .slice (some ⟨g, 0, none⟩) m cap), (9, .int .i64 m), (10, .int .i64 s.2.2)], [⟨g, row (s.2.1.map (Value.int .u32) ++ ex) 41⟩], [Ints .u32 a A c]⟩) (fun s => s.1) (k, a, 0) ⟨by rw [hm]; exact h, hm.symm⟩ (by rw [hm]; exact Pw.enter ⟨rfl, rfl, rfl, rfl, trivial⟩ (fun _ h => h)) ?_
    clear h
    rintro ⟨k, out, i⟩ ⟨h, hout⟩
    dsimp only at h hout ⊢
    obtain _ | k := k
    · cases h
    simp only [psephosref01_half.l0] at h
    try refine Pw.run ?_
    refine Pw.condD rfl (fun c3 => ?_) (fun c3 => ?_)
    · rw [if_pos c3] at h
      obtain ⟨c4, h⟩ := ite_none h
      obtain ⟨c5, h⟩ := ite_none h
      rw [Option.bind_some] at h
      try refine Pw.run ?_
      refine Pw.list (Pw.indexO rfl rfl rfl rfl c4 (by omega) rfl rfl ?_)
      refine Pw.list (Pw.loadX rfl rfl rfl (.head _) c4 c5 rfl rfl ?_)
      try refine Pw.run ?_
      refine Pw.list (Pw.indexO rfl rfl rfl rfl c4 (by omega) rfl rfl ?_)
      refine Pw.list (Pw.storeX rfl rfl rfl rfl rfl c4 c5 .head rfl ?_)
      obtain ⟨o1, ho1⟩ : ∃ o1, out.set i.toNat (rd out i / 2) = o1 := ⟨_, rfl⟩
      have hl1 : o1.length = m := by rw [← ho1, List.length_set]; exact hout
      rw [ho1] at h ⊢
      try refine Pw.run ?_
      refine Pw.condD rfl (fun c6 => ?_) (fun c6 => ?_)
      · rw [if_pos c6] at h
        obtain ⟨c7, h⟩ := ite_none h
        refine Pw.use (p := A.isSome = true) (fun w h => (fact0 h).has c7 c6) (fun hA => ?_)
        obtain ⟨ad, rfl⟩ := some_of hA
        try refine Pw.run ?_
        refine Pw.drawnG mixed rfl rfl ?_
        refine Pw.takeP 0 (nb 15 1) rfl rfl rfl rfl (by kernel_rfl) np sf ?_
        refine Pw.takeP 1 (nb 15 3) rfl rfl rfl rfl (by kernel_rfl) np sf ?_
        refine Pw.takeP 2 (nb 15 7) rfl rfl rfl rfl (by kernel_rfl) np sf ?_
        refine Pw.takeP 3 (nb 15 15) rfl rfl rfl rfl (by kernel_rfl) np sf ?_
        refine Pw.takeIx 4 (nb 15 31) rfl rfl rfl rfl rfl (by first | assumption | omega) (by first | assumption | omega) rfl rfl (by kernel_rfl) np sf ?_
        refine Pw.takeP 6 (nb 15 95) rfl rfl rfl rfl (by kernel_rfl) np sf ?_
        refine Pw.takeP 7 (nb 15 223) rfl rfl rfl rfl (by kernel_rfl) np sf ?_
        refine Pw.takeP 8 (nb 15 479) rfl rfl rfl rfl (by kernel_rfl) np sf ?_
        refine Pw.takeIx 9 (nb 15 991) rfl rfl rfl rfl rfl (by first | assumption | omega) (by first | assumption | omega) rfl rfl (by kernel_rfl) np sf ?_
        refine Pw.takeLd 10 (nb 15 2015) rfl rfl rfl (fun w hS => by first | exact own_cell (fact0 hS) (by first | assumption | omega) (by first | assumption | omega) | exact own_cellX (fact0 hS) (by first | assumption | omega) (by first | assumption | omega) | exact (fact0 hS).cell (by first | assumption | omega) (by first | assumption | omega) | exact (fact1 hS).cell (by first | assumption | omega) (by first | assumption | omega) | exact (fact2 hS).cell (by first | assumption | omega) (by first | assumption | omega) | exact (fact3 hS).cell (by first | assumption | omega) (by first | assumption | omega)) rfl rfl (by kernel_rfl) np sf ?_
        refine Pw.takeP 11 (nb 15 4063) rfl rfl rfl rfl (by kernel_rfl) np sf ?_
        refine Pw.one 5 (nb 15 4095) rfl (by kernel_rfl) ?_
        -- load Op.load 41 (Operand.tmp 30)
        refine Pw.re (d := 30) (v' := .pointer (some ⟨g, 0 + i.toNat * 1, none⟩)) rfl (congrArg (fun z => Value.pointer (some z)) (add_none g 0 (i.toNat * 1))) ?_
        refine Pw.loadX rfl rfl rfl (.head _) c4 (by omega) rfl rfl (Pw.held (fun w h => h.all) ?_)
        refine Pw.takeP 12 (nb 15 8191) rfl rfl rfl rfl (by kernel_rfl) np sf ?_
        refine Pw.takeIx 13 (nb 15 16383) rfl rfl rfl rfl rfl (by first | assumption | omega) (by first | assumption | omega) rfl rfl (by kernel_rfl) np sf ?_
        refine Pw.one 14 (nb 15 32767) rfl (by kernel_rfl) ?_
        -- eff Op.store 41 (Operand.tmp 39) (Operand.tmp 38)
        refine Pw.re (d := 39) (v' := .pointer (some ⟨g, 0 + i.toNat * 1, none⟩)) rfl (congrArg (fun z => Value.pointer (some z)) (add_none g 0 (i.toNat * 1))) ?_
        refine Pw.storeX rfl rfl rfl rfl rfl c4 (by omega) .head rfl (Pw.held (fun w h => h.all) ?_)
        refine Pw.done (by kernel_rfl) ?_
        try refine Pw.run ?_
        exact Pw.again (k, _, _) ⟨h, by rw [List.length_set]; exact hl1⟩ (Nat.lt_succ_self _) ⟨rfl, rfl, rfl, rfl, trivial⟩ rfl (fun w h => h)
      · rw [if_neg c6] at h
        try refine Pw.run ?_
        exact Pw.again (k, _, _) ⟨h, hl1⟩ (Nat.lt_succ_self _) ⟨rfl, rfl, rfl, rfl, trivial⟩ rfl (fun w h => h)
    · rw [if_neg c3] at h
      obtain ⟨t, ht, h⟩ := Option.bind_eq_some_iff.1 h
      have e1 := rtrim_some (by omega) ht
      subst e1
      obtain rfl := Option.some.inj h
      refine freeHead ?_
      try refine Pw.run ?_
      refine Pw.re (d := 41) (v' := sl out (some ⟨g, 0, none⟩, cap)) rfl (congrArg (fun m => Value.slice (some ⟨g, 0, none⟩) m cap) hout.symm) ?_
      refine Pw.list (Pw.call (rtrim_ct out (some ⟨g, 0, none⟩, cap) (by omega)) rfl rfl rfl (by kernel_rfl) rfl rfl (fun w h => ints_of_row (fact0 h) (by omega) (by simp only [maxLen]; omega)) ?_)
      intro z1 _
      try refine Pw.run ?_
      exact Pw.ret_ (x := z1) (.tmp rfl .nil) rfl trivial (fun w h => fact0 h)
  · obtain rfl := List.eq_nil_of_length_eq_zero h0
    obtain _ | k := k
    · cases h
    simp only [psephosref01_half.l0] at h
    rw [if_neg (by simp)] at h
    obtain ⟨t, ht, h⟩ := Option.bind_eq_some_iff.1 h
    have e1 := rtrim_some (by simp) ht
    subst e1
    obtain rfl := Option.some.inj h
    try refine Pw.run ?_
    refine Pw.rounds 1 ?_
    refine Pw.round ?_
    try refine Pw.run ?_
    refine Pw.list (Pw.call (rtrim_ct [] (some ⟨g, 0, none⟩, 0) (by simp)) rfl rfl rfl (by kernel_rfl) rfl rfl (fun w h => Rows.nil _ _ _ _ _) ?_)
    intro z1 _
    try refine Pw.run ?_
    exact Pw.ret_ (x := z1) (.tmp rfl .nil) rfl trivial (fun w h => fact0 h)
theorem trimL_le : ∀ l : List Int, (trimL l).length ≤ l.length
  | [] => Nat.le_refl _
  | x :: xs => by
    have := trimL_le xs
    unfold trimL; split
    · simp
    · simp only [List.length_cons]; omega
theorem sub_len0 : ∀ (k : Nat) (b out : List Int) (br n i : Int) (r : List Int), psephosref01_sub.l0 k b out br n i = some r → out.length < 1099511627776 → r.length ≤ out.length
  | 0, b, out, br, n, i, r, h, hl => by cases h
  | k + 1, b, out, br, n, i, r, h, hl => by
    simp only [psephosref01_sub.l0] at h
    split at h
    · split at h
      · obtain ⟨_, h⟩ := ite_none h
        obtain ⟨_, h⟩ := ite_none h
        split at h <;> (have := sub_len0 k _ _ _ _ _ _ h (by rw [List.length_set]; exact hl); rw [List.length_set] at this; exact this)
      · obtain ⟨_, h⟩ := ite_none h
        obtain ⟨_, h⟩ := ite_none h
        split at h <;> (have := sub_len0 k _ _ _ _ _ _ h (by rw [List.length_set]; exact hl); rw [List.length_set] at this; exact this)
    · obtain ⟨t, ht, h⟩ := Option.bind_eq_some_iff.1 h
      rw [← Option.some.inj h, rtrim_some hl ht]; exact trimL_le _
theorem sub_len {k : Nat} {a b r : List Int} (h : psephosref01_sub.f k a b = some r) (hl : a.length < 1099511627776) : r.length ≤ a.length := by
  unfold psephosref01_sub.f at h
  rw [Option.bind_some, if_pos (by simp; omega), Option.bind_some, List.nil_append] at h
  exact sub_len0 _ _ _ _ _ _ _ h hl
theorem half_len0 : ∀ (k : Nat) (a out : List Int) (n i : Int) (r : List Int), psephosref01_half.l0 k a out n i = some r → out.length < 1099511627776 → r.length ≤ out.length
  | 0, a, out, n, i, r, h, hl => by cases h
  | k + 1, a, out, n, i, r, h, hl => by
    simp only [psephosref01_half.l0] at h
    split at h
    · obtain ⟨_, h⟩ := ite_none h
      obtain ⟨_, h⟩ := ite_none h
      rw [Option.bind_some] at h
      split at h
      · obtain ⟨_, h⟩ := ite_none h
        have := half_len0 k _ _ _ _ _ h (by rw [List.length_set, List.length_set]; exact hl)
        rw [List.length_set, List.length_set] at this; exact this
      · have := half_len0 k _ _ _ _ _ h (by rw [List.length_set]; exact hl)
        rw [List.length_set] at this; exact this
    · obtain ⟨t, ht, h⟩ := Option.bind_eq_some_iff.1 h
      rw [← Option.some.inj h, rtrim_some hl ht]; exact trimL_le _
theorem half_len {k : Nat} {a r : List Int} (h : psephosref01_half.f k a = some r) (hl : a.length < 4194304) : r.length ≤ a.length := by
  unfold psephosref01_half.f at h
  rw [Option.bind_some, if_pos (by simp; omega), Option.bind_some, List.nil_append] at h
  exact half_len0 _ _ _ _ _ _ h (by omega)
theorem shifted_len0 : ∀ (k : Nat) (a : List Int) (s : Int) (out : List Int) (n i : Int) (r : List Int), psephosref01_shifted.l0 k a s out n i = some r → out.length < 1099511627776 → r.length ≤ out.length
  | 0, a, s, out, n, i, r, h, hl => by cases h
  | k + 1, a, s, out, n, i, r, h, hl => by
    simp only [psephosref01_shifted.l0] at h
    split at h
    · obtain ⟨_, h⟩ := ite_none h
      obtain ⟨_, h⟩ := ite_none h
      obtain ⟨_, h⟩ := ite_none h
      obtain ⟨_, h⟩ := ite_none h
      obtain ⟨_, h⟩ := ite_none h
      obtain ⟨_, h⟩ := ite_none h
      obtain ⟨_, h⟩ := ite_none h
      have := shifted_len0 k _ _ _ _ _ _ h (by rw [List.length_set, List.length_set]; exact hl)
      rw [List.length_set, List.length_set] at this; exact this
    · obtain ⟨t, ht, h⟩ := Option.bind_eq_some_iff.1 h
      rw [← Option.some.inj h, rtrim_some hl ht]; exact trimL_le _
theorem shifted_len {k : Nat} {a r : List Int} {s : Int} (h : psephosref01_shifted.f k a s = some r) (hs : 0 ≤ s) (hs1 : s < 134217728) (hl : a.length < 1048576) : r.length ≤ a.length + (s / 32).toNat + 1 := by
  unfold psephosref01_shifted.f at h
  obtain ⟨_, h⟩ := ite_none h
  obtain ⟨_, h⟩ := ite_none h
  rw [Int.tdiv_eq_ediv_of_nonneg hs, wi64 (n := s / 32) (by omega) (by omega), wi64 (n := (a.length : Int) + s / 32) (by omega) (by omega), wi64 (by omega) (by omega)] at h
  have := shifted_len0 _ _ _ _ _ _ _ h (by rw [List.length_replicate]; omega)
  rw [List.length_replicate] at this; omega
theorem bits_len0 : ∀ (k : Nat) (a : List Int) (n r : Int), psephosref01_bits.l0 k a n = some r → 0 ≤ n → n < 134217728 → 0 ≤ r ∧ r ≤ n
  | 0, a, n, r, h, h0, h1 => by cases h
  | k + 1, a, n, r, h, h0, h1 => by
    simp only [psephosref01_bits.l0] at h
    split at h
    · obtain ⟨_, h⟩ := ite_none h
      obtain ⟨_, h⟩ := ite_none h
      obtain ⟨_, h⟩ := ite_none h
      split at h
      · rw [wi64 (n := n - 1) (by omega) (by omega)] at h
        have := bits_len0 k _ _ _ h (by omega) (by omega); omega
      · have := Option.some.inj h; omega
    · have := Option.some.inj h; omega
theorem bits_len {k : Nat} {a : List Int} {r : Int} (h : psephosref01_bits.f k a = some r) (hl : a.length < 1048576) : 0 ≤ r ∧ r ≤ 32 * a.length := by
  unfold psephosref01_bits.f at h
  rw [wi64 (by omega) (by omega)] at h
  exact bits_len0 _ _ _ _ h (by omega) (by omega)
theorem rdivModF_ct (a b : List Int) (x y : Option Addr × Nat) (k : Nat) (Q M : List Int) (h : psephosref01_divMod.f k a b = some (Q, M)) (hl : a.length < 1048576) (hl' : b.length < 1048576) :
    Ct Try.prog 71 #[sl a x, sl b y] (fun W => S1 a x W ∧ S1 b y W) (fun z : (Option Addr × Nat) × (Option Addr × Nat) => .tuple #[sl Q z.1, sl M z.2]) Tt (fun z W => S1 Q z.1 W ∧ S1 M z.2 W) := by
  unfold psephosref01_divMod.f at h
  obtain ⟨m0, h1, h⟩ := Option.bind_eq_some_iff.1 h
  obtain ⟨n0, h2, h⟩ := Option.bind_eq_some_iff.1 h
  have b1 := bits_len h1 hl
  have b2 := bits_len h2 hl'
  refine Ct.start Try.func71 rfl rfl (slots_of rfl slots2) (fun D w0 => Pw.facts two2 ?_)
  try refine Pw.run ?_
  refine Pw.list (Pw.call (rbits_ct a x k m0 h1 (by omega)) rfl rfl rfl (by kernel_rfl) rfl rfl (fun w h => fact0 h) ?_)
  intro _ _
  try refine Pw.run ?_
  refine Pw.list (Pw.call (rbits_ct b y k n0 h2 (by omega)) rfl rfl rfl (by kernel_rfl) rfl rfl (fun w h => fact2 h) ?_)
  intro _ _
  have hn1 : wrap64 (m0 - n0) = m0 - n0 := wi64 (by omega) (by omega)
  try refine Pw.run ?_
  generalize wrap64 (m0 - n0) = n at h hn1 ⊢
  refine Pw.condD rfl (fun c1 => ?_) (fun c1 => ?_)
  · rw [if_pos c1] at h
    obtain ⟨t, ht, h⟩ := Option.bind_eq_some_iff.1 h
    have e1 := rtrim_some (by omega) ht
    subst e1
    obtain ⟨rfl, rfl⟩ := Prod.mk.inj (Option.some.inj h)
    try refine Pw.run ?_
    refine Pw.list (Pw.call (rtrim_ct a x (by omega)) rfl rfl rfl (by kernel_rfl) rfl rfl (fun w h => fact2 h) ?_)
    intro z _
    try refine Pw.run ?_
    exact Pw.ret_ (x := ((none, 0), z)) (.tmp rfl (.tmp rfl .nil)) rfl trivial (fun w h => ⟨Rows.nil _ _ _ _ _, fact0 h⟩)
  rw [if_neg c1] at h
  obtain ⟨c2, h⟩ := ite_none h
  obtain ⟨c3, h⟩ := ite_none h
  obtain ⟨r0, h3, h⟩ := Option.bind_eq_some_iff.1 h
  obtain ⟨x0, h4, h⟩ := Option.bind_eq_some_iff.1 h
  obtain rfl := rtrim_some (by omega) h3
  have l1 := trimL_le a
  have l2 := shifted_len h4 (by omega) (by omega) hl'
  obtain ⟨nq, hnq⟩ : ∃ nq, nq = (n / 32).toNat + 1 := ⟨_, rfl⟩
  have e1 : wrap64 (wrap64 (Int.tdiv n 32) + 1) = (nq : Int) := by rw [Int.tdiv_eq_ediv_of_nonneg (by omega), wi64 (n := n / 32) (by omega) (by omega), wi64 (by omega) (by omega)]; omega
  rw [e1, Int.toNat_natCast] at h
  refine Pw.facts (G' := [S1 a x, S1 b y]) (fun w h => allCons (fact2 h) (allCons (fact3 h) allNil)) ?_
  try refine Pw.run ?_
  refine Pw.join (σ := Nat × (Option Addr × Nat)) (fun _ => True) (fun s => ⟨[(1, sl b y), (6, .int .i64 n), (7, .slice (some ⟨s.1, 0, none⟩) nq nq), (8, sl (trimL a) s.2)], [⟨s.1, row ((List.replicate nq (0 : Int)).map (Value.int .u32)) 41⟩], [S1 (trimL a) s.2, S1 b y]⟩) ?_ ?_
  · skip
    refine Pw.drawnG mixed rfl rfl ?_
    refine Pw.takeP 0 (nb 8 1) rfl rfl rfl rfl (by kernel_rfl) np sf ?_
    refine Pw.takeP 1 (nb 8 3) rfl rfl rfl rfl (by kernel_rfl) np sf ?_
    refine Pw.takeP 2 (nb 8 7) rfl rfl rfl rfl (by kernel_rfl) np sf ?_
    refine Pw.takeP 4 (nb 8 23) rfl rfl rfl rfl (by kernel_rfl) np sf ?_
    refine Pw.two 3 5 (nb 8 31) (nb 8 55) rfl rfl (by kernel_rfl) ?_ ?_
    · skip
      refine Pw.re (d := 22) (v' := .int .i64 (nq : Int)) rfl (by rw [e1]) ?_
      refine Pw.make rfl rfl rfl rfl rfl rfl (show 4 * nq ≤ _ by omega) (by simp only [maxLen]; omega) rfl rfl (fun g => ?_)
      refine Pw.held sf ?_
      refine Pw.one 5 (nb 8 63) rfl (by kernel_rfl) ?_
      refine Pw.call (rtrim_ct a x (by omega)) rfl rfl rfl (by kernel_rfl) rfl rfl (fun w h => (hv w h)) ?_
      intro z _
      refine Pw.held sf ?_
      refine Pw.takeP 6 (nb 8 127) rfl rfl rfl rfl (by kernel_rfl) np sf ?_
      refine Pw.takeP 7 (nb 8 255) rfl rfl rfl rfl (by kernel_rfl) np sf ?_
      refine Pw.done (by kernel_rfl) ?_
      rw [zeros_map]
      exact Pw.arrive (g, z) trivial ⟨rfl, rfl, rfl, rfl, trivial⟩ rfl (fun w h => allCons (hv w h) (allCons (hv w h) allNil))
    · skip
      refine Pw.call (rtrim_ct a x (by omega)) rfl rfl rfl (by kernel_rfl) rfl rfl (fun w h => (hv w h)) ?_
      intro z _
      refine Pw.held sf ?_
      refine Pw.one 3 (nb 8 63) rfl (by kernel_rfl) ?_
      refine Pw.re (d := 22) (v' := .int .i64 (nq : Int)) rfl (by rw [e1]) ?_
      refine Pw.make rfl rfl rfl rfl rfl rfl (show 4 * nq ≤ _ by omega) (by simp only [maxLen]; omega) rfl rfl (fun g => ?_)
      refine Pw.held sf ?_
      refine Pw.takeP 6 (nb 8 127) rfl rfl rfl rfl (by kernel_rfl) np sf ?_
      refine Pw.takeP 7 (nb 8 255) rfl rfl rfl rfl (by kernel_rfl) np sf ?_
      refine Pw.done (by kernel_rfl) ?_
      rw [zeros_map]
      exact Pw.arrive (g, z) trivial ⟨rfl, rfl, rfl, rfl, trivial⟩ rfl (fun w h => allCons (hv w h) (allCons (hv w h) allNil))
  rintro ⟨gq, zr⟩ _
  dsimp only
  try refine Pw.run ?_
  refine Pw.list (Pw.call (rshifted_ct b y n k x0 h4 (by omega) (by omega) hl') rfl rfl rfl (by kernel_rfl) rfl rfl (fun w h => fact1 h) ?_)
  intro zx _
  try refine Pw.run ?_
  refine Pw.loopJ (σ := Nat × List Int × (List Int × (Option Addr × Nat)) × (List Int × (Option Addr × Nat)) × Int) (fun t => psephosref01_divMod.l0 t.1 t.2.1 t.2.2.1.1 t.2.2.2.1.1 t.2.2.2.2 = some (Q, M) ∧ t.2.1.length = nq ∧ t.2.2.1.1.length < 4194304 ∧ t.2.2.2.1.1.length < 4194304)
    (fun t => ⟨[(7, .slice (some ⟨gq, 0, none⟩) nq nq), (8, sl t.2.2.1.1 t.2.2.1.2), (9, sl t.2.2.2.1.1 t.2.2.2.1.2), (10, .int .i64 t.2.2.2.2)], [⟨gq, row (t.2.1.map (Value.int .u32)) 41⟩], [S1 t.2.2.1.1 t.2.2.1.2, S1 t.2.2.2.1.1 t.2.2.2.1.2]⟩) (fun s => s.1) (k, _, (_, zr), (x0, zx), n) ⟨h, by simp, by show (trimL a).length < _; omega, by show x0.length < _; omega⟩ (Pw.enter ⟨rfl, rfl, rfl, rfl, trivial⟩ (fun _ h => allCons (fact1 h) (allCons (fact0 h) allNil))) ?_
  have hq2 : nq < 8388608 := by omega
  clear h h1 h2 h4 l1 l2 e1 hn1 c1 c2 c3 hnq
  rintro ⟨k, q, ⟨r, zr⟩, ⟨x, zx⟩, i⟩ ⟨h, hq, hr, hx⟩
  dsimp only at h hq hr hx ⊢
  obtain _ | k := k
  · cases h
  simp only [psephosref01_divMod.l0] at h
  try refine Pw.run ?_
  refine Pw.condD rfl (fun c1 => ?_) (fun c1 => ?_)
  · rw [if_pos c1] at h
    obtain ⟨cm, h1, h⟩ := Option.bind_eq_some_iff.1 h
    try refine Pw.run ?_
    refine Pw.list (Pw.call (rcmpF_ct r x zr zx k cm h1) rfl rfl rfl (by kernel_rfl) rfl rfl (fun w h => ⟨fact0 h, fact1 h⟩) ?_)
    intro _ _
    try refine Pw.run ?_
    refine Pw.condD rfl (fun c2 => ?_) (fun c2 => ?_)
    · rw [if_pos c2] at h
      obtain ⟨r2, h2, h⟩ := Option.bind_eq_some_iff.1 h
      obtain ⟨d1, h⟩ := ite_none h
      obtain ⟨d2, h⟩ := ite_none h
      obtain ⟨d3, h⟩ := ite_none h
      obtain ⟨x2, h3, h⟩ := Option.bind_eq_some_iff.1 h
      have l2 := sub_len h2 (by omega)
      have l3 := half_len h3 (by omega)
      try refine Pw.run ?_
      refine Pw.list (Pw.call (rsubF_ct r x zr zx k r2 h2 hr) rfl rfl rfl (by kernel_rfl) rfl rfl (fun w h => ⟨fact1 h, fact2 h⟩) ?_)
      intro zr2 _
      try refine Pw.run ?_
      refine Pw.list (Pw.indexO rfl rfl rfl rfl d1 (by omega) rfl rfl ?_)
      refine Pw.list (Pw.loadI rfl rfl rfl (.head _) d1 d2 rfl rfl ?_)
      try refine Pw.run ?_
      refine Pw.list (Pw.shl rfl rfl rfl d3 rfl rfl ?_)
      try refine Pw.run ?_
      refine Pw.list (Pw.indexO rfl rfl rfl rfl d1 (by omega) rfl rfl ?_)
      refine Pw.list (Pw.storeI rfl rfl rfl rfl rfl d1 d2 .head rfl ?_)
      try refine Pw.run ?_
      refine Pw.list (Pw.call (rhalf_ct x zx k x2 h3 hx) rfl rfl rfl (by kernel_rfl) rfl rfl (fun w h => fact3 h) ?_)
      intro zx2 _
      try refine Pw.run ?_
      exact Pw.again (k, _, (r2, zr2), (x2, zx2), _) ⟨h, by rw [List.length_set]; exact hq, by show r2.length < _; omega, by show x2.length < _; omega⟩ (Nat.lt_succ_self _) ⟨rfl, rfl, rfl, rfl, trivial⟩ rfl (fun w h => allCons (fact1 h) (allCons (fact0 h) allNil))
    · rw [if_neg c2] at h
      obtain ⟨x2, h3, h⟩ := Option.bind_eq_some_iff.1 h
      have l3 := half_len h3 (by omega)
      try refine Pw.run ?_
      refine Pw.list (Pw.call (rhalf_ct x zx k x2 h3 hx) rfl rfl rfl (by kernel_rfl) rfl rfl (fun w h => fact2 h) ?_)
      intro zx2 _
      try refine Pw.run ?_
      exact Pw.again (k, _, (r, zr), (x2, zx2), _) ⟨h, hq, hr, by show x2.length < _; omega⟩ (Nat.lt_succ_self _) ⟨rfl, rfl, rfl, rfl, trivial⟩ rfl (fun w h => allCons (fact2 h) (allCons (fact0 h) allNil))
  · rw [if_neg c1] at h
    obtain ⟨t, ht, h⟩ := Option.bind_eq_some_iff.1 h
    have hq1 : q.length < 1099511627776 := by rw [hq]; omega
    have e1 := rtrim_some hq1 ht
    subst e1
    obtain ⟨rfl, rfl⟩ := Prod.mk.inj (Option.some.inj h)
    refine freeHead ?_
    try refine Pw.run ?_
    refine Pw.re (d := 57) (v' := sl q (some ⟨gq, 0, none⟩, nq)) rfl (congrArg (fun m => Value.slice (some ⟨gq, 0, none⟩) m nq) hq.symm) ?_
    refine Pw.list (Pw.call (rtrim_ct q (some ⟨gq, 0, none⟩, nq) hq1) rfl rfl rfl (by kernel_rfl) rfl rfl (fun w h => ints_of_row' (fact0 h) (by omega) (by simp only [maxLen]; omega)) ?_)
    intro z1 _
    try refine Pw.run ?_
    exact Pw.ret_ (x := (z1, zr)) (.tmp rfl (.tmp rfl .nil)) rfl trivial (fun w h => ⟨fact0 h, fact2 h⟩)
end Go.Proofs.Wk
/- Walks of the reference: the greatest common divisor; lowest terms. -/
namespace Go.Proofs.Wk
open Go.RowKit
set_option maxRecDepth 100000
attribute [local irreducible] Pw OpG
set_option linter.unusedVariables false
set_option linter.unusedSimpArgs false
theorem rdivMod_ct (a b : List Int) (x y : Option Addr × Nat) (ha : Fm a) (hb : Fm b) (hb0 : b.length ≠ 0) (hl : a.length < 1048576) (hl' : b.length < 1048576) :
    Ct Try.prog 71 #[sl a x, sl b y] (fun W => S1 a x W ∧ S1 b y W) (fun z : (Option Addr × Nat) × (Option Addr × Nat) => .tuple #[sl (natL (val a / val b)) z.1, sl (natL (val a % val b)) z.2]) Tt (fun z W => S1 (natL (val a / val b)) z.1 W ∧ S1 (natL (val a % val b)) z.2 W) :=
  rdivModF_ct a b x y _ _ _ (rdivMod_ev ha hb hb0 (by omega) (by omega) (Nat.lt_succ_self _)) hl hl'
theorem rgcd_ct (a b : List Int) (x y : Option Addr × Nat) (ha : Fm a) (hb : Fm b) (hl : a.length < 1048576) (hl' : b.length < 1048576) :
    Ct Try.prog 70 #[sl a x, sl b y] (fun W => S1 a x W ∧ S1 b y W) (fun z : Option Addr × Nat => sl (natL (gcdI (val a) (val b))) z) Tt (fun z => S1 (natL (gcdI (val a) (val b))) z) := by
  refine Ct.start Try.func70 rfl rfl (slots_of rfl slots2) (fun D w0 => Pw.facts two2 ?_)
  obtain ⟨G0, hG0⟩ : ∃ z, z = gcdI (val a) (val b) := ⟨_, rfl⟩
  rw [← hG0]
  obtain ⟨L, hL⟩ : ∃ L, L = max a.length b.length := ⟨_, rfl⟩
  have hL1 : L < 1048576 := by omega
  have va := val_nonneg ha.1; have vb := val_nonneg hb.1
  have pa : val a < pw L := by have := val_lt_pw ha.1; have := pw_le (show a.length ≤ L by omega); omega
  have pb : val b < pw L := by have := val_lt_pw hb.1; have := pw_le (show b.length ≤ L by omega); omega
  have ea := ha.natL; have eb := hb.natL
  try refine Pw.run ?_
  refine Pw.loopJ (σ := (Int × (Option Addr × Nat)) × Int × (Option Addr × Nat)) (fun s => 0 ≤ s.1.1 ∧ 0 ≤ s.2.1 ∧ s.1.1 < pw L ∧ s.2.1 < pw L ∧ G0 = gcdI s.1.1 s.2.1) (fun s => ⟨[(0, sl (natL s.1.1) s.1.2), (1, sl (natL s.2.1) s.2.2)], [], [S1 (natL s.1.1) s.1.2, S1 (natL s.2.1) s.2.2]⟩) (fun s => s.2.1.toNat) ((val a, x), (val b, y)) ⟨va, vb, pa, pb, hG0⟩ ?_ ?_
  · rw [← ea, ← eb]
    exact Pw.enter ⟨rfl, rfl, trivial⟩ (fun _ h => h)
  clear ea eb va vb pa pb hG0
  rintro ⟨⟨u, x⟩, ⟨v, y⟩⟩ ⟨hu, hv, pu, pv, hG⟩
  dsimp only at hu hv pu pv hG ⊢
  have lu := natL_len_le hu pu
  have lv := natL_len_le hv pv
  try refine Pw.run ?_
  refine Pw.condD rfl (fun c1 => ?_) (fun c1 => ?_)
  · have h0 : v ≠ 0 := fun e => by rw [(natL_len_zero hv).2 e] at c1; omega
    have r0 := Int.emod_nonneg u h0
    have r1 := Int.emod_lt_of_pos u (show 0 < v by omega)
    try refine Pw.run ?_
    refine Pw.list (Pw.call (rdivMod_ct (natL u) (natL v) x y (natL_fm u) (natL_fm v) (by omega) (by omega) (by omega)) rfl rfl rfl (by kernel_rfl) rfl rfl (fun w h => ⟨fact0 h, fact1 h⟩) ?_)
    intro z _
    rw [val_natL hu, val_natL hv]
    try refine Pw.run ?_
    exact Pw.again ((v, y), (u % v, z.2)) ⟨hv, r0, pv, by show u % v < pw L; omega, by rw [hG]; exact gcdI_step hu (by omega)⟩ (by show (u % v).toNat < v.toNat; omega) ⟨rfl, rfl, trivial⟩ rfl (fun w h => allCons (fact2 h) (allCons (fact0 h).2 allNil))
  · have h0 : v = 0 := (natL_len_zero hv).1 (by omega)
    subst h0
    rw [gcdI_zero hu] at hG
    subst hG
    try refine Pw.run ?_
    refine Pw.list (Pw.call (rtrim_ct (natL G0) x (by omega)) rfl rfl rfl (by kernel_rfl) rfl rfl (fun w h => fact0 h) ?_)
    rw [trim_natL (natL_fm G0).1, val_natL hu]
    intro z _
    try refine Pw.run ?_
    exact Pw.ret_ (x := z) (.tmp rfl .nil) rfl trivial (fun w h => fact0 h)
end Go.Proofs.Wk
/- Walks of layer 2: forming fractions. -/
namespace Go.Proofs.Wk
open Go.RowKit
set_option maxRecDepth 100000
attribute [local irreducible] Pw OpG
set_option linter.unusedVariables false
set_option linter.unusedSimpArgs false
abbrev Z2 := (Option Addr × Nat) × (Option Addr × Nat)
abbrev rt (a b : List Int) (z : Z2) : Value := .agg #[sl a z.1, sl b z.2]
abbrev R2 (a b : List Int) (z : Z2) (W : World) : Prop := S1 a z.1 W ∧ S1 b z.2 W
instance {G : List (World → Prop)} {a b : List Int} {z : Z2} : Has (R2 a b z :: G) (S1 a z.1) := ⟨fun w h => (fact0 h).1⟩
instance {G : List (World → Prop)} {a b : List Int} {z : Z2} : Has (R2 a b z :: G) (S1 b z.2) := ⟨fun w h => (fact0 h).2⟩
abbrev z0 : Z2 := ((none, 0), (none, 0))
theorem R2.nil (W : World) : R2 [] [] z0 W := ⟨Rows.nil _ _ _ _ _, Rows.nil _ _ _ _ _⟩
theorem Make_ct (a b : List Int) (x y : Option Addr × Nat) (ha : Lm a) (hb : Lm b) (hl : a.length < 1048576) (hl' : b.length < 1048576) :
    Ct Try.prog 37 #[sl a x, sl b y] (fun W => S1 a x W ∧ S1 b y W) (fun z : Z2 => .tuple #[rt (makeS a b).1 (makeS a b).2.1 z, .int .i64 (makeS a b).2.2]) Tt (fun z => R2 (makeS a b).1 (makeS a b).2.1 z) := by
  refine Ct.start Try.func37 rfl rfl (slots_of rfl slots2) (fun D w0 => Pw.facts two2 ?_)
  have hc := Gcd_ct a b x y ha hb hl hl'
  unfold makeS
  by_cases h : fmB a = true ∧ fmB b = true
  · obtain ⟨ea, la, va, pa⟩ := fm_of ha h.1
    obtain ⟨eb, lb, vb, pb⟩ := fm_of hb h.2
    have eg : gcdS a b = (natL (gcdI (val a) (val b)), 0) := if_pos h
    rw [eg] at hc
    rw [if_pos h]
    repeat (first | refine Pw.runs ?_ | refine Pw.list (Pw.box rfl rfl rfl rfl (fun _ => ?_)) | refine Pw.list (Pw.alloc rfl rfl rfl rfl rfl (fun _ => ?_)))
    refine Pw.list (Pw.call hc rfl rfl rfl (by kernel_rfl) rfl rfl (fun w h => ⟨fact0 h, fact1 h⟩) ?_)
    intro zg _
    repeat (first | refine Pw.runs ?_ | refine Pw.list (Pw.box rfl rfl rfl rfl (fun _ => ?_)) | refine Pw.list (Pw.alloc rfl rfl rfl rfl rfl (fun _ => ?_)))
    refine Pw.condD rfl (fun c1 => ?_) (fun c1 => ?_)
    · rw [if_pos (by omega)]
      repeat (first | refine Pw.runs ?_ | refine Pw.list (Pw.box rfl rfl rfl rfl (fun _ => ?_)) | refine Pw.list (Pw.alloc rfl rfl rfl rfl rfl (fun _ => ?_)))
      exact Pw.ret_ (x := z0) (.cell rfl (fun w hs => hs.own _ (.head _)) rfl (.tmp rfl .nil)) rfl trivial (fun w h => R2.nil w)
    · rw [if_neg (by omega)]
      have hbp := val_pos_of ((fmB_iff hb).1 h.2).2 (by omega)
      have g0 := gcdI_pos (x := val a) hbp
      have gl := gcdI_le (x := val a) hbp
      unfold lowS
      obtain ⟨G, hG⟩ : ∃ g, g = gcdI (val a) (val b) := ⟨_, rfl⟩
      rw [← hG] at g0 gl hc ⊢
      have lg := natL_len_le (n := 400) (show 0 ≤ G by omega) (by omega)
      have fg := fmB_natL' (show 0 ≤ G by omega) (by omega)
      have hz : (natL G).length ≠ 0 := fun e => by have := (natL_len_zero (show 0 ≤ G by omega)).1 e; omega
      have d1 := DivMod_ct a (natL G) x zg ha (natL_fm G).1 hl (by omega)
      have d2 := DivMod_ct b (natL G) y zg hb (natL_fm G).1 hl' (by omega)
      have e1 : divS a (natL G) = (natL (val a / G), natL (val a % G), 0) := by unfold divS; rw [if_pos ⟨h.1, fg⟩, if_neg hz, val_natL (by omega)]
      have e2 : divS b (natL G) = (natL (val b / G), natL (val b % G), 0) := by unfold divS; rw [if_pos ⟨h.2, fg⟩, if_neg hz, val_natL (by omega)]
      rw [e1] at d1
      rw [e2] at d2
      repeat (first | refine Pw.runs ?_ | refine Pw.list (Pw.box rfl rfl rfl rfl (fun _ => ?_)) | refine Pw.list (Pw.alloc rfl rfl rfl rfl rfl (fun _ => ?_)))
      refine Pw.list (Pw.call d1 rfl rfl rfl (by kernel_rfl) rfl rfl (fun w h => ⟨fact1 h, fact0 h⟩) ?_)
      intro z1 _
      repeat (first | refine Pw.runs ?_ | refine Pw.list (Pw.box rfl rfl rfl rfl (fun _ => ?_)) | refine Pw.list (Pw.alloc rfl rfl rfl rfl rfl (fun _ => ?_)))
      refine Pw.list (Pw.call d2 rfl rfl rfl (by kernel_rfl) rfl rfl (fun w h => ⟨fact3 h, fact1 h⟩) ?_)
      intro z2 _
      repeat (first | refine Pw.runs ?_ | refine Pw.list (Pw.box rfl rfl rfl rfl (fun _ => ?_)) | refine Pw.list (Pw.alloc rfl rfl rfl rfl rfl (fun _ => ?_)))
      exact Pw.ret_ (x := (z1.1, z2.1)) (.cell rfl (fun w hs => hs.own _ (.head _)) rfl (.tmp rfl .nil)) rfl trivial (fun w h => ⟨(fact1 h).1, (fact0 h).1⟩)
  · have eg : gcdS a b = ([], 1) := if_neg h
    rw [eg] at hc
    rw [if_neg h]
    repeat (first | refine Pw.runs ?_ | refine Pw.list (Pw.box rfl rfl rfl rfl (fun _ => ?_)) | refine Pw.list (Pw.alloc rfl rfl rfl rfl rfl (fun _ => ?_)))
    refine Pw.list (Pw.call hc rfl rfl rfl (by kernel_rfl) rfl rfl (fun w h => ⟨fact0 h, fact1 h⟩) ?_)
    intro zg _
    repeat (first | refine Pw.runs ?_ | refine Pw.list (Pw.box rfl rfl rfl rfl (fun _ => ?_)) | refine Pw.list (Pw.alloc rfl rfl rfl rfl rfl (fun _ => ?_)))
    exact Pw.ret_ (x := z0) (.cell rfl (fun w hs => hs.own _ (.head _)) rfl (.tmp rfl .nil)) rfl trivial (fun w h => R2.nil w)
theorem rat_Of_ct (n d : Int) :
    Ct Try.prog 16 #[.int .u64 n, .int .u64 d] (fun _ => True) (fun z : Z2 => .tuple #[rt (makeS (ofN n) (ofN d)).1 (makeS (ofN n) (ofN d)).2.1 z, .int .i64 (makeS (ofN n) (ofN d)).2.2]) Tt (fun z => R2 (makeS (ofN n) (ofN d)).1 (makeS (ofN n) (ofN d)).2.1 z) := by
  have l1 := ofN_len n; have l2 := ofN_len d
  refine Ct.start Try.func16 rfl rfl (slots_of rfl slots2) (fun D w0 => ?_)
  repeat (first | refine Pw.runs ?_ | refine Pw.list (Pw.box rfl rfl rfl rfl (fun _ => ?_)) | refine Pw.list (Pw.alloc rfl rfl rfl rfl rfl (fun _ => ?_)))
  refine Pw.list (Pw.call (Of_ct n) rfl rfl rfl (by kernel_rfl) rfl rfl (fun w h => trivial) ?_)
  intro z1 _
  repeat (first | refine Pw.runs ?_ | refine Pw.list (Pw.box rfl rfl rfl rfl (fun _ => ?_)) | refine Pw.list (Pw.alloc rfl rfl rfl rfl rfl (fun _ => ?_)))
  refine Pw.list (Pw.call (Of_ct d) rfl rfl rfl (by kernel_rfl) rfl rfl (fun w h => trivial) ?_)
  intro z2 _
  repeat (first | refine Pw.runs ?_ | refine Pw.list (Pw.box rfl rfl rfl rfl (fun _ => ?_)) | refine Pw.list (Pw.alloc rfl rfl rfl rfl rfl (fun _ => ?_)))
  refine Pw.list (Pw.call (Make_ct (ofN n) (ofN d) z1 z2 (ofN_fm n).1 (ofN_fm d).1 (by omega) (by omega)) rfl rfl rfl (by kernel_rfl) rfl rfl (fun w h => ⟨fact1 h, fact0 h⟩) ?_)
  intro z _
  repeat (first | refine Pw.runs ?_ | refine Pw.list (Pw.box rfl rfl rfl rfl (fun _ => ?_)) | refine Pw.list (Pw.alloc rfl rfl rfl rfl rfl (fun _ => ?_)))
  exact Pw.ret_ (x := z) (.cell rfl (fun w hs => hs.own _ (.head _)) rfl (.tmp rfl .nil)) rfl trivial (fun w h => fact0 h)
end Go.Proofs.Wk
/- Walks of layer 2: formed fractions; what makes products. -/
namespace Go.Proofs.Wk
open Go.RowKit
set_option maxRecDepth 100000
attribute [local irreducible] Pw OpG
set_option linter.unusedVariables false
set_option linter.unusedSimpArgs false
theorem one_ct (a : List Int) (x : Option Addr × Nat) (ha : Fm a) : Ct Try.prog 75 #[sl a x] (S1 a x) (fun _ : Unit => .bool (decide (val a = 1))) Tt (fun _ _ => True) := by
  obtain ⟨A, c⟩ := x
  refine Ct.start Try.func75 rfl rfl (slots_of rfl slots1) (fun D w0 => ?_)
  try refine Pw.run ?_
  refine Pw.split 6 rfl (fun c1 => ?_) (fun c1 => ?_)
  · obtain ⟨v, rfl⟩ : ∃ v, a = [v] := List.length_eq_one_iff.1 (by omega)
    refine Pw.use (p := A.isSome = true) (fun w h => (fact0 h).has (i := 0) (by omega) (by simp)) (fun hA => ?_)
    obtain ⟨ad, rfl⟩ := some_of hA
    try refine Pw.run ?_
    refine Pw.list (Pw.indexS rfl rfl rfl rfl (Int.le_refl 0) (by show (0 : Int) < 1; omega) rfl rfl ?_)
    refine Pw.list (Pw.load1 rfl rfl (fun w hs => (fact0 hs.all).cell (i := 0) (Int.le_refl 0) (by show (0 : Int) < 1; omega)) rfl rfl ?_)
    try refine Pw.run ?_
    exact Pw.ret_ (x := ()) (.tmp rfl .nil) (congrArg Value.bool (decide_eq_decide.2 (by rw [show val [v] = v by simp [val]]; rfl))) trivial (fun w h => by trivial)
  · have hne : val a ≠ 1 := fun e => c1 (by rw [ha.natL, e, natL_one]; rfl)
    try refine Pw.run ?_
    exact Pw.ret_ (x := ()) (.tmp rfl .nil) (by rw [decide_eq_false hne]; rfl) trivial (fun w h => by trivial)
theorem rat_Formed_ct (a b : List Int) (z : Z2) (ha : Lm a) (hb : Lm b) (hl : a.length < 1048576) (hl' : b.length < 1048576) :
    Ct Try.prog 61 #[rt a b z] (R2 a b z) (fun _ : Unit => .bool (formedR a b)) Tt (fun _ _ => True) := by
  have hc := Gcd_ct a b z.1 z.2 ha hb hl hl'
  refine Ct.start Try.func61 rfl rfl (slots_of rfl slots1) (fun D w0 => ?_)
  unfold formedR
  by_cases h : fmB a = true ∧ fmB b = true
  · have eg : gcdS a b = (natL (gcdI (val a) (val b)), 0) := if_pos h
    rw [eg] at hc
    rw [h.1, h.2]
    repeat (first | refine Pw.runs ?_ | refine Pw.list (Pw.box rfl rfl rfl rfl (fun _ => ?_)) | refine Pw.list (Pw.alloc rfl rfl rfl rfl rfl (fun _ => ?_)))
    refine Pw.list (Pw.call hc rfl rfl rfl (by kernel_rfl) rfl rfl (fun w h => fact0 h) ?_)
    intro zg _
    repeat (first | refine Pw.runs ?_ | refine Pw.list (Pw.box rfl rfl rfl rfl (fun _ => ?_)) | refine Pw.list (Pw.alloc rfl rfl rfl rfl rfl (fun _ => ?_)))
    refine Pw.split 21 rfl (fun c1 => ?_) (fun c1 => ?_)
    · repeat (first | refine Pw.runs ?_ | refine Pw.list (Pw.box rfl rfl rfl rfl (fun _ => ?_)) | refine Pw.list (Pw.alloc rfl rfl rfl rfl rfl (fun _ => ?_)))
      have ho := one_ct (natL (gcdI (val a) (val b))) zg (natL_fm _)
      rw [val_natL (gcdI_nonneg _ _)] at ho
      refine Pw.list (Pw.call ho rfl rfl rfl (by kernel_rfl) rfl rfl (fun w h => fact0 h) ?_)
      intro _ _
      repeat (first | refine Pw.runs ?_ | refine Pw.list (Pw.box rfl rfl rfl rfl (fun _ => ?_)) | refine Pw.list (Pw.alloc rfl rfl rfl rfl rfl (fun _ => ?_)))
      have h0 : 0 < b.length := by omega
      exact Pw.ret_ (x := ()) (.tmp rfl .nil) (by rw [decide_eq_true h0]; rfl) trivial (fun w h => by trivial)
    · repeat (first | refine Pw.runs ?_ | refine Pw.list (Pw.box rfl rfl rfl rfl (fun _ => ?_)) | refine Pw.list (Pw.alloc rfl rfl rfl rfl rfl (fun _ => ?_)))
      have h0 : ¬ 0 < b.length := by omega
      exact Pw.ret_ (x := ()) (.tmp rfl .nil) (by rw [decide_eq_false h0]; rfl) trivial (fun w h => by trivial)
  · have eg : gcdS a b = ([], 1) := if_neg h
    rw [eg] at hc
    have e1 : (fmB a && (fmB b && (decide (0 < b.length) && decide (gcdI (val a) (val b) = 1)))) = false := by
      cases e1 : fmB a <;> cases e2 : fmB b <;> simp_all
    rw [e1]
    repeat (first | refine Pw.runs ?_ | refine Pw.list (Pw.box rfl rfl rfl rfl (fun _ => ?_)) | refine Pw.list (Pw.alloc rfl rfl rfl rfl rfl (fun _ => ?_)))
    refine Pw.list (Pw.call hc rfl rfl rfl (by kernel_rfl) rfl rfl (fun w h => fact0 h) ?_)
    intro zg _
    repeat (first | refine Pw.runs ?_ | refine Pw.list (Pw.box rfl rfl rfl rfl (fun _ => ?_)) | refine Pw.list (Pw.alloc rfl rfl rfl rfl rfl (fun _ => ?_)))
    exact Pw.ret_ (x := ()) (.tmp rfl .nil) rfl trivial (fun w h => by trivial)
theorem rat_formed_ct (a b c d : List Int) (y z : Z2) (ha : Lm a) (hb : Lm b) (hc : Lm c) (hd : Lm d) (la : a.length < 1048576) (lb : b.length < 1048576) (lc : c.length < 1048576) (ld : d.length < 1048576) :
    Ct Try.prog 34 #[rt a b y, rt c d z] (fun W => R2 a b y W ∧ R2 c d z W) (fun _ : Unit => .bool (formedR a b && formedR c d)) Tt (fun _ _ => True) := by
  refine Ct.start Try.func34 rfl rfl (slots_of rfl slots2) (fun D w0 => Pw.facts two2 ?_)
  repeat (first | refine Pw.runs ?_ | refine Pw.list (Pw.box rfl rfl rfl rfl (fun _ => ?_)) | refine Pw.list (Pw.alloc rfl rfl rfl rfl rfl (fun _ => ?_)))
  refine Pw.list (Pw.call (rat_Formed_ct a b y ha hb la lb) rfl rfl rfl (by kernel_rfl) rfl rfl (fun w h => fact0 h) ?_)
  intro _ _
  repeat (first | refine Pw.runs ?_ | refine Pw.list (Pw.box rfl rfl rfl rfl (fun _ => ?_)) | refine Pw.list (Pw.alloc rfl rfl rfl rfl rfl (fun _ => ?_)))
  cases formedR a b
  · repeat (first | refine Pw.runs ?_ | refine Pw.list (Pw.box rfl rfl rfl rfl (fun _ => ?_)) | refine Pw.list (Pw.alloc rfl rfl rfl rfl rfl (fun _ => ?_)))
    exact Pw.ret_ (x := ()) (.tmp rfl .nil) rfl trivial (fun w h => by trivial)
  · repeat (first | refine Pw.runs ?_ | refine Pw.list (Pw.box rfl rfl rfl rfl (fun _ => ?_)) | refine Pw.list (Pw.alloc rfl rfl rfl rfl rfl (fun _ => ?_)))
    refine Pw.list (Pw.call (rat_Formed_ct c d z hc hd lc ld) rfl rfl rfl (by kernel_rfl) rfl rfl (fun w h => fact2 h) ?_)
    intro _ _
    repeat (first | refine Pw.runs ?_ | refine Pw.list (Pw.box rfl rfl rfl rfl (fun _ => ?_)) | refine Pw.list (Pw.alloc rfl rfl rfl rfl rfl (fun _ => ?_)))
    exact Pw.ret_ (x := ()) (.tmp rfl .nil) rfl trivial (fun w h => by trivial)
end Go.Proofs.Wk
/- Walks of layer 2: multiplying, dividing, rounding down. -/
namespace Go.Proofs.Wk
open Go.RowKit
set_option maxRecDepth 100000
attribute [local irreducible] Pw OpG
set_option linter.unusedVariables false
set_option linter.unusedSimpArgs false
abbrev mkO (e : Int) : Obj := row [.int .i64 e] 89
theorem mk_mul_ct (a b : List Int) (x y : Option Addr × Nat) (g : Nat) (e : Int) (ha : Lm a) (hb : Lm b) (hl : a.length < 1048576) (hl' : b.length < 1048576) :
    Ct1 Try.prog 35 #[.pointer (some ⟨g, 0, none⟩), sl a x, sl b y] g (mkO e) (fun W => S1 a x W ∧ S1 b y W) (fun z => sl (mulS a b).1 z) Tt (fun _ => mkO (if e = 0 then (mulS a b).2 else e)) (fun z => S1 (mulS a b).1 z) := by
  refine Ct1.start Try.func35 rfl rfl (slots_of rfl slots3) (fun D w0 hD => Pw.facts two2 ?_)
  repeat (first | refine Pw.runs ?_ | refine Pw.list (Pw.box rfl rfl rfl rfl (fun _ => ?_)) | refine Pw.list (Pw.alloc rfl rfl rfl rfl rfl (fun _ => ?_)))
  refine Pw.list (Pw.call (Mul_ct a b x y ha hb hl hl') rfl rfl rfl (by kernel_rfl) rfl rfl (fun w h => ⟨fact0 h, fact1 h⟩) ?_)
  intro z _
  repeat (first | refine Pw.runs ?_ | refine Pw.list (Pw.box rfl rfl rfl rfl (fun _ => ?_)) | refine Pw.list (Pw.alloc rfl rfl rfl rfl rfl (fun _ => ?_)))
  refine Pw.condD rfl (fun c1 => ?_) (fun c1 => ?_)
  · simp only [if_pos c1]
    repeat (first | refine Pw.runs ?_ | refine Pw.list (Pw.box rfl rfl rfl rfl (fun _ => ?_)) | refine Pw.list (Pw.alloc rfl rfl rfl rfl rfl (fun _ => ?_)))
    exact Pw.ret1 (x := z) hD (.head _) (.tmp rfl .nil) rfl trivial (fun w h => fact0 h)
  · simp only [if_neg c1]
    repeat (first | refine Pw.runs ?_ | refine Pw.list (Pw.box rfl rfl rfl rfl (fun _ => ?_)) | refine Pw.list (Pw.alloc rfl rfl rfl rfl rfl (fun _ => ?_)))
    exact Pw.ret1 (x := z) hD (.head _) (.tmp rfl .nil) rfl trivial (fun w h => fact0 h)
theorem mk_mul0_ct (a b : List Int) (x y : Option Addr × Nat) (g : Nat) (ha : Lm a) (hb : Lm b) (hl : a.length < 1048576) (hl' : b.length < 1048576) :
    Ct1 Try.prog 35 #[.pointer (some ⟨g, 0, none⟩), sl a x, sl b y] g (mkO 0) (fun W => S1 a x W ∧ S1 b y W) (fun z => sl (mulS a b).1 z) Tt (fun _ => mkO (mulS a b).2) (fun z => S1 (mulS a b).1 z) := by
  have := mk_mul_ct a b x y g 0 ha hb hl hl'
  rw [if_pos rfl] at this
  exact this
def endS (e e' : Int) (a b : List Int) : List Int × List Int × Int := if e ≠ 0 then ([], [], e) else if e' ≠ 0 then ([], [], e') else makeS a b
theorem mk_end_ct (a b : List Int) (x y : Option Addr × Nat) (g : Nat) (e e' : Int) (ha : Lm a) (hb : Lm b) (hl : a.length < 1048576) (hl' : b.length < 1048576) :
    Ct Try.prog 39 #[.pointer (some ⟨g, 0, none⟩), sl a x, sl b y, .int .i64 e'] (fun W => W.heap[g]? = some (mkO e) ∧ S1 a x W ∧ S1 b y W) (fun z : Z2 => .tuple #[rt (endS e e' a b).1 (endS e e' a b).2.1 z, .int .i64 (endS e e' a b).2.2]) Tt (fun z => R2 (endS e e' a b).1 (endS e e' a b).2.1 z) := by
  refine Ct.start Try.func39 rfl rfl (slots_of rfl slots4) (fun D w0 => Pw.facts (G' := [fun W => W.heap[g]? = some (mkO e), S1 a x, S1 b y]) (fun w h => allCons (fact0 h).1 (allCons (fact0 h).2.1 (allCons (fact0 h).2.2 allNil))) ?_)
  unfold endS
  repeat (first | refine Pw.runs ?_ | refine Pw.list (Pw.box rfl rfl rfl rfl (fun _ => ?_)) | refine Pw.list (Pw.alloc rfl rfl rfl rfl rfl (fun _ => ?_)))
  refine Pw.condD rfl (fun c1 => ?_) (fun c1 => ?_)
  · rw [if_pos c1]
    repeat (first | refine Pw.runs ?_ | refine Pw.list (Pw.box rfl rfl rfl rfl (fun _ => ?_)) | refine Pw.list (Pw.alloc rfl rfl rfl rfl rfl (fun _ => ?_)))
    refine Pw.drawnG mixed rfl rfl ?_
    refine Pw.takeBuild 0 (nb 7 1) rfl rfl rfl rfl rfl (by kernel_rfl) np sf ?_
    refine Pw.takeP 1 (nb 7 3) rfl rfl rfl rfl (by kernel_rfl) np sf ?_
    refine Pw.takeP 2 (nb 7 7) rfl rfl rfl rfl (by kernel_rfl) np sf ?_
    refine Pw.takeP 3 (nb 7 15) rfl rfl rfl rfl (by kernel_rfl) np sf ?_
    refine Pw.takeF 4 (nb 7 31) rfl rfl inferInstance rfl rfl rfl (by kernel_rfl) np sf ?_
    refine Pw.one 5 (nb 7 63) rfl (by kernel_rfl) ?_
    -- eff Op.store 36 (Operand.tmp 8) (Operand.tmp 15)
    refine Pw.storeB rfl rfl .head rfl rfl rfl rfl rfl rfl (Pw.held (fun w h => h.all) ?_)
    refine Pw.takeP 6 (nb 7 127) rfl rfl rfl rfl (by kernel_rfl) np sf ?_
    refine Pw.done (by kernel_rfl) ?_
    try refine Pw.run ?_
    exact Pw.ret_ (x := z0) (.cell rfl (fun w hs => hs.own _ (.head _)) rfl (.tmp rfl .nil)) rfl trivial (fun w h => R2.nil w)
  · rw [if_neg c1]
    repeat (first | refine Pw.runs ?_ | refine Pw.list (Pw.box rfl rfl rfl rfl (fun _ => ?_)) | refine Pw.list (Pw.alloc rfl rfl rfl rfl rfl (fun _ => ?_)))
    refine Pw.condD rfl (fun c2 => ?_) (fun c2 => ?_)
    · rw [if_pos c2]
      repeat (first | refine Pw.runs ?_ | refine Pw.list (Pw.box rfl rfl rfl rfl (fun _ => ?_)) | refine Pw.list (Pw.alloc rfl rfl rfl rfl rfl (fun _ => ?_)))
      exact Pw.ret_ (x := z0) (.cell rfl (fun w hs => hs.own _ (.head _)) rfl (.tmp rfl .nil)) rfl trivial (fun w h => R2.nil w)
    · rw [if_neg c2]
      repeat (first | refine Pw.runs ?_ | refine Pw.list (Pw.box rfl rfl rfl rfl (fun _ => ?_)) | refine Pw.list (Pw.alloc rfl rfl rfl rfl rfl (fun _ => ?_)))
      refine Pw.list (Pw.call (Make_ct a b x y ha hb hl hl') rfl rfl rfl (by kernel_rfl) rfl rfl (fun w h => ⟨fact1 h, fact2 h⟩) ?_)
      intro z _
      repeat (first | refine Pw.runs ?_ | refine Pw.list (Pw.box rfl rfl rfl rfl (fun _ => ?_)) | refine Pw.list (Pw.alloc rfl rfl rfl rfl rfl (fun _ => ?_)))
      exact Pw.ret_ (x := z) (.cell rfl (fun w hs => hs.own _ (.head _)) rfl (.tmp rfl .nil)) rfl trivial (fun w h => fact0 h)
theorem mulS_lm {a b : List Int} : Fm (mulS a b).1 ∧ (mulS a b).1.length ≤ 400 := by
  unfold mulS
  split
  · unfold fitN
    split
    next h => exact ⟨natL_fm _, h⟩
    next h => exact ⟨by rw [← natL_zero]; exact natL_fm 0, by simp⟩
  · exact ⟨by rw [← natL_zero]; exact natL_fm 0, by simp⟩
end Go.Proofs.Wk
/- Walks of layer 2: dividing, rounding down, comparing. -/
namespace Go.Proofs.Wk
open Go.RowKit
set_option maxRecDepth 100000
attribute [local irreducible] Pw OpG
set_option linter.unusedVariables false
set_option linter.unusedSimpArgs false
theorem formedR_spec {a b : List Int} (ha : Lm a) (hb : Lm b) (h : formedR a b = true) : fmB a = true ∧ fmB b = true ∧ 0 < b.length ∧ gcdI (val a) (val b) = 1 := by
  unfold formedR at h
  simpa using h
def rcmpS (a b c d : List Int) : Int := if (formedR a b && formedR c d) = true then (if (if (mulS a d).2 = 0 then (mulS c b).2 else (mulS a d).2) ≠ 0 then 0 else cmpF (mulS a d).1 (mulS c b).1) else 0
theorem rat_Cmp_ct (a b c d : List Int) (y z : Z2) (ha : Lm a) (hb : Lm b) (hc : Lm c) (hd : Lm d) (la : a.length < 1048576) (lb : b.length < 1048576) (lc : c.length < 1048576) (ld : d.length < 1048576) :
    Ct Try.prog 15 #[rt a b y, rt c d z] (fun W => R2 a b y W ∧ R2 c d z W) (fun _ : Unit => .int .i64 (rcmpS a b c d)) Tt (fun _ _ => True) := by
  refine Ct.start Try.func15 rfl rfl (slots_of rfl slots2) (fun D w0 => Pw.facts two2 ?_)
  unfold rcmpS
  repeat (first | refine Pw.runs ?_ | refine Pw.list (Pw.box rfl rfl rfl rfl (fun _ => freeHead ?_)) | refine Pw.list (Pw.alloc rfl rfl rfl rfl rfl (fun _ => ?_)))
  refine Pw.list (Pw.call (rat_formed_ct a b c d y z ha hb hc hd la lb lc ld) rfl rfl rfl (by kernel_rfl) rfl rfl (fun w h => ⟨(hv w h), (hv w h)⟩) ?_)
  intro _ _
  generalize (formedR a b && formedR c d) = t
  cases t
  · rw [if_neg (by simp)]
    repeat (first | refine Pw.runs ?_ | refine Pw.list (Pw.box rfl rfl rfl rfl (fun _ => ?_)) | refine Pw.list (Pw.alloc rfl rfl rfl rfl rfl (fun _ => ?_)))
    exact Pw.ret_ (x := ()) (.tmp rfl .nil) rfl trivial (fun w h => by trivial)
  rw [if_pos rfl]
  have m1 := @mulS_lm a d
  have m2 := @mulS_lm c b
  repeat (first | refine Pw.runs ?_ | refine Pw.list (Pw.box rfl rfl rfl rfl (fun _ => ?_)) | refine Pw.list (Pw.alloc rfl rfl rfl rfl rfl (fun _ => ?_)))
  refine Pw.drawnG mixed rfl rfl ?_
  refine Pw.takeP 0 (nb 14 1) rfl rfl rfl rfl (by kernel_rfl) np sf ?_
  refine Pw.takeP 1 (nb 14 3) rfl rfl rfl rfl (by kernel_rfl) np sf ?_
  refine Pw.takeF 2 (nb 14 7) rfl rfl inferInstance rfl rfl rfl (by kernel_rfl) np sf ?_
  refine Pw.takeP 3 (nb 14 15) rfl rfl rfl rfl (by kernel_rfl) np sf ?_
  refine Pw.takeF 4 (nb 14 31) rfl rfl inferInstance rfl rfl rfl (by kernel_rfl) np sf ?_
  refine Pw.takeP 6 (nb 14 95) rfl rfl rfl rfl (by kernel_rfl) np sf ?_
  refine Pw.takeP 7 (nb 14 223) rfl rfl rfl rfl (by kernel_rfl) np sf ?_
  refine Pw.takeF 8 (nb 14 479) rfl rfl inferInstance rfl rfl rfl (by kernel_rfl) np sf ?_
  refine Pw.takeP 9 (nb 14 991) rfl rfl rfl rfl (by kernel_rfl) np sf ?_
  refine Pw.takeF 10 (nb 14 2015) rfl rfl inferInstance rfl rfl rfl (by kernel_rfl) np sf ?_
  refine Pw.one 5 (nb 14 2047) rfl (by kernel_rfl) ?_
  -- call Op.call { callee := Callee.value (Operand.func 35), args := #[Operand.tmp 14, Operand.tmp 16, Operand.tmp 18], argTypes := #[87, 34, 34] }
  refine Pw.call1 (mk_mul0_ct a d y.1 z.2 _ ha hd la ld) rfl rfl rfl (by kernel_rfl) rfl rfl (fun w h => ⟨(by first | exact (fact1 h).1 | exact (fact2 h).1 | exact (fact3 h).1), (by first | exact (fact1 h).2 | exact (fact2 h).2 | exact (fact3 h).2 | exact (fact3 (allTail h)).2)⟩) (.head _) (fun _ => .head) ?_
  intro x1 _
  refine Pw.held sf ?_
  refine Pw.one 11 (nb 14 4095) rfl (by kernel_rfl) ?_
  -- call Op.call { callee := Callee.value (Operand.func 35), args := #[Operand.tmp 20, Operand.tmp 22, Operand.tmp 24], argTypes := #[87, 34, 34] }
  refine Pw.call1 (mk_mul_ct c b z.1 y.2 _ _ hc hb lc lb) rfl rfl rfl (by kernel_rfl) rfl rfl (fun w h => ⟨(by first | exact (fact1 h).1 | exact (fact2 h).1 | exact (fact3 h).1 | exact (fact3 (allTail h)).1 | exact (fact3 (allTail (allTail h))).1), (by first | exact (fact1 h).2 | exact (fact2 h).2 | exact (fact3 h).2 | exact (fact3 (allTail h)).2 | exact (fact3 (allTail (allTail h))).2)⟩) (.head _) (fun _ => .head) ?_
  intro x2 _
  refine Pw.held sf ?_
  refine Pw.takeP 12 (nb 14 8191) rfl rfl rfl rfl (by kernel_rfl) np sf ?_
  refine Pw.takeP 13 (nb 14 16383) rfl rfl rfl rfl (by kernel_rfl) np sf ?_
  refine Pw.done (by kernel_rfl) ?_
  repeat (first | refine Pw.runs ?_ | refine Pw.list (Pw.box rfl rfl rfl rfl (fun _ => ?_)) | refine Pw.list (Pw.alloc rfl rfl rfl rfl rfl (fun _ => ?_)))
  refine Pw.condD rfl (fun c1 => ?_) (fun c1 => ?_)
  · rw [if_pos c1]
    repeat (first | refine Pw.runs ?_ | refine Pw.list (Pw.box rfl rfl rfl rfl (fun _ => ?_)) | refine Pw.list (Pw.alloc rfl rfl rfl rfl rfl (fun _ => ?_)))
    exact Pw.ret_ (x := ()) (.tmp rfl .nil) rfl trivial (fun w h => by trivial)
  · rw [if_neg c1]
    repeat (first | refine Pw.runs ?_ | refine Pw.list (Pw.box rfl rfl rfl rfl (fun _ => ?_)) | refine Pw.list (Pw.alloc rfl rfl rfl rfl rfl (fun _ => ?_)))
    refine Pw.list (Pw.call (Cmp_ct (mulS a d).1 (mulS c b).1 x1 x2 m1.1.1 m2.1.1 (by omega) (by omega)) rfl rfl rfl (by kernel_rfl) rfl rfl (fun w h => ⟨(hv w h), (hv w h)⟩) ?_)
    intro _ _
    repeat (first | refine Pw.runs ?_ | refine Pw.list (Pw.box rfl rfl rfl rfl (fun _ => ?_)) | refine Pw.list (Pw.alloc rfl rfl rfl rfl rfl (fun _ => ?_)))
    exact Pw.ret_ (x := ()) (.tmp rfl .nil) rfl trivial (fun w h => by trivial)
end Go.Proofs.Wk
/- Walks of layer 2: adding, subtracting, the lesser one. -/
namespace Go.Proofs.Wk
open Go.RowKit
set_option maxRecDepth 100000
attribute [local irreducible] Pw OpG
set_option linter.unusedVariables false
set_option linter.unusedSimpArgs false
def err3 (x y z : Int) : Int := if (if x = 0 then y else x) = 0 then z else (if x = 0 then y else x)
def joinS (S : List Int → List Int → List Int × Int) (a b c d : List Int) : List Int × List Int × Int := if (formedR a b && formedR c d) = true then endS (err3 (mulS a d).2 (mulS c b).2 (mulS b d).2) (S (mulS a d).1 (mulS c b).1).2 (S (mulS a d).1 (mulS c b).1).1 (mulS b d).1 else ([], [], 1)
theorem join_ct (S : List Int → List Int → List Int × Int) (f : FuncId) (hS : ∀ u v x y, Lm u → Lm v → u.length < 1048576 → v.length < 1048576 → Ct Try.prog f #[sl u x, sl v y] (fun W => S1 u x W ∧ S1 v y W) (fun z : Option Addr × Nat => .tuple #[sl (S u v).1 z, .int .i64 (S u v).2]) Tt (fun z => S1 (S u v).1 z)) (hf : callB Try.prog f = true) (hlm : ∀ u v, Lm u → Lm v → Fm (S u v).1 ∧ (u.length ≤ 400 → v.length ≤ 400 → (S u v).1.length < 1048576))
    (a b c d : List Int) (y z : Z2) (ha : Lm a) (hb : Lm b) (hc : Lm c) (hd : Lm d) (la : a.length < 1048576) (lb : b.length < 1048576) (lc : c.length < 1048576) (ld : d.length < 1048576) :
    Ct Try.prog 41 #[rt a b y, rt c d z, .func (.func f) #[] #[]] (fun W => R2 a b y W ∧ R2 c d z W) (fun x : Z2 => .tuple #[rt (joinS S a b c d).1 (joinS S a b c d).2.1 x, .int .i64 (joinS S a b c d).2.2]) Tt (fun x => R2 (joinS S a b c d).1 (joinS S a b c d).2.1 x) := by
  refine Ct.start Try.func41 rfl rfl (slots_of rfl slots3) (fun D w0 => Pw.facts two2 ?_)
  unfold joinS
  repeat (first | refine Pw.runs ?_ | refine Pw.list (Pw.box rfl rfl rfl rfl (fun _ => freeHead ?_)) | refine Pw.list (Pw.alloc rfl rfl rfl rfl rfl (fun _ => ?_)))
  refine Pw.list (Pw.call (rat_formed_ct a b c d y z ha hb hc hd la lb lc ld) rfl rfl rfl (by kernel_rfl) rfl rfl (fun w h => ⟨(hv w h), (hv w h)⟩) ?_)
  intro _ _
  generalize (formedR a b && formedR c d) = t
  cases t
  · rw [if_neg (by simp)]
    repeat (first | refine Pw.runs ?_ | refine Pw.list (Pw.box rfl rfl rfl rfl (fun _ => ?_)) | refine Pw.list (Pw.alloc rfl rfl rfl rfl rfl (fun _ => ?_)))
    exact Pw.ret_ (x := z0) (.cell rfl (fun w hs => hs.own _ (.head _)) rfl (.tmp rfl .nil)) rfl trivial (fun w h => R2.nil w)
  rw [if_pos rfl]
  have m1 := @mulS_lm a d
  have m2 := @mulS_lm c b
  have m3 := @mulS_lm b d
  repeat (first | refine Pw.runs ?_ | refine Pw.list (Pw.box rfl rfl rfl rfl (fun _ => ?_)) | refine Pw.list (Pw.alloc rfl rfl rfl rfl rfl (fun _ => ?_)))
  refine Pw.drawnG mixed rfl rfl ?_
  refine Pw.takeP 0 (nb 21 1) rfl rfl rfl rfl (by kernel_rfl) np sf ?_
  refine Pw.takeP 1 (nb 21 3) rfl rfl rfl rfl (by kernel_rfl) np sf ?_
  refine Pw.takeF 2 (nb 21 7) rfl rfl inferInstance rfl rfl rfl (by kernel_rfl) np sf ?_
  refine Pw.takeP 3 (nb 21 15) rfl rfl rfl rfl (by kernel_rfl) np sf ?_
  refine Pw.takeF 4 (nb 21 31) rfl rfl inferInstance rfl rfl rfl (by kernel_rfl) np sf ?_
  refine Pw.takeP 6 (nb 21 95) rfl rfl rfl rfl (by kernel_rfl) np sf ?_
  refine Pw.takeP 7 (nb 21 223) rfl rfl rfl rfl (by kernel_rfl) np sf ?_
  refine Pw.takeF 8 (nb 21 479) rfl rfl inferInstance rfl rfl rfl (by kernel_rfl) np sf ?_
  refine Pw.takeP 9 (nb 21 991) rfl rfl rfl rfl (by kernel_rfl) np sf ?_
  refine Pw.takeF 10 (nb 21 2015) rfl rfl inferInstance rfl rfl rfl (by kernel_rfl) np sf ?_
  refine Pw.takeP 12 (nb 21 6111) rfl rfl rfl rfl (by kernel_rfl) np sf ?_
  refine Pw.takeP 13 (nb 21 14303) rfl rfl rfl rfl (by kernel_rfl) np sf ?_
  refine Pw.takeF 14 (nb 21 30687) rfl rfl inferInstance rfl rfl rfl (by kernel_rfl) np sf ?_
  refine Pw.takeP 15 (nb 21 63455) rfl rfl rfl rfl (by kernel_rfl) np sf ?_
  refine Pw.takeF 16 (nb 21 128991) rfl rfl inferInstance rfl rfl rfl (by kernel_rfl) np sf ?_
  refine Pw.one 5 (nb 21 129023) rfl (by kernel_rfl) ?_
  -- call Op.call { callee := Callee.value (Operand.func 35), args := #[Operand.tmp 21, Operand.tmp 23, Operand.tmp 25], argTypes := #[87, 34, 34] }
  refine Pw.call1 (mk_mul0_ct a d y.1 z.2 _ ha hd la ld) rfl rfl rfl (by kernel_rfl) rfl rfl (fun w h => ⟨(hv w h), (hv w h)⟩) (.head _) (fun _ => .head) ?_
  intro x1 _
  refine Pw.held sf ?_
  refine Pw.one 11 (nb 21 131071) rfl (by kernel_rfl) ?_
  -- call Op.call { callee := Callee.value (Operand.func 35), args := #[Operand.tmp 27, Operand.tmp 29, Operand.tmp 31], argTypes := #[87, 34, 34] }
  refine Pw.call1 (mk_mul_ct c b z.1 y.2 _ _ hc hb lc lb) rfl rfl rfl (by kernel_rfl) rfl rfl (fun w h => ⟨(hv w h), (hv w h)⟩) (.head _) (fun _ => .head) ?_
  intro x2 _
  refine Pw.held sf ?_
  refine Pw.one 17 (nb 21 262143) rfl (by kernel_rfl) ?_
  -- call Op.call { callee := Callee.value (Operand.func 35), args := #[Operand.tmp 33, Operand.tmp 35, Operand.tmp 37], argTypes := #[87, 34, 34] }
  refine Pw.call1 (mk_mul_ct b d y.2 z.2 _ _ hb hd lb ld) rfl rfl rfl (by kernel_rfl) rfl rfl (fun w h => ⟨(hv w h), (hv w h)⟩) (.head _) (fun _ => .head) ?_
  intro x3 _
  refine Pw.held sf ?_
  refine Pw.takeP 18 (nb 21 524287) rfl rfl rfl rfl (by kernel_rfl) np sf ?_
  refine Pw.takeP 19 (nb 21 1048575) rfl rfl rfl rfl (by kernel_rfl) np sf ?_
  refine Pw.takeP 20 (nb 21 2097151) rfl rfl rfl rfl (by kernel_rfl) np sf ?_
  refine Pw.done (by kernel_rfl) ?_
  repeat (first | refine Pw.runs ?_ | refine Pw.list (Pw.box rfl rfl rfl rfl (fun _ => ?_)) | refine Pw.list (Pw.alloc rfl rfl rfl rfl rfl (fun _ => ?_)))
  refine Pw.list (Pw.call (hS (mulS a d).1 (mulS c b).1 x1 x2 m1.1.1 m2.1.1 (by omega) (by omega)) rfl rfl rfl hf rfl rfl (fun w h => ⟨(hv w h), (hv w h)⟩) ?_)
  intro x4 _
  obtain ⟨n1, n2⟩ := hlm (mulS a d).1 (mulS c b).1 m1.1.1 m2.1.1
  repeat (first | refine Pw.runs ?_ | refine Pw.list (Pw.box rfl rfl rfl rfl (fun _ => ?_)) | refine Pw.list (Pw.alloc rfl rfl rfl rfl rfl (fun _ => ?_)))
  refine freeHead ?_
  refine Pw.list (Pw.call (mk_end_ct (S (mulS a d).1 (mulS c b).1).1 (mulS b d).1 x4 x3 _ _ (S (mulS a d).1 (mulS c b).1).2 n1.1 m3.1.1 (n2 m1.2 m2.2) (by omega)) rfl rfl rfl (by kernel_rfl) rfl rfl (fun w h => ⟨fact0 h, (hv w h), (hv w h)⟩) ?_)
  intro x5 _
  repeat (first | refine Pw.runs ?_ | refine Pw.list (Pw.box rfl rfl rfl rfl (fun _ => ?_)) | refine Pw.list (Pw.alloc rfl rfl rfl rfl rfl (fun _ => ?_)))
  exact Pw.ret_ (x := x5) (.cell rfl (fun w hs => hs.own _ (.head _)) rfl (.tmp rfl .nil)) rfl trivial (fun w h => fact0 h)
theorem fm_nil : Fm [] := by rw [← natL_zero]; exact natL_fm 0
theorem addS_lm (a b : List Int) (ha : Lm a) (hb : Lm b) : Fm (addS a b).1 ∧ (a.length ≤ 400 → b.length ≤ 400 → (addS a b).1.length < 1048576) := by
  unfold addS
  split
  · unfold fitN
    split
    next h => exact ⟨natL_fm _, fun _ _ => by show (natL _).length < _; omega⟩
    next h => exact ⟨fm_nil, fun _ _ => by simp⟩
  · exact ⟨fm_nil, fun _ _ => by simp⟩
theorem rat_Add_ct (a b c d : List Int) (y z : Z2) (ha : Lm a) (hb : Lm b) (hc : Lm c) (hd : Lm d) (la : a.length < 1048576) (lb : b.length < 1048576) (lc : c.length < 1048576) (ld : d.length < 1048576) :
    Ct Try.prog 19 #[rt a b y, rt c d z] (fun W => R2 a b y W ∧ R2 c d z W) (fun x : Z2 => .tuple #[rt (joinS addS a b c d).1 (joinS addS a b c d).2.1 x, .int .i64 (joinS addS a b c d).2.2]) Tt (fun x => R2 (joinS addS a b c d).1 (joinS addS a b c d).2.1 x) := by
  refine Ct.start Try.func19 rfl rfl (slots_of rfl slots2) (fun D w0 => Pw.facts two2 ?_)
  repeat (first | refine Pw.runs ?_ | refine Pw.list (Pw.box rfl rfl rfl rfl (fun _ => freeHead ?_)) | refine Pw.list (Pw.alloc rfl rfl rfl rfl rfl (fun _ => ?_)))
  refine Pw.list (Pw.call (join_ct addS 42 (fun u v x y hu hv lu lv => Add_ct u v x y hu hv lu lv) (by kernel_rfl) addS_lm a b c d y z ha hb hc hd la lb lc ld) rfl rfl rfl (by kernel_rfl) rfl rfl (fun w h => ⟨(hv w h), (hv w h)⟩) ?_)
  intro x _
  repeat (first | refine Pw.runs ?_ | refine Pw.list (Pw.box rfl rfl rfl rfl (fun _ => ?_)) | refine Pw.list (Pw.alloc rfl rfl rfl rfl rfl (fun _ => ?_)))
  exact Pw.ret_ (x := x) (.cell rfl (fun w hs => hs.own _ (.head _)) rfl (.tmp rfl .nil)) rfl trivial (fun w h => fact0 h)
end Go.Proofs.Wk
/- What layer 2 answers, of formed fractions. -/
namespace Go.Proofs.Wk
set_option linter.unusedVariables false
set_option linter.unusedSimpArgs false

theorem mulS_bd {a b : List Int} (ha : fmB a = true) (hb : fmB b = true) : mulS a b = bdS (natL (val a * val b)) := by
  unfold mulS; rw [if_pos ⟨ha, hb⟩]; rfl
theorem addS_bd {a b : List Int} (ha : fmB a = true) (hb : fmB b = true) : addS a b = bdS (natL (val a + val b)) := by
  unfold addS; rw [if_pos ⟨ha, hb⟩]; rfl
theorem bd_ok {l : List Int} (h : l.length ≤ 400) : bdS l = (l, 0) := if_pos h
theorem bd_no {l : List Int} (h : ¬ l.length ≤ 400) : bdS l = ([], 4) := if_neg h
theorem makeS_natL {p q : Int} (hq : 0 < q) (h1 : (natL p).length ≤ 400) (h2 : (natL q).length ≤ 400) : makeS (natL p) (natL q) = ((lowS (natL p) (natL q)).1, (lowS (natL p) (natL q)).2, 0) := by
  unfold makeS
  rw [if_pos ⟨fmB_natL h1, fmB_natL h2⟩, if_neg (fun e => by have := (natL_len_zero (show 0 ≤ q by omega)).1 e; omega)]
theorem fm_pos {b : List Int} (hb : Lm b) (h : fmB b = true) (h0 : 0 < b.length) : 0 < val b := val_pos_of ((fmB_iff hb).1 h).2 (by omega)
section
variable {a b c d : List Int} (ha : Lm a) (hb : Lm b) (hc : Lm c) (hd : Lm d) (hf : formedR a b = true) (hg : formedR c d = true)
include ha hb hc hd hf hg
theorem rcmpS_eq : rcmpS a b c d = if (natL (val a * val d)).length ≤ 400 ∧ (natL (val c * val b)).length ≤ 400 then cmpS (val a * val d) (val c * val b) else 0 := by
  obtain ⟨f1, f2, f3, _⟩ := formedR_spec ha hb hf
  obtain ⟨g1, g2, g3, _⟩ := formedR_spec hc hd hg
  have p1 := Int.mul_nonneg (val_nonneg ha) (val_nonneg hd)
  have p2 := Int.mul_nonneg (val_nonneg hc) (val_nonneg hb)
  unfold rcmpS
  rw [if_pos (by simp [hf, hg]), mulS_bd f1 g2, mulS_bd g1 f2]
  by_cases h1 : (natL (val a * val d)).length ≤ 400 <;> by_cases h2 : (natL (val c * val b)).length ≤ 400
  · rw [bd_ok h1, bd_ok h2]
    show cmpF (natL _) (natL _) = _
    rw [if_pos ⟨h1, h2⟩]
    unfold cmpF
    rw [if_pos ⟨fmB_natL h1, fmB_natL h2⟩, val_natL p1, val_natL p2]
  · rw [bd_ok h1, bd_no h2]; show (0 : Int) = _; rw [if_neg (fun h => h2 h.2)]
  · rw [bd_no h1, bd_ok h2]; show (0 : Int) = _; rw [if_neg (fun h => h1 h.1)]
  · rw [bd_no h1, bd_no h2]; show (0 : Int) = _; rw [if_neg (fun h => h1 h.1)]
theorem raddS_eq : joinS addS a b c d = if (natL (val a * val d)).length ≤ 400 ∧ (natL (val c * val b)).length ≤ 400 ∧ (natL (val b * val d)).length ≤ 400 ∧ (natL (val a * val d + val c * val b)).length ≤ 400 then ((lowS (natL (val a * val d + val c * val b)) (natL (val b * val d))).1, (lowS (natL (val a * val d + val c * val b)) (natL (val b * val d))).2, 0) else ([], [], 4) := by
  obtain ⟨f1, f2, f3, _⟩ := formedR_spec ha hb hf
  obtain ⟨g1, g2, g3, _⟩ := formedR_spec hc hd hg
  have hq := Int.mul_pos (fm_pos hb f2 f3) (fm_pos hd g2 g3)
  have p1 := Int.mul_nonneg (val_nonneg ha) (val_nonneg hd)
  have p2 := Int.mul_nonneg (val_nonneg hc) (val_nonneg hb)
  unfold joinS
  rw [if_pos (by simp [hf, hg]), mulS_bd f1 g2, mulS_bd g1 f2, mulS_bd f2 g2]
  by_cases h1 : (natL (val a * val d)).length ≤ 400 <;> by_cases h2 : (natL (val c * val b)).length ≤ 400 <;> by_cases h3 : (natL (val b * val d)).length ≤ 400
  · rw [bd_ok h1, bd_ok h2, bd_ok h3]
    show endS 0 (addS (natL _) (natL _)).2 (addS (natL _) (natL _)).1 (natL _) = _
    rw [addS_bd (fmB_natL h1) (fmB_natL h2), val_natL p1, val_natL p2]
    by_cases h4 : (natL (val a * val d + val c * val b)).length ≤ 400
    · rw [bd_ok h4, if_pos ⟨h1, h2, h3, h4⟩]; exact makeS_natL hq h4 h3
    · rw [bd_no h4, if_neg (fun h => h4 h.2.2.2)]; rfl
  all_goals first
    | (rw [bd_ok h1, bd_ok h2, bd_no h3, if_neg (fun h => h3 h.2.2.1)]; rfl)
    | (rw [bd_ok h1, bd_no h2, bd_ok h3, if_neg (fun h => h2 h.2.1)]; rfl)
    | (rw [bd_ok h1, bd_no h2, bd_no h3, if_neg (fun h => h2 h.2.1)]; rfl)
    | (rw [bd_no h1, bd_ok h2, bd_ok h3, if_neg (fun h => h1 h.1)]; rfl)
    | (rw [bd_no h1, bd_ok h2, bd_no h3, if_neg (fun h => h1 h.1)]; rfl)
    | (rw [bd_no h1, bd_no h2, bd_ok h3, if_neg (fun h => h1 h.1)]; rfl)
    | (rw [bd_no h1, bd_no h2, bd_no h3, if_neg (fun h => h1 h.1)]; rfl)
end
end Go.Proofs.Wk
/- RatioRules: what layer 2 answers, of fractions as pairs of numbers. -/
namespace Go.Proofs.Wk
set_option linter.unusedVariables false
set_option linter.unusedSimpArgs false
def lw (p q : Int) : List Int × List Int := (natL (p / gcdI p q), natL (q / gcdI p q))
theorem lowS_natL {p q : Int} (hp : 0 ≤ p) (hq : 0 ≤ q) : lowS (natL p) (natL q) = lw p q := by
  unfold lowS lw; rw [val_natL hp, val_natL hq]
theorem of_lw {n d : Int} (h : 0 ≤ n) (h' : n ≤ 18446744073709551615) (h0 : 0 < d) (h1 : d ≤ 18446744073709551615) : makeS (ofN n) (ofN d) = ((lw n d).1, (lw n d).2, 0) := by
  rw [makeS_of (by omega) h1, if_neg (by omega)]
  unfold lowS
  rw [ofN_val h h', ofN_val (by omega) h1]; rfl
section
variable {p q r s : Int} {n : Nat} (hp : 0 ≤ p) (hq : 0 < q) (hr : 0 ≤ r) (hs : 0 < s) (lp : p < pw n) (lq : q < pw n) (lr : r < pw n) (ls : s < pw n) (hn : n + n + 1 ≤ 400)
include hp hq hr hs lp lq lr ls hn
end
end Go.Proofs.Wk
/- Fractions as rational numbers. -/
namespace Go.Proofs.Wk
set_option linter.unusedVariables false
set_option linter.unusedSimpArgs false
def qn (x : Rat) : List Int := natL x.num
def qd (x : Rat) : List Int := natL (x.den : Int)
/-- The number that two naturals say. -/
def rv (a b : List Int) : Rat := Rat.divInt (val a) (val b)
/-- A number that is not negative, with a numerator and a denominator of at most n limbs. -/
structure Sz (m : Nat) (x : Rat) : Prop where
  p : 0 ≤ x
  n : x.num < pw m
  d : (x.den : Int) < pw m
theorem gcdI_gcd {p q : Int} (hp : 0 ≤ p) (hq : 0 ≤ q) : gcdI p q = ((Int.gcd q p : Nat) : Int) := by
  unfold gcdI Int.gcd
  rw [Nat.gcd_comm, show p.toNat = p.natAbs by omega, show q.toNat = q.natAbs by omega]
theorem lw_q {p q : Int} (hp : 0 ≤ p) (hq : 0 < q) : lw p q = (qn (Rat.divInt p q), qd (Rat.divInt p q)) := by
  unfold lw qn qd
  rw [Rat.num_divInt, Rat.den_divInt, if_neg (by omega), Int.sign_eq_one_of_pos hq, Int.one_mul, gcdI_gcd hp (by omega), Int.natCast_ediv]
  rw [show ((q.natAbs : Nat) : Int) = q by omega]
theorem num_pos {x : Rat} (h : 0 ≤ x) : 0 ≤ x.num := Rat.num_nonneg.2 h
theorem den_pos (x : Rat) : 0 < (x.den : Int) := by have := x.den_nz; omega
theorem val_qn {x : Rat} (h : 0 ≤ x) : val (qn x) = x.num := val_natL (num_pos h)
theorem val_qd (x : Rat) : val (qd x) = (x.den : Int) := val_natL (by have := den_pos x; omega)
theorem mul_lt_pw {a b : Int} {m n : Nat} (ha : 0 ≤ a) (h1 : a < pw m) (h2 : b < pw n) (hb : 0 ≤ b) : a * b < pw (m + n) := by
  rw [pw_add]
  have := pw_pos m
  have h3 : a * b ≤ a * pw n := Int.mul_le_mul_of_nonneg_left (by omega) ha
  have h4 : a * pw n < pw m * pw n := Int.mul_lt_mul_of_pos_right h1 (pw_pos n)
  omega
theorem add_lt_pw {a b : Int} {n : Nat} (h1 : a < pw n) (h2 : b < pw n) : a + b < pw (n + 1) := by
  rw [pw_add]; have : pw 1 = 4294967296 := rfl
  have := pw_pos n
  rw [‹pw 1 = 4294967296›]; omega
theorem Sz.mono {m n : Nat} {x : Rat} (h : Sz m x) (hn : m ≤ n) : Sz n x := ⟨h.p, by have := h.n; have := pw_le hn; omega, by have := h.d; have := pw_le hn; omega⟩
theorem Sz.ln {n : Nat} {x : Rat} (h : Sz n x) : (qn x).length ≤ n := natL_len_le (num_pos h.p) h.n
theorem Sz.ld {n : Nat} {x : Rat} (h : Sz n x) : (qd x).length ≤ n := natL_len_le (by have := den_pos x; omega) h.d
theorem qn_lm (x : Rat) : Lm (qn x) := (natL_fm _).1
theorem qd_lm (x : Rat) : Lm (qd x) := (natL_fm _).1
theorem qd_pos (x : Rat) : 0 < (qd x).length := by
  rcases Nat.eq_zero_or_pos (qd x).length with h | h
  · have := (natL_len_zero (show 0 ≤ (x.den : Int) by have := den_pos x; omega)).1 h; have := den_pos x; omega
  · exact h
theorem Sz.formed {n : Nat} {x : Rat} (h : Sz n x) (hn : n ≤ 400) : formedR (qn x) (qd x) = true := by
  unfold formedR
  have h1 := h.ln; have h2 := h.ld; have h3 := qd_pos x
  rw [show fmB (qn x) = true from fmB_natL (by show (qn x).length ≤ _; omega), show fmB (qd x) = true from fmB_natL (by show (qd x).length ≤ _; omega), val_qn h.p, val_qd, gcdI_gcd (num_pos h.p) (by have := den_pos x; omega)]
  have hr : Int.gcd (x.den : Int) x.num = 1 := by
    have := x.reduced
    unfold Int.gcd; rw [Nat.gcd_comm]; exact this
  rw [hr]; simp [h3]
theorem q_low {p q : Int} (hp : 0 ≤ p) (hq : 0 < q) : lowS (natL p) (natL q) = (qn (Rat.divInt p q), qd (Rat.divInt p q)) := by
  rw [lowS_natL hp (by omega), lw_q hp hq]
theorem num_le_divInt {p q : Int} (hp : 0 ≤ p) (hq : 0 < q) : (Rat.divInt p q).num ≤ p ∧ ((Rat.divInt p q).den : Int) ≤ q := by
  have g0 := gcdI_pos (x := p) hq
  rw [gcdI_gcd hp (by omega)] at g0
  rw [Rat.num_divInt, Rat.den_divInt, if_neg (by omega), Int.sign_eq_one_of_pos hq, Int.one_mul]
  refine ⟨Int.ediv_le_self _ hp, ?_⟩
  rw [Int.natCast_ediv, show ((q.natAbs : Nat) : Int) = q by omega]
  exact Int.ediv_le_self _ (by omega)
section
variable {x y : Rat} {m n : Nat} (hx : Sz m x) (hy : Sz n y)
include hx hy
theorem q_add (h : m + n < 400) : joinS addS (qn x) (qd x) (qn y) (qd y) = (qn (x + y), qd (x + y), 0) := by
  have p1 := num_pos hx.p; have p2 := num_pos hy.p; have d1 := den_pos x; have d2 := den_pos y
  have b1 := mul_lt_pw p1 hx.n hy.d (by omega)
  have b2 := mul_lt_pw p2 hy.n hx.d (by omega)
  have b3 := mul_lt_pw (show 0 ≤ (x.den : Int) by omega) hx.d hy.d (by omega)
  rw [Nat.add_comm n m] at b2
  have b4 := add_lt_pw b1 b2
  have q1 := Int.mul_nonneg p1 (show 0 ≤ (y.den : Int) by omega)
  have q2 := Int.mul_nonneg p2 (show 0 ≤ (x.den : Int) by omega)
  have q3 := Int.mul_pos d1 d2
  rw [raddS_eq (qn_lm x) (qd_lm x) (qn_lm y) (qd_lm y) (hx.formed (by omega)) (hy.formed (by omega)), val_qn hx.p, val_qn hy.p, val_qd, val_qd]
  rw [if_pos ⟨by have := natL_len_le q1 b1; omega, by have := natL_len_le q2 b2; omega, by have := natL_len_le (by omega) b3; omega, by have := natL_len_le (by omega) b4; omega⟩, q_low (by omega) q3]
  rw [show x + y = Rat.divInt (x.num * y.den + y.num * x.den) ((x.den : Int) * (y.den : Int)) by rw [Rat.add_def', ← Int.natCast_mul, Rat.divInt_ofNat]]
def cmpQ (x y : Rat) : Int := if x < y then -1 else if x = y then 0 else 1
theorem q_cmp (h : m + n ≤ 400) : rcmpS (qn x) (qd x) (qn y) (qd y) = cmpQ x y := by
  have p1 := num_pos hx.p; have p2 := num_pos hy.p; have d1 := den_pos x; have d2 := den_pos y
  have b1 := mul_lt_pw p1 hx.n hy.d (by omega)
  have b2 := mul_lt_pw p2 hy.n hx.d (by omega)
  rw [Nat.add_comm n m] at b2
  have q1 := Int.mul_nonneg p1 (show 0 ≤ (y.den : Int) by omega)
  have q2 := Int.mul_nonneg p2 (show 0 ≤ (x.den : Int) by omega)
  rw [rcmpS_eq (qn_lm x) (qd_lm x) (qn_lm y) (qd_lm y) (hx.formed (by omega)) (hy.formed (by omega)), val_qn hx.p, val_qn hy.p, val_qd, val_qd]
  rw [if_pos ⟨by have := natL_len_le q1 b1; omega, by have := natL_len_le q2 b2; omega⟩]
  unfold cmpS cmpQ
  simp only [Rat.lt_iff, Rat.eq_iff_mul_eq_mul]
end
theorem sz_int {k : Int} {n : Nat} (h0 : 0 ≤ k) (h : k < pw n) (hn : 1 ≤ n) : Sz n (k : Rat) := ⟨Rat.intCast_nonneg.2 h0, by rw [Rat.num_intCast]; exact h, by rw [Rat.den_intCast]; have := pw_le hn; have : pw 1 = 4294967296 := rfl; omega⟩
theorem q_of {n d : Int} (h : 0 ≤ n) (h' : n ≤ 18446744073709551615) (h0 : 0 < d) (h1 : d ≤ 18446744073709551615) : makeS (ofN n) (ofN d) = (qn (Rat.divInt n d), qd (Rat.divInt n d), 0) := by
  rw [of_lw h h' h0 h1, lw_q h h0]
theorem q_of1 {n : Int} (h : 0 ≤ n) (h' : n ≤ 18446744073709551615) : makeS (ofN n) (ofN 1) = (qn (n : Rat), qd (n : Rat), 0) := by
  rw [q_of h h' (by omega) (by omega), show Rat.divInt n 1 = (n : Rat) by rw [Rat.divInt_eq_div]; grind]
theorem sz_0 (n : Nat) (hn : 1 ≤ n) : Sz n 0 := by
  have := sz_int (k := 0) (n := n) (by omega) (pw_pos n) hn
  exact this
end Go.Proofs.Wk
/- Snapshots as data: what the walks of layer 10 say of them. -/
namespace Go.Proofs.Wk
open Go.RowKit
set_option linter.unusedVariables false
set_option linter.unusedSimpArgs false
structure Vtr where
  id : Int
  st : Int
  pk : List Int
  z : Option Addr × Nat
abbrev I1 (l : List Int) (x : Option Addr × Nat) : World → Prop := Ints .i64 l x.1 x.2
abbrev vtV (v : Vtr) : Value := .agg #[.int .i64 v.id, .int .u64 v.st, sl v.pk v.z]
def encV (v : Vtr) : List Value := [.int .i64 v.id, .int .u64 v.st, sl v.pk v.z]
def heldV (v : Vtr) : World → Prop := I1 v.pk v.z
abbrev VS (l : List Vtr) (x : Option Addr × Nat) : World → Prop := Rows (RR encV heldV) 3 l x.1 x.2
abbrev gL1 (s : Gr) (cells : List Value) (e : TypeId) : List Blk := gL s cells e ++ []
structure Sn where
  vs : List Vtr
  zv : Option Addr × Nat
  cs : List Int
  zc : Option Addr × Nat
abbrev snV (s : Sn) : Value := .agg #[.slice s.zv.1 s.vs.length s.zv.2, sl s.cs s.zc]
abbrev snF (s : Sn) (W : World) : Prop := VS s.vs s.zv W ∧ I1 s.cs s.zc W
def snW (s : Sn) : Prop := ∀ v ∈ s.vs, 0 ≤ v.st ∧ v.st ≤ 18446744073709551615
theorem sn2 {s : Sn} : ∀ w, All [snF s] w → All [VS s.vs s.zv, I1 s.cs s.zc] w := fun w h => allCons (fact0 h).1 (allCons (fact0 h).2 allNil)
theorem get_at {α : Type} {l : List α} {i : Nat} (h : i < l.length) : ∃ x, l[i]? = some x ∧ x ∈ l := ⟨l[i], List.getElem?_eq_getElem h, List.getElem_mem h⟩
theorem get_rd {l : List Int} {i : Nat} {x : Int} (h : l[i]? = some x) : rd l (i : Int) = x := by
  unfold rd; rw [List.getD_eq_getElem?_getD, Int.toNat_natCast, h]; rfl
/-! ### Rising lists -/
def okAt (l : List Int) (i : Nat) : Bool := decide (0 ≤ rd l i) && (decide (rd l i ≤ 2147483647) && (decide (i = 0) || decide (rd l ((i : Int) - 1) < rd l i)))
theorem okAt_iff {l : List Int} {i : Nat} : okAt l i = true ↔ 0 ≤ rd l i ∧ rd l i ≤ 2147483647 ∧ (i = 0 ∨ rd l ((i : Int) - 1) < rd l i) := by
  unfold okAt; simp [Bool.and_eq_true, Bool.or_eq_true, decide_eq_true_eq]
theorem okAt_no {l : List Int} {i : Nat} (h : ¬ (0 ≤ rd l i ∧ rd l i ≤ 2147483647 ∧ (i = 0 ∨ rd l ((i : Int) - 1) < rd l i))) : okAt l i = false := by
  rw [← Bool.not_eq_true, okAt_iff]; exact h
theorem top63 {n : Nat} (h : n ≤ maxLen) : n ≤ 9223372036854775807 := by simpa [maxLen] using h
theorem i64s {i n : Nat} (h : i < n) (hn : n ≤ 9223372036854775807) : wrap64 ((i : Int) + 1) = ((i + 1 : Nat) : Int) := by unfold wrap64; omega
def allB (n : Nat) (p : Nat → Bool) : Bool := (List.range n).all p
theorem allB_true {n : Nat} {p : Nat → Bool} (h : ∀ i, i < n → p i = true) : allB n p = true := by
  unfold allB; rw [List.all_eq_true]; intro x hx; exact h x (List.mem_range.1 hx)
theorem allB_false {n : Nat} {p : Nat → Bool} {i : Nat} (h : i < n) (hp : p i = false) : allB n p = false := by
  unfold allB; rw [List.all_eq_false]; exact ⟨i, List.mem_range.2 h, by simp [hp]⟩
theorem allB_iff {n : Nat} {p : Nat → Bool} : allB n p = true ↔ ∀ i, i < n → p i = true := by
  unfold allB; rw [List.all_eq_true]; exact ⟨fun h i hi => h i (List.mem_range.2 hi), fun h x hx => h x (List.mem_range.1 hx)⟩
def risB (l : List Int) : Bool := allB l.length (okAt l)
/-! ### Formed snapshots -/
def sumSt : List Vtr → Int
  | [] => 0
  | v :: r => v.st + sumSt r
theorem sumSt_snoc (l : List Vtr) (v : Vtr) : sumSt (l ++ [v]) = sumSt l + v.st := by
  induction l with
  | nil => simp [sumSt]
  | cons x r ih => simp only [List.cons_append, sumSt, ih]; omega
theorem take_snoc {α : Type} {l : List α} {i : Nat} {x : α} (h : l[i]? = some x) : l.take (i + 1) = l.take i ++ [x] := by
  rw [List.take_add_one, h]; rfl
theorem sumSt_nonneg {l : List Vtr} (h : ∀ v ∈ l, 0 ≤ v.st) : 0 ≤ sumSt l := by
  induction l with
  | nil => simp [sumSt]
  | cons x r ih =>
    have h1 := h x (List.mem_cons_self ..)
    have h2 := ih (fun v hv => h v (List.mem_cons_of_mem _ hv))
    simp only [sumSt]; omega
def idsOf (l : List Vtr) : List Int := l.map Vtr.id
def vOk (vs : List Vtr) (i : Nat) : Bool := match vs[i]? with
  | none => true
  | some v => decide (sumSt (vs.take i) + v.st ≤ 18446744073709551615) && (!decide (v.id ∈ idsOf (vs.take i)) && (decide (0 ≤ v.id) && (decide (v.id ≤ 2147483647) && (decide (v.pk.length ≤ 8) && risB v.pk))))
def formB (s : Sn) : Bool := decide (s.vs.length ≤ 32) && (decide (s.cs.length ≤ 32) && (risB s.cs && allB s.vs.length (vOk s.vs)))
def apB (s : Sn) (voter c : Int) : Bool := formB s && (match s.vs.find? (fun v : Vtr => decide (v.id = voter)) with
  | none => false
  | some v => decide (0 < v.st) && (decide (c ∈ v.pk) && decide (c ∈ s.cs)))
def apL (s : Sn) (c : Int) : List Int := (s.vs.filter (fun v => apB s v.id c)).map Vtr.id
def suL (s : Sn) : List Int := s.cs.filter (fun c => decide (0 < (apL s c).length))
end Go.Proofs.Wk
/- Elections: the plain model of the rounds, in whole numbers. -/
namespace Go.Proofs.Wk
open Go.RowKit
set_option linter.unusedVariables false
set_option linter.unusedSimpArgs false
/-! ### Numbers -/
theorem pw_two : (18446744073709551615 : Int) < pw 2 := by rw [show (2 : Nat) = 0 + 1 + 1 by rfl, pw_succ, pw_succ, pw_zero]; omega
theorem lt_pw_le {x : Int} {a b : Nat} (h : x < pw a) (hab : a ≤ b) : x < pw b := by have := pw_le hab; omega
theorem mul_n {x n : Int} {a : Nat} (h0 : 0 ≤ x) (hx : x < pw a) (ha : a ≤ 398) (hn : 0 ≤ n) (hn' : n ≤ 18446744073709551615) : (mulS (natL x) (ofN n)).1 = natL (x * n) := by
  have h2 := pw_two
  have h3 : n < pw 2 := by omega
  rw [ofN_natL hn hn', mulS_bd (fmB_natL' h0 (lt_pw_le hx (by omega))) (fmB_natL' hn (lt_pw_le h3 (by omega))), val_natL h0, val_natL hn, bd_ok]
  exact natL_len_le (Int.mul_nonneg h0 hn) (lt_pw_le (mul_lt_pw h0 hx h3 hn) (by omega))
theorem mul_nn {x y : Int} {a b : Nat} (h0 : 0 ≤ x) (hx : x < pw a) (h1 : 0 ≤ y) (hy : y < pw b) (ha : a + b ≤ 400) : (mulS (natL x) (natL y)).1 = natL (x * y) := by
  rw [mulS_bd (fmB_natL' h0 (lt_pw_le hx (by omega))) (fmB_natL' h1 (lt_pw_le hy (by omega))), val_natL h0, val_natL h1, bd_ok]
  exact natL_len_le (Int.mul_nonneg h0 h1) (lt_pw_le (mul_lt_pw h0 hx hy h1) (by omega))
theorem add_nn {x y : Int} {a : Nat} (h0 : 0 ≤ x) (hx : x < pw a) (h1 : 0 ≤ y) (hy : y < pw a) (ha : a ≤ 399) : (addS (natL x) (natL y)).1 = natL (x + y) := by
  rw [addS_bd (fmB_natL' h0 (lt_pw_le hx (by omega))) (fmB_natL' h1 (lt_pw_le hy (by omega))), val_natL h0, val_natL h1, bd_ok]
  exact natL_len_le (by omega) (lt_pw_le (add_lt_pw hx hy) (by omega))
def sub0 (x y : Int) : Int := if x < y then 0 else x - y
theorem sub_nn {x y : Int} {a : Nat} (h0 : 0 ≤ x) (hx : x < pw a) (h1 : 0 ≤ y) (hy : y < pw a) (ha : a ≤ 400) : (subS (natL x) (natL y)).1 = natL (sub0 x y) := by
  unfold subS sub0
  rw [if_pos ⟨fmB_natL' h0 (lt_pw_le hx ha), fmB_natL' h1 (lt_pw_le hy ha)⟩, val_natL h0, val_natL h1]
  split
  · exact natL_zero.symm
  · rfl
theorem cmp_nn {x y : Int} {a : Nat} (h0 : 0 ≤ x) (hx : x < pw a) (h1 : 0 ≤ y) (hy : y < pw a) (ha : a ≤ 400) : cmpF (natL x) (natL y) = cmpS x y := by
  unfold cmpF
  rw [if_pos ⟨fmB_natL' h0 (lt_pw_le hx ha), fmB_natL' h1 (lt_pw_le hy ha)⟩, val_natL h0, val_natL h1]
theorem cmp_neg {x y : Int} : cmpS x y < 0 ↔ x < y := by
  unfold cmpS
  (repeat' split) <;> omega
theorem make_nn {p q : Int} {a b : Nat} (h0 : 0 ≤ p) (hp : p < pw a) (ha : a ≤ 400) (h1 : 0 < q) (hq : q < pw b) (hb : b ≤ 400) : makeS (natL p) (natL q) = (qn (Rat.divInt p q), qd (Rat.divInt p q), 0) := by
  rw [makeS_natL h1 (natL_len_le h0 (lt_pw_le hp ha)) (natL_len_le (by omega) (lt_pw_le hq hb)), q_low h0 h1]
theorem natL_la {x : Int} {a : Nat} (h0 : 0 ≤ x) (hx : x < pw a) (ha : a ≤ 400) : (natL x).length < 1048576 := by
  have := natL_len_le h0 hx; omega
theorem natL_lm (x : Int) : Lm (natL x) := (natL_fm x).1
/-! ### The model -/
def st (vs : List Vtr) (i : Nat) : Int := ((vs[i]?).map Vtr.st).getD 0
def pks (vs : List Vtr) (i : Nat) : List Int := ((vs[i]?).map Vtr.pk).getD []
/-- Whoever approves c and has a stake, by their places. -/
def ap (vs : List Vtr) (c : Int) : List Nat := (List.range vs.length).filter (fun i => decide (0 < st vs i) && decide (c ∈ pks vs i))
def at0 (l : List Int) (i : Nat) : Int := (l[i]?).getD 0
def sumL (f : Nat → Int) (l : List Nat) : Int := (l.map f).sum
theorem sumL_nil (f : Nat → Int) : sumL f [] = 0 := rfl
theorem sumL_snoc (f : Nat → Int) (l : List Nat) (i : Nat) : sumL f (l ++ [i]) = sumL f l + f i := by unfold sumL; simp
/-- A candidate's score: over the denominator times the stake. -/
def scN (D : Int) (vs : List Vtr) (ld : List Int) (l : List Nat) : Int := D + sumL (fun i => at0 ld i * st vs i) l
def scT (vs : List Vtr) (l : List Nat) : Int := sumL (st vs) l
structure Est where
  D : Int
  ld : List Int
  ed : List (List (Int × Int × Int))
  se : List (Int × Int × Int)
/-- The best one so far: the candidate, the sum, the stake. -/
abbrev Bs := Option (Int × Int × Int)
def elig (vs : List Vtr) (S : Est) (c : Int) : Bool := !(ap vs c).isEmpty && !(S.se.any (fun x => decide (x.1 = c)))
def better (b : Bs) (su sk : Int) : Bool := match b with
  | none => true
  | some (_, l, y) => decide (su * y < l * sk)
def seek (vs : List Vtr) (S : Est) : Bs → Int → Bs := fun b c =>
  if elig vs S c then (if better b (scN S.D vs S.ld (ap vs c)) (scT vs (ap vs c)) then some (c, scN S.D vs S.ld (ap vs c), scT vs (ap vs c)) else b) else b
def best (vs : List Vtr) (S : Est) (cs : List Int) : Bs := cs.foldl (seek vs S) none
def giveTo (l : List Nat) (c v D : Int) (ld : List Int) (ed : List (List (Int × Int × Int))) : List (List (Int × Int × Int)) := ed.zipIdx.map (fun p => if p.2 ∈ l then p.1 ++ [(c, sub0 v (at0 ld p.2), D)] else p.1)
def loadTo (l : List Nat) (v : Int) (ld : List Int) : List Int := ld.zipIdx.map (fun p => if p.2 ∈ l then v else p.1)
def nextE (vs : List Vtr) (S : Est) (c least by_ : Int) : Est :=
  ⟨S.D * by_, loadTo (ap vs c) least (S.ld.map (· * by_)), giveTo (ap vs c) c least (S.D * by_) (S.ld.map (· * by_)) S.ed, S.se ++ [(c, least, S.D * by_)]⟩
def rnd (vs : List Vtr) (cs : List Int) (S : Est) : Option Est := (best vs S cs).map (fun b => nextE vs S b.1 b.2.1 b.2.2)
def begE (vs : List Vtr) : Est := ⟨1, vs.map (fun _ => 0), vs.map (fun _ => []), []⟩
def runE (vs : List Vtr) (cs : List Int) : Nat → Est → Est
  | 0, S => S
  | k + 1, S => match rnd vs cs S with
    | none => S
    | some S' => runE vs cs k S'
def electE (vs : List Vtr) (cs : List Int) (k : Nat) : Est := runE vs cs k (begE vs)
/-- What a voter gives to a candidate, if anything. -/
def edgeOf (l : List (Int × Int × Int)) (c : Int) : Option (Int × Int) := (l.find? (fun x => decide (x.1 = c))).map (·.2)
def shareOf (vs : List Vtr) (S : Est) (i : Nat) (c : Int) : Option Rat := (edgeOf ((S.ed[i]?).getD []) c).map (fun x => Rat.divInt (x.1 * st vs i * S.D) (x.2 * at0 S.ld i))
end Go.Proofs.Wk
/- Elections: what holds of the model's states: bounds. -/
namespace Go.Proofs.Wk
open Go.RowKit
set_option linter.unusedVariables false
set_option linter.unusedSimpArgs false
theorem sumL_cons (f : Nat → Int) (i : Nat) (l : List Nat) : sumL f (i :: l) = f i + sumL f l := by unfold sumL; simp
theorem sumL_nonneg {f : Nat → Int} : ∀ {l : List Nat}, (∀ i ∈ l, 0 ≤ f i) → 0 ≤ sumL f l
  | [], _ => Int.le_refl _
  | i :: l, h => by
    rw [sumL_cons]
    have := h i (List.mem_cons_self ..); have := sumL_nonneg (fun j hj => h j (List.mem_cons_of_mem _ hj)); omega
theorem sumL_le {f g : Nat → Int} : ∀ {l : List Nat}, (∀ i ∈ l, f i ≤ g i) → sumL f l ≤ sumL g l
  | [], _ => Int.le_refl _
  | i :: l, h => by
    rw [sumL_cons, sumL_cons]
    have := h i (List.mem_cons_self ..); have := sumL_le (fun j hj => h j (List.mem_cons_of_mem _ hj)); omega
theorem sumL_sub {f : Nat → Int} {l m : List Nat} (h : l.Sublist m) (h0 : ∀ i, 0 ≤ f i) : sumL f l ≤ sumL f m := by
  induction h with
  | slnil => exact Int.le_refl _
  | cons a _ ih => rw [sumL_cons]; have := h0 a; omega
  | cons_cons a _ ih => rw [sumL_cons, sumL_cons]; omega
theorem sumL_mul (k : Int) (f : Nat → Int) : ∀ l : List Nat, sumL (fun i => k * f i) l = k * sumL f l
  | [] => by simp [sumL]
  | i :: l => by rw [sumL_cons, sumL_cons, sumL_mul k f l, Int.mul_add]
/-- Stakes that are together no more than a number of 64 bits. -/
structure VOk (vs : List Vtr) : Prop where
  s : ∀ i, 0 ≤ st vs i
  t : sumL (st vs) (List.range vs.length) ≤ 18446744073709551615
structure EOk (vs : List Vtr) (a : Nat) (S : Est) : Prop where
  d0 : 0 < S.D
  d1 : S.D < pw a
  ll : S.ld.length = vs.length
  l0 : ∀ x ∈ S.ld, 0 ≤ x ∧ x < pw a
  el : S.ed.length = vs.length
  e0 : ∀ i l, S.ed[i]? = some l → (∀ x ∈ l, 0 ≤ x.2.1 ∧ x.2.1 < pw a ∧ 0 < x.2.2 ∧ x.2.2 < pw a) ∧ (l ≠ [] → 0 < at0 S.ld i)
  s0 : ∀ x ∈ S.se, 0 ≤ x.2.1 ∧ x.2.1 < pw a ∧ 0 < x.2.2 ∧ x.2.2 < pw a
  k0 : ∀ (i : Nat) (l : List (Int × Int × Int)), S.ed[i]? = some l → ∀ x ∈ l, ∃ y ∈ S.se, y.1 = x.1
theorem at0_ok {l : List Int} {p : Int} (hp : 0 < p) (h : ∀ x ∈ l, 0 ≤ x ∧ x < p) (i : Nat) : 0 ≤ at0 l i ∧ at0 l i < p := by
  unfold at0
  cases e : l[i]? with
  | none => exact ⟨Int.le_refl _, hp⟩
  | some x => exact h x (List.mem_of_getElem? e)
theorem EOk.at {vs : List Vtr} {a : Nat} {S : Est} (h : EOk vs a S) (i : Nat) : 0 ≤ at0 S.ld i ∧ at0 S.ld i < pw a := at0_ok (pw_pos a) h.l0 i
theorem ap_sub (vs : List Vtr) (c : Int) : (ap vs c).Sublist (List.range vs.length) := List.filter_sublist
theorem ap_mem {vs : List Vtr} {c : Int} {i : Nat} : i ∈ ap vs c ↔ i < vs.length ∧ 0 < st vs i ∧ c ∈ pks vs i := by
  unfold ap; simp [List.mem_filter, List.mem_range]
theorem ap_nodup (vs : List Vtr) (c : Int) : (ap vs c).Nodup := (List.nodup_range).sublist (ap_sub vs c)
theorem scT_le {vs : List Vtr} (hv : VOk vs) {l : List Nat} (hl : l.Sublist (List.range vs.length)) : 0 ≤ scT vs l ∧ scT vs l ≤ 18446744073709551615 :=
  ⟨sumL_nonneg fun i _ => hv.s i, Int.le_trans (sumL_sub hl hv.s) hv.t⟩
theorem scT_pos {vs : List Vtr} (hv : VOk vs) {c : Int} (h : ap vs c ≠ []) : 0 < scT vs (ap vs c) := by
  obtain ⟨i, l, e⟩ := List.exists_cons_of_ne_nil h
  have hi : i ∈ ap vs c := by rw [e]; exact List.mem_cons_self ..
  unfold scT
  rw [e, sumL_cons]
  have := (ap_mem.1 hi).2.1
  have := sumL_nonneg (f := st vs) (l := l) fun i _ => hv.s i
  omega
theorem scN_ok {vs : List Vtr} (hv : VOk vs) {a : Nat} {S : Est} (h : EOk vs a S) {l : List Nat} (hl : l.Sublist (List.range vs.length)) : 0 < scN S.D vs S.ld l ∧ scN S.D vs S.ld l < pw (a + 3) := by
  have h1 := scT_le hv hl
  have h2 : sumL (fun i => at0 S.ld i * st vs i) l ≤ sumL (fun i => (pw a - 1) * st vs i) l := sumL_le fun i _ => Int.mul_le_mul_of_nonneg_right (by have := (h.at i).2; omega) (hv.s i)
  rw [sumL_mul] at h2
  have h3 : 0 ≤ sumL (fun i => at0 S.ld i * st vs i) l := sumL_nonneg fun i _ => Int.mul_nonneg (h.at i).1 (hv.s i)
  have h4 := pw_two
  have h5 : (pw a - 1) * scT vs l < pw (a + 2) := mul_lt_pw (by have := pw_pos a; omega) (by omega) (by omega) h1.1
  have h6 := h.d0
  have h7 : S.D < pw (a + 2) := lt_pw_le h.d1 (by omega)
  unfold scN
  unfold scT at h5
  exact ⟨by omega, add_lt_pw h7 (by omega)⟩
theorem best_ok {vs : List Vtr} {S : Est} {cs : List Int} {b : Int × Int × Int} (h : best vs S cs = some b) : b.1 ∈ cs ∧ elig vs S b.1 = true ∧ b.2.1 = scN S.D vs S.ld (ap vs b.1) ∧ b.2.2 = scT vs (ap vs b.1) := by
  have key : ∀ (l : List Int) (b0 : Bs), (∀ x, b0 = some x → x.1 ∈ cs ∧ elig vs S x.1 = true ∧ x.2.1 = scN S.D vs S.ld (ap vs x.1) ∧ x.2.2 = scT vs (ap vs x.1)) → (∀ c ∈ l, c ∈ cs) → ∀ x, l.foldl (seek vs S) b0 = some x → x.1 ∈ cs ∧ elig vs S x.1 = true ∧ x.2.1 = scN S.D vs S.ld (ap vs x.1) ∧ x.2.2 = scT vs (ap vs x.1) := by
    intro l
    induction l with
    | nil => exact fun b0 h0 _ => h0
    | cons c l ih =>
      intro b0 h0 hl x hx
      refine ih _ (fun y hy => ?_) (fun d hd => hl d (List.mem_cons_of_mem _ hd)) x hx
      unfold seek at hy
      split at hy
      next he =>
        split at hy
        · injection hy with hy; subst hy
          exact ⟨hl c (List.mem_cons_self ..), he, rfl, rfl⟩
        · exact h0 y hy
      next => exact h0 y hy
  exact key cs none (fun x hx => by cases hx) (fun c hc => hc) b h
theorem elig_ap {vs : List Vtr} {S : Est} {c : Int} (h : elig vs S c = true) : ap vs c ≠ [] := by
  unfold elig at h
  intro e
  rw [e] at h
  simp at h
theorem loadTo_len (l : List Nat) (v : Int) (ld : List Int) : (loadTo l v ld).length = ld.length := by unfold loadTo; simp
theorem loadTo_get (l : List Nat) (v : Int) (ld : List Int) (i : Nat) : (loadTo l v ld)[i]? = (ld[i]?).map (fun x => if i ∈ l then v else x) := by
  unfold loadTo
  rw [List.getElem?_map, List.getElem?_zipIdx]
  cases ld[i]? <;> simp
theorem giveTo_len (l : List Nat) (c v D : Int) (ld : List Int) (ed : List (List (Int × Int × Int))) : (giveTo l c v D ld ed).length = ed.length := by unfold giveTo; simp
theorem giveTo_get (l : List Nat) (c v D : Int) (ld : List Int) (ed : List (List (Int × Int × Int))) (i : Nat) : (giveTo l c v D ld ed)[i]? = (ed[i]?).map (fun x => if i ∈ l then x ++ [(c, sub0 v (at0 ld i), D)] else x) := by
  unfold giveTo
  rw [List.getElem?_map, List.getElem?_zipIdx]
  cases ed[i]? <;> simp
theorem at0_mul (ld : List Int) (k : Int) (i : Nat) : at0 (ld.map (· * k)) i = at0 ld i * k := by
  unfold at0
  rw [List.getElem?_map]
  cases ld[i]? <;> simp
theorem at0_load {l : List Nat} {v : Int} {ld : List Int} {i : Nat} (h : i < ld.length) : at0 (loadTo l v ld) i = if i ∈ l then v else at0 ld i := by
  unfold at0
  rw [loadTo_get, List.getElem?_eq_getElem h]
  simp
theorem sub0_ok {x y p : Int} (hx : 0 ≤ x) (hx' : x < p) (hy : 0 ≤ y) : 0 ≤ sub0 x y ∧ sub0 x y < p := by
  unfold sub0; split <;> omega
theorem next_ok {vs : List Vtr} (hv : VOk vs) {a : Nat} {S : Est} (h : EOk vs a S) {c : Int} (he : ap vs c ≠ []) : EOk vs (a + 3) (nextE vs S c (scN S.D vs S.ld (ap vs c)) (scT vs (ap vs c))) := by
  obtain ⟨n0, n1⟩ := scN_ok hv h (ap_sub vs c)
  have t0 := scT_pos hv he
  have t1 := (scT_le hv (ap_sub vs c)).2
  have p2 := pw_two
  generalize scN S.D vs S.ld (ap vs c) = N at n0 n1 ⊢
  generalize scT vs (ap vs c) = T at t0 t1 ⊢
  have up : ∀ x, 0 ≤ x → x < pw a → 0 ≤ x * T ∧ x * T < pw (a + 3) := fun x hx hx' => ⟨Int.mul_nonneg hx (by omega), lt_pw_le (mul_lt_pw hx hx' (n := 2) (by omega) (by omega)) (by omega)⟩
  have hD : 0 < S.D * T := Int.mul_pos h.d0 t0
  have hD' := (up S.D (by have := h.d0; omega) h.d1).2
  have hld : ∀ i, 0 ≤ at0 (S.ld.map (· * T)) i ∧ at0 (S.ld.map (· * T)) i < pw (a + 3) := fun i => by rw [at0_mul]; exact up _ (h.at i).1 (h.at i).2
  refine ⟨hD, hD', by show (loadTo _ _ _).length = _; rw [loadTo_len, List.length_map, h.ll], ?_, by show (giveTo _ _ _ _ _ _).length = _; rw [giveTo_len, h.el], ?_, ?_, ?_⟩
  · intro x hx
    obtain ⟨i, hi⟩ := List.getElem?_of_mem hx
    rw [show (nextE vs S c N T).ld = loadTo (ap vs c) N (S.ld.map (· * T)) by rfl, loadTo_get, List.getElem?_map] at hi
    cases e : S.ld[i]? with
    | none => rw [e] at hi; cases hi
    | some y =>
      rw [e] at hi
      simp only [Option.map_some, Option.some.injEq] at hi
      subst hi
      split
      · exact ⟨by omega, n1⟩
      · have := h.l0 y (List.mem_of_getElem? e)
        exact up y this.1 this.2
  · intro i l hl
    rw [show (nextE vs S c N T).ed = giveTo (ap vs c) c N (S.D * T) (S.ld.map (· * T)) S.ed by rfl, giveTo_get] at hl
    show _ ∧ (l ≠ [] → 0 < at0 (loadTo (ap vs c) N (S.ld.map (· * T))) i)
    cases e : S.ed[i]? with
    | none => rw [e] at hl; cases hl
    | some m =>
      have hi : i < (S.ld.map (· * T)).length := by
        rw [List.length_map, h.ll, ← h.el]
        exact (List.getElem?_eq_some_iff.1 e).1
      rw [e] at hl
      simp only [Option.map_some, Option.some.injEq] at hl
      obtain ⟨h1, h2⟩ := h.e0 i m e
      rw [at0_load hi, at0_mul]
      have h3 : ∀ x ∈ m, 0 ≤ x.2.1 ∧ x.2.1 < pw (a + 3) ∧ 0 < x.2.2 ∧ x.2.2 < pw (a + 3) := fun x hx => by
        obtain ⟨q1, q2, q3, q4⟩ := h1 x hx
        exact ⟨q1, lt_pw_le q2 (by omega), q3, lt_pw_le q4 (by omega)⟩
      split at hl
      next hm =>
        subst hl
        rw [if_pos hm]
        refine ⟨fun x hx => ?_, fun _ => n0⟩
        rcases List.mem_append.1 hx with hx | hx
        · exact h3 x hx
        · rw [List.mem_singleton.1 hx]
          have := sub0_ok (x := N) (p := pw (a + 3)) (by omega) n1 (hld i).1
          exact ⟨this.1, this.2, hD, hD'⟩
      next hm =>
        subst hl
        rw [if_neg hm]
        exact ⟨h3, fun hne => Int.mul_pos (h2 hne) t0⟩
  · intro x hx
    rcases List.mem_append.1 hx with hx | hx
    · obtain ⟨q1, q2, q3, q4⟩ := h.s0 x hx
      exact ⟨q1, lt_pw_le q2 (by omega), q3, lt_pw_le q4 (by omega)⟩
    · rw [List.mem_singleton.1 hx]
      exact ⟨by show 0 ≤ N; omega, n1, hD, hD'⟩
  · intro i l hl x hx
    rw [show (nextE vs S c N T).ed = giveTo (ap vs c) c N (S.D * T) (S.ld.map (· * T)) S.ed by rfl, giveTo_get] at hl
    show ∃ y ∈ S.se ++ [(c, N, S.D * T)], y.1 = x.1
    cases e : S.ed[i]? with
    | none => rw [e] at hl; cases hl
    | some m =>
      rw [e] at hl
      simp only [Option.map_some, Option.some.injEq] at hl
      have old : x ∈ m → ∃ y ∈ S.se ++ [(c, N, S.D * T)], y.1 = x.1 := fun hm => by
        obtain ⟨y, hy, e2⟩ := h.k0 i m e x hm
        exact ⟨y, List.mem_append_left _ hy, e2⟩
      split at hl
      · subst hl
        rcases List.mem_append.1 hx with hx | hx
        · exact old hx
        · rw [List.mem_singleton.1 hx]; exact ⟨_, List.mem_append_right _ (List.mem_singleton.2 rfl), rfl⟩
      · subst hl; exact old hx
theorem rnd_ok {vs : List Vtr} (hv : VOk vs) {cs : List Int} {a : Nat} {S S' : Est} (h : EOk vs a S) (hr : rnd vs cs S = some S') : EOk vs (a + 3) S' := by
  unfold rnd at hr
  cases hb : best vs S cs with
  | none => rw [hb] at hr; cases hr
  | some b =>
    rw [hb] at hr
    simp only [Option.map_some, Option.some.injEq] at hr
    obtain ⟨_, h2, h3, h4⟩ := best_ok hb
    rw [h3, h4] at hr
    rw [← hr]
    exact next_ok hv h (elig_ap h2)
theorem beg_ok (vs : List Vtr) : EOk vs 1 (begE vs) := by
  have h1 : (1 : Int) < pw 1 := by rw [pw_succ, pw_zero]; omega
  refine ⟨by show (0 : Int) < 1; omega, h1, by simp [begE], ?_, by simp [begE], ?_, fun x hx => (by cases hx), ?_⟩
  · intro x hx
    obtain ⟨v, _, rfl⟩ := List.mem_map.1 hx
    exact ⟨Int.le_refl _, pw_pos 1⟩
  · intro i l hl
    have hm : l ∈ vs.map (fun _ => ([] : List (Int × Int × Int))) := List.mem_of_getElem? hl
    obtain ⟨v, _, rfl⟩ := List.mem_map.1 hm
    exact ⟨fun x hx => (by cases hx), fun h => absurd rfl h⟩
  · intro i l hl
    have hm : l ∈ vs.map (fun _ => ([] : List (Int × Int × Int))) := List.mem_of_getElem? hl
    obtain ⟨v, _, rfl⟩ := List.mem_map.1 hm
    exact fun x hx => (by cases hx)
end Go.Proofs.Wk
/- Walks of the reference's fractions. -/
namespace Go.Proofs.Wk
open Go.RowKit
set_option maxRecDepth 100000
attribute [local irreducible] Pw OpG
set_option linter.unusedVariables false
set_option linter.unusedSimpArgs false
theorem lowest_ct (a b : List Int) (x y : Option Addr × Nat) (ha : Fm a) (hb : Fm b) (hb0 : b.length ≠ 0) (hl : a.length < 1048576) (hl' : b.length < 1048576) :
    Ct Try.prog 44 #[sl a x, sl b y] (fun W => S1 a x W ∧ S1 b y W) (fun z : Z2 => rt (lowS a b).1 (lowS a b).2 z) Tt (fun z => R2 (lowS a b).1 (lowS a b).2 z) := by
  refine Ct.start Try.func44 rfl rfl (slots_of rfl slots2) (fun D w0 => Pw.facts two2 ?_)
  have hbp := val_pos_of hb hb0
  have g0 := gcdI_pos (x := val a) hbp
  have gl := gcdI_le (x := val a) hbp
  have hg := rgcd_ct a b x y ha hb hl hl'
  unfold lowS
  obtain ⟨G, hG⟩ : ∃ g, g = gcdI (val a) (val b) := ⟨_, rfl⟩
  rw [← hG] at g0 gl hg ⊢
  have pb := val_lt_pw hb.1
  have lg := natL_len_le (n := b.length) (show 0 ≤ G by omega) (by omega)
  have hz : (natL G).length ≠ 0 := fun e => by have := (natL_len_zero (show 0 ≤ G by omega)).1 e; omega
  repeat (first | refine Pw.runs ?_ | refine Pw.list (Pw.box rfl rfl rfl rfl (fun _ => freeHead ?_)) | refine Pw.list (Pw.alloc rfl rfl rfl rfl rfl (fun _ => ?_)))
  refine Pw.list (Pw.call hg rfl rfl rfl (by kernel_rfl) rfl rfl (fun w h => ⟨(hv w h), (hv w h)⟩) ?_)
  intro zg _
  have d1 := rdivMod_ct a (natL G) x zg ha (natL_fm G) hz hl (by omega)
  have d2 := rdivMod_ct b (natL G) y zg hb (natL_fm G) hz hl' (by omega)
  rw [val_natL (by omega)] at d1 d2
  repeat (first | refine Pw.runs ?_ | refine Pw.list (Pw.box rfl rfl rfl rfl (fun _ => freeHead ?_)) | refine Pw.list (Pw.alloc rfl rfl rfl rfl rfl (fun _ => ?_)))
  refine Pw.list (Pw.call d1 rfl rfl rfl (by kernel_rfl) rfl rfl (fun w h => ⟨(hv w h), (hv w h)⟩) ?_)
  intro z1 _
  repeat (first | refine Pw.runs ?_ | refine Pw.list (Pw.box rfl rfl rfl rfl (fun _ => freeHead ?_)) | refine Pw.list (Pw.alloc rfl rfl rfl rfl rfl (fun _ => ?_)))
  refine Pw.list (Pw.call d2 rfl rfl rfl (by kernel_rfl) rfl rfl (fun w h => ⟨(hv w h), (hv w h)⟩) ?_)
  intro z2 _
  repeat (first | refine Pw.runs ?_ | refine Pw.list (Pw.box rfl rfl rfl rfl (fun _ => freeHead ?_)) | refine Pw.list (Pw.alloc rfl rfl rfl rfl rfl (fun _ => ?_)))
  exact Pw.ret_ (x := (z1.1, z2.1)) (.cell rfl (fun w hs => hs.own _ (.head _)) rfl .nil) rfl trivial (fun w h => ⟨(fact1 h).1, (fact0 h).1⟩)
theorem SameRatio_ct (a b c d : List Int) (y z : Z2) (ha : Fm a) (hb : Fm b) (hc : Fm c) (hd : Fm d) (la : a.length < 1048576) (lb : b.length < 1048576) (lc : c.length < 1048576) (ld : d.length < 1048576) :
    Ct Try.prog 43 #[rt a b y, rt c d z] (fun W => R2 a b y W ∧ R2 c d z W) (fun _ : Unit => .bool (decide (val a = val c) && decide (val b = val d))) Tt (fun _ _ => True) := by
  refine Ct.start Try.func43 rfl rfl (slots_of rfl slots2) (fun D w0 => Pw.facts two2 ?_)
  repeat (first | refine Pw.runs ?_ | refine Pw.list (Pw.box rfl rfl rfl rfl (fun _ => freeHead ?_)) | refine Pw.list (Pw.alloc rfl rfl rfl rfl rfl (fun _ => ?_)))
  refine Pw.list (Pw.call (rSame_ct a c y.1 z.1 ha hc (by omega) (by omega)) rfl rfl rfl (by kernel_rfl) rfl rfl (fun w h => ⟨(hv w h), (hv w h)⟩) ?_)
  intro _ _
  generalize decide (val a = val c) = t
  cases t
  · repeat (first | refine Pw.runs ?_ | refine Pw.list (Pw.box rfl rfl rfl rfl (fun _ => freeHead ?_)) | refine Pw.list (Pw.alloc rfl rfl rfl rfl rfl (fun _ => ?_)))
    exact Pw.ret_ (x := ()) (.tmp rfl .nil) rfl trivial (fun w h => by trivial)
  · repeat (first | refine Pw.runs ?_ | refine Pw.list (Pw.box rfl rfl rfl rfl (fun _ => freeHead ?_)) | refine Pw.list (Pw.alloc rfl rfl rfl rfl rfl (fun _ => ?_)))
    refine Pw.list (Pw.call (rSame_ct b d y.2 z.2 hb hd (by omega) (by omega)) rfl rfl rfl (by kernel_rfl) rfl rfl (fun w h => ⟨(hv w h), (hv w h)⟩) ?_)
    intro _ _
    repeat (first | refine Pw.runs ?_ | refine Pw.list (Pw.box rfl rfl rfl rfl (fun _ => freeHead ?_)) | refine Pw.list (Pw.alloc rfl rfl rfl rfl rfl (fun _ => ?_)))
    exact Pw.ret_ (x := ()) (.tmp rfl .nil) rfl trivial (fun w h => by trivial)
end Go.Proofs.Wk
/- Walks of the reference's fractions: reckoning. -/
namespace Go.Proofs.Wk
open Go.RowKit
set_option maxRecDepth 100000
attribute [local irreducible] Pw OpG
set_option linter.unusedVariables false
set_option linter.unusedSimpArgs false
end Go.Proofs.Wk
/- Walks of the laws of layer 2: their helpers. -/
namespace Go.Proofs.Wk
open Go.RowKit
set_option maxRecDepth 100000
attribute [local irreducible] Pw OpG
set_option linter.unusedVariables false
set_option linter.unusedSimpArgs false
theorem Ours_ct (a b : List Int) (z : Z2) : Ct Try.prog 33 #[rt a b z] (fun _ => True) (fun _ : Unit => rt a b z) Tt (fun _ _ => True) := by
  refine Ct.start Try.func33 rfl rfl (slots_of rfl slots1) (fun D w0 => ?_)
  repeat (first | refine Pw.runs ?_ | refine Pw.list (Pw.box rfl rfl rfl rfl (fun _ => freeHead ?_)) | refine Pw.list (Pw.alloc rfl rfl rfl rfl rfl (fun _ => ?_)))
  exact Pw.ret_ (x := ()) (.cell rfl (fun w hs => hs.own _ (.head _)) rfl .nil) rfl trivial (fun w h => by trivial)
theorem rat_Same_ct (a b : List Int) (y z : Z2) (ha : Fm a) (hb : Fm b) (la : a.length < 1048576) (lb : b.length < 1048576) :
    Ct Try.prog 20 #[rt a b y, rt a b z] (fun W => R2 a b y W ∧ R2 a b z W) (fun _ : Unit => .bool true) Tt (fun _ _ => True) := by
  refine Ct.start Try.func20 rfl rfl (slots_of rfl slots2) (fun D w0 => Pw.facts two2 ?_)
  repeat (first | refine Pw.runs ?_ | refine Pw.list (Pw.box rfl rfl rfl rfl (fun _ => freeHead ?_)) | refine Pw.list (Pw.alloc rfl rfl rfl rfl rfl (fun _ => ?_)))
  have hs := SameRatio_ct a b a b y z ha hb ha hb la lb la lb
  rw [decide_eq_true rfl, decide_eq_true rfl] at hs
  refine Pw.drawnG mixed rfl rfl ?_
  refine Pw.takeF 0 (nb 5 1) rfl rfl inferInstance rfl rfl rfl (by kernel_rfl) np sf ?_
  refine Pw.takeF 2 (nb 5 5) rfl rfl inferInstance rfl rfl rfl (by kernel_rfl) np sf ?_
  refine Pw.one 1 (nb 5 7) rfl (by kernel_rfl) ?_
  refine Pw.call (Ours_ct a b y) rfl rfl rfl (by kernel_rfl) rfl rfl (fun w h => trivial) ?_
  intro _ _
  refine Pw.held sf ?_
  refine Pw.one 3 (nb 5 15) rfl (by kernel_rfl) ?_
  refine Pw.call hs rfl rfl rfl (by kernel_rfl) rfl rfl (fun w h => ⟨(by first | exact fact3 h | exact fact3 (allTail h) | exact fact2 h), (by first | exact fact3 (allTail h) | exact fact3 h)⟩) ?_
  intro _ _
  refine Pw.held sf ?_
  refine Pw.takeP 4 (nb 5 31) rfl rfl rfl rfl (by kernel_rfl) np sf ?_
  refine Pw.done (by kernel_rfl) ?_
  skip
  try refine Pw.run ?_
  exact Pw.ret_ (x := ()) (.tmp rfl .nil) rfl trivial (fun w h => by trivial)
end Go.Proofs.Wk
/- The law RatioProducts walked. -/
namespace Go.Proofs.Wk
open Go.RowKit
set_option maxRecDepth 100000
set_option maxHeartbeats 4000000
attribute [local irreducible] Pw OpG
set_option linter.unusedVariables false
set_option linter.unusedSimpArgs false
end Go.Proofs.Wk
/- Walks of the reference's fractions: comparing, adding, subtracting, the lesser one. -/
namespace Go.Proofs.Wk
open Go.RowKit
set_option maxRecDepth 100000
set_option maxHeartbeats 4000000
attribute [local irreducible] Pw OpG
set_option linter.unusedVariables false
set_option linter.unusedSimpArgs false
end Go.Proofs.Wk
/- The law RatioSums walked. -/
namespace Go.Proofs.Wk
open Go.RowKit
set_option maxRecDepth 100000
set_option maxHeartbeats 4000000
attribute [local irreducible] Pw OpG
set_option linter.unusedVariables false
set_option linter.unusedSimpArgs false
end Go.Proofs.Wk
/- Shares: plain facts of what members are given. -/
namespace Go.Proofs.Wk
open Go.RowKit
set_option linter.unusedVariables false
set_option linter.unusedSimpArgs false
structure Shr where
  v : Int
  c : Int
  a : List Int
  b : List Int
  z : Z2
structure ShrW (s : Shr) : Prop where
  a : Lm s.a
  b : Lm s.b
def encS (s : Shr) : List Value := [.int .i64 s.v, .int .i64 s.c, sl s.a s.z.1, sl s.b s.z.2]
def heldS (s : Shr) (W : World) : Prop := R2 s.a s.b s.z W
abbrev SS (l : List Shr) (x : Option Addr × Nat) : World → Prop := Rows (RR encS heldS) 4 l x.1 x.2
abbrev ssV (l : List Shr) (x : Option Addr × Nat) : Value := .slice x.1 l.length x.2
structure Rt where
  a : List Int
  b : List Int
  z : Z2
def cellsS (l : List Shr) : List Value := l.flatMap encS
theorem encS_one (s : Shr) : ∀ u ∈ encS s, u.oneCell' = true := by
  intro u hu
  unfold encS at hu
  simp only [List.mem_cons, List.not_mem_nil, or_false] at hu
  rcases hu with rfl | rfl | rfl | rfl <;> rfl
abbrev R3t := List Int × List Int × Int
structure R3ok (t : R3t) : Prop where
  a : Fm t.1
  b : Fm t.2.1
  la : t.1.length < 1048576
  lb : t.2.1.length < 1048576
end Go.Proofs.Wk
