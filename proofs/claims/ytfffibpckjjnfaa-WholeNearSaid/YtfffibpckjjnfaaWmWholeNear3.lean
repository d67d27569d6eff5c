/- Walks and their mathematics, merged. No conditions beyond those written. -/
import Derived.Test.YtfffibpckjjnfaaWmWholeNear2
/- Walks of layer 2: multiplying, dividing, rounding down. -/
namespace Go.Proofs.Wk
open Go.RowKit
set_option maxRecDepth 100000
attribute [local irreducible] Pw OpG
set_option linter.unusedVariables false
set_option linter.unusedSimpArgs false
abbrev mkO (e : Int) : Obj := row [.int .i64 e] 136
theorem mk_mul_ct (a b : List Int) (x y : Option Addr × Nat) (g : Nat) (e : Int) (ha : Lm a) (hb : Lm b) (hl : a.length < 1048576) (hl' : b.length < 1048576) :
    Ct1 Try.prog 76 #[.pointer (some ⟨g, 0, none⟩), sl a x, sl b y] g (mkO e) (fun W => S1 a x W ∧ S1 b y W) (fun z => sl (mulS a b).1 z) Tt (fun _ => mkO (if e = 0 then (mulS a b).2 else e)) (fun z => S1 (mulS a b).1 z) := by
  refine Ct1.start Try.func76 rfl rfl (slots_of rfl slots3) (fun D w0 hD => Pw.facts two2 ?_)
  repeat (first | (with_reducible first | refine Pw.seq ?_ | refine Pw.region ?_ | refine Pw.nil ?_ | refine Pw.then_ ?_ | refine Pw.skip ?_ | refine Pw.block ?_ | refine Pw.exit ?_ | refine Pw.inX ?_ | refine Pw.inN ?_ | refine Pw.inR ?_ | refine Pw.thenX ?_ | refine Pw.thenR ?_ | refine Pw.ret ?_) | refine Pw.list (Pw.pure rfl rfl rfl ?_) | refine Pw.inY rfl ?_ | refine Pw.list (Pw.off rfl rfl ?_) | refine Pw.condT rfl ?_ | refine Pw.condF rfl ?_ | refine Pw.list (Pw.box rfl rfl rfl rfl (fun _ => ?_)) | refine Pw.list (Pw.alloc rfl rfl rfl rfl rfl (fun _ => ?_)) | refine Pw.list (Pw.build rfl rfl rfl rfl ?_) | refine Pw.list (Pw.ld rfl inferInstance rfl rfl rfl ?_) | refine Pw.list (Pw.sto rfl rfl inferInstance rfl rfl rfl rfl rfl inferInstance rfl ?_))
  refine Pw.list (Pw.call (Mul_ct a b x y ha hb hl hl') rfl rfl rfl (by kernel_rfl) rfl rfl (fun w h => ⟨fact0 h, fact1 h⟩) ?_)
  intro z _
  repeat (first | (with_reducible first | refine Pw.seq ?_ | refine Pw.region ?_ | refine Pw.nil ?_ | refine Pw.then_ ?_ | refine Pw.skip ?_ | refine Pw.block ?_ | refine Pw.exit ?_ | refine Pw.inX ?_ | refine Pw.inN ?_ | refine Pw.inR ?_ | refine Pw.thenX ?_ | refine Pw.thenR ?_ | refine Pw.ret ?_) | refine Pw.list (Pw.pure rfl rfl rfl ?_) | refine Pw.inY rfl ?_ | refine Pw.list (Pw.off rfl rfl ?_) | refine Pw.condT rfl ?_ | refine Pw.condF rfl ?_ | refine Pw.list (Pw.box rfl rfl rfl rfl (fun _ => ?_)) | refine Pw.list (Pw.alloc rfl rfl rfl rfl rfl (fun _ => ?_)) | refine Pw.list (Pw.build rfl rfl rfl rfl ?_) | refine Pw.list (Pw.ld rfl inferInstance rfl rfl rfl ?_) | refine Pw.list (Pw.sto rfl rfl inferInstance rfl rfl rfl rfl rfl inferInstance rfl ?_))
  refine Pw.condD rfl (fun c1 => ?_) (fun c1 => ?_)
  · simp only [if_pos c1]
    repeat (first | (with_reducible first | refine Pw.seq ?_ | refine Pw.region ?_ | refine Pw.nil ?_ | refine Pw.then_ ?_ | refine Pw.skip ?_ | refine Pw.block ?_ | refine Pw.exit ?_ | refine Pw.inX ?_ | refine Pw.inN ?_ | refine Pw.inR ?_ | refine Pw.thenX ?_ | refine Pw.thenR ?_ | refine Pw.ret ?_) | refine Pw.list (Pw.pure rfl rfl rfl ?_) | refine Pw.inY rfl ?_ | refine Pw.list (Pw.off rfl rfl ?_) | refine Pw.condT rfl ?_ | refine Pw.condF rfl ?_ | refine Pw.list (Pw.box rfl rfl rfl rfl (fun _ => ?_)) | refine Pw.list (Pw.alloc rfl rfl rfl rfl rfl (fun _ => ?_)) | refine Pw.list (Pw.build rfl rfl rfl rfl ?_) | refine Pw.list (Pw.ld rfl inferInstance rfl rfl rfl ?_) | refine Pw.list (Pw.sto rfl rfl inferInstance rfl rfl rfl rfl rfl inferInstance rfl ?_))
    exact Pw.ret1 (x := z) hD (.head _) (.tmp rfl .nil) rfl trivial (fun w h => fact0 h)
  · simp only [if_neg c1]
    repeat (first | (with_reducible first | refine Pw.seq ?_ | refine Pw.region ?_ | refine Pw.nil ?_ | refine Pw.then_ ?_ | refine Pw.skip ?_ | refine Pw.block ?_ | refine Pw.exit ?_ | refine Pw.inX ?_ | refine Pw.inN ?_ | refine Pw.inR ?_ | refine Pw.thenX ?_ | refine Pw.thenR ?_ | refine Pw.ret ?_) | refine Pw.list (Pw.pure rfl rfl rfl ?_) | refine Pw.inY rfl ?_ | refine Pw.list (Pw.off rfl rfl ?_) | refine Pw.condT rfl ?_ | refine Pw.condF rfl ?_ | refine Pw.list (Pw.box rfl rfl rfl rfl (fun _ => ?_)) | refine Pw.list (Pw.alloc rfl rfl rfl rfl rfl (fun _ => ?_)) | refine Pw.list (Pw.build rfl rfl rfl rfl ?_) | refine Pw.list (Pw.ld rfl inferInstance rfl rfl rfl ?_) | refine Pw.list (Pw.sto rfl rfl inferInstance rfl rfl rfl rfl rfl inferInstance rfl ?_))
    exact Pw.ret1 (x := z) hD (.head _) (.tmp rfl .nil) rfl trivial (fun w h => fact0 h)
theorem mk_mul0_ct (a b : List Int) (x y : Option Addr × Nat) (g : Nat) (ha : Lm a) (hb : Lm b) (hl : a.length < 1048576) (hl' : b.length < 1048576) :
    Ct1 Try.prog 76 #[.pointer (some ⟨g, 0, none⟩), sl a x, sl b y] g (mkO 0) (fun W => S1 a x W ∧ S1 b y W) (fun z => sl (mulS a b).1 z) Tt (fun _ => mkO (mulS a b).2) (fun z => S1 (mulS a b).1 z) := by
  have := mk_mul_ct a b x y g 0 ha hb hl hl'
  rw [if_pos rfl] at this
  exact this
def endS (e e' : Int) (a b : List Int) : List Int × List Int × Int := if e ≠ 0 then ([], [], e) else if e' ≠ 0 then ([], [], e') else makeS a b
theorem mk_end_ct (a b : List Int) (x y : Option Addr × Nat) (g : Nat) (e e' : Int) (ha : Lm a) (hb : Lm b) (hl : a.length < 1048576) (hl' : b.length < 1048576) :
    Ct Try.prog 82 #[.pointer (some ⟨g, 0, none⟩), sl a x, sl b y, .int .i64 e'] (fun W => W.heap[g]? = some (mkO e) ∧ S1 a x W ∧ S1 b y W) (fun z : Z2 => .tuple #[rt (endS e e' a b).1 (endS e e' a b).2.1 z, .int .i64 (endS e e' a b).2.2]) Tt (fun z => R2 (endS e e' a b).1 (endS e e' a b).2.1 z) := by
  refine Ct.start Try.func82 rfl rfl (slots_of rfl slots4) (fun D w0 => Pw.facts (G' := [fun W => W.heap[g]? = some (mkO e), S1 a x, S1 b y]) (fun w h => allCons (fact0 h).1 (allCons (fact0 h).2.1 (allCons (fact0 h).2.2 allNil))) ?_)
  unfold endS
  repeat (first | (with_reducible first | refine Pw.seq ?_ | refine Pw.region ?_ | refine Pw.nil ?_ | refine Pw.then_ ?_ | refine Pw.skip ?_ | refine Pw.block ?_ | refine Pw.exit ?_ | refine Pw.inX ?_ | refine Pw.inN ?_ | refine Pw.inR ?_ | refine Pw.thenX ?_ | refine Pw.thenR ?_ | refine Pw.ret ?_) | refine Pw.list (Pw.pure rfl rfl rfl ?_) | refine Pw.inY rfl ?_ | refine Pw.list (Pw.off rfl rfl ?_) | refine Pw.condT rfl ?_ | refine Pw.condF rfl ?_ | refine Pw.list (Pw.box rfl rfl rfl rfl (fun _ => ?_)) | refine Pw.list (Pw.alloc rfl rfl rfl rfl rfl (fun _ => ?_)) | refine Pw.list (Pw.build rfl rfl rfl rfl ?_) | refine Pw.list (Pw.ld rfl inferInstance rfl rfl rfl ?_) | refine Pw.list (Pw.sto rfl rfl inferInstance rfl rfl rfl rfl rfl inferInstance rfl ?_))
  refine Pw.condD rfl (fun c1 => ?_) (fun c1 => ?_)
  · rw [if_pos c1]
    repeat (first | (with_reducible first | refine Pw.seq ?_ | refine Pw.region ?_ | refine Pw.nil ?_ | refine Pw.then_ ?_ | refine Pw.skip ?_ | refine Pw.block ?_ | refine Pw.exit ?_ | refine Pw.inX ?_ | refine Pw.inN ?_ | refine Pw.inR ?_ | refine Pw.thenX ?_ | refine Pw.thenR ?_ | refine Pw.ret ?_) | refine Pw.list (Pw.pure rfl rfl rfl ?_) | refine Pw.inY rfl ?_ | refine Pw.list (Pw.off rfl rfl ?_) | refine Pw.condT rfl ?_ | refine Pw.condF rfl ?_ | refine Pw.list (Pw.box rfl rfl rfl rfl (fun _ => ?_)) | refine Pw.list (Pw.alloc rfl rfl rfl rfl rfl (fun _ => ?_)) | refine Pw.list (Pw.build rfl rfl rfl rfl ?_) | refine Pw.list (Pw.ld rfl inferInstance rfl rfl rfl ?_) | refine Pw.list (Pw.sto rfl rfl inferInstance rfl rfl rfl rfl rfl inferInstance rfl ?_))
    refine Pw.drawnG mixed rfl rfl ?_
    refine Pw.takeBuild 0 (nb 7 1) rfl rfl rfl rfl rfl (by kernel_rfl) np sf ?_
    refine Pw.takeP 1 (nb 7 3) rfl rfl rfl rfl (by kernel_rfl) np sf ?_
    refine Pw.takeP 2 (nb 7 7) rfl rfl rfl rfl (by kernel_rfl) np sf ?_
    refine Pw.takeP 3 (nb 7 15) rfl rfl rfl rfl (by kernel_rfl) np sf ?_
    refine Pw.takeF 4 (nb 7 31) rfl rfl inferInstance rfl rfl rfl (by kernel_rfl) np sf ?_
    refine Pw.one 5 (nb 7 63) rfl (by kernel_rfl) ?_
    -- eff Op.store 39 (Operand.tmp 8) (Operand.tmp 15)
    refine Pw.storeB rfl rfl .head rfl rfl rfl rfl rfl rfl (Pw.held (fun w h => h.all) ?_)
    refine Pw.takeP 6 (nb 7 127) rfl rfl rfl rfl (by kernel_rfl) np sf ?_
    refine Pw.done (by kernel_rfl) ?_
    repeat (first | (with_reducible first | refine Pw.seq ?_ | refine Pw.region ?_ | refine Pw.nil ?_ | refine Pw.then_ ?_ | refine Pw.skip ?_ | refine Pw.block ?_ | refine Pw.exit ?_ | refine Pw.inX ?_ | refine Pw.inN ?_ | refine Pw.inR ?_ | refine Pw.thenX ?_ | refine Pw.thenR ?_ | refine Pw.ret ?_) | refine Pw.list (Pw.pure rfl rfl rfl ?_) | refine Pw.inY rfl ?_ | refine Pw.list (Pw.off rfl rfl ?_) | refine Pw.condT rfl ?_ | refine Pw.condF rfl ?_)
    exact Pw.ret_ (x := z0) (.cell rfl (fun w hs => hs.own _ (.head _)) rfl (.tmp rfl .nil)) rfl trivial (fun w h => R2.nil w)
  · rw [if_neg c1]
    repeat (first | (with_reducible first | refine Pw.seq ?_ | refine Pw.region ?_ | refine Pw.nil ?_ | refine Pw.then_ ?_ | refine Pw.skip ?_ | refine Pw.block ?_ | refine Pw.exit ?_ | refine Pw.inX ?_ | refine Pw.inN ?_ | refine Pw.inR ?_ | refine Pw.thenX ?_ | refine Pw.thenR ?_ | refine Pw.ret ?_) | refine Pw.list (Pw.pure rfl rfl rfl ?_) | refine Pw.inY rfl ?_ | refine Pw.list (Pw.off rfl rfl ?_) | refine Pw.condT rfl ?_ | refine Pw.condF rfl ?_ | refine Pw.list (Pw.box rfl rfl rfl rfl (fun _ => ?_)) | refine Pw.list (Pw.alloc rfl rfl rfl rfl rfl (fun _ => ?_)) | refine Pw.list (Pw.build rfl rfl rfl rfl ?_) | refine Pw.list (Pw.ld rfl inferInstance rfl rfl rfl ?_) | refine Pw.list (Pw.sto rfl rfl inferInstance rfl rfl rfl rfl rfl inferInstance rfl ?_))
    refine Pw.condD rfl (fun c2 => ?_) (fun c2 => ?_)
    · rw [if_pos c2]
      repeat (first | (with_reducible first | refine Pw.seq ?_ | refine Pw.region ?_ | refine Pw.nil ?_ | refine Pw.then_ ?_ | refine Pw.skip ?_ | refine Pw.block ?_ | refine Pw.exit ?_ | refine Pw.inX ?_ | refine Pw.inN ?_ | refine Pw.inR ?_ | refine Pw.thenX ?_ | refine Pw.thenR ?_ | refine Pw.ret ?_) | refine Pw.list (Pw.pure rfl rfl rfl ?_) | refine Pw.inY rfl ?_ | refine Pw.list (Pw.off rfl rfl ?_) | refine Pw.condT rfl ?_ | refine Pw.condF rfl ?_ | refine Pw.list (Pw.box rfl rfl rfl rfl (fun _ => ?_)) | refine Pw.list (Pw.alloc rfl rfl rfl rfl rfl (fun _ => ?_)) | refine Pw.list (Pw.build rfl rfl rfl rfl ?_) | refine Pw.list (Pw.ld rfl inferInstance rfl rfl rfl ?_) | refine Pw.list (Pw.sto rfl rfl inferInstance rfl rfl rfl rfl rfl inferInstance rfl ?_))
      exact Pw.ret_ (x := z0) (.cell rfl (fun w hs => hs.own _ (.head _)) rfl (.tmp rfl .nil)) rfl trivial (fun w h => R2.nil w)
    · rw [if_neg c2]
      repeat (first | (with_reducible first | refine Pw.seq ?_ | refine Pw.region ?_ | refine Pw.nil ?_ | refine Pw.then_ ?_ | refine Pw.skip ?_ | refine Pw.block ?_ | refine Pw.exit ?_ | refine Pw.inX ?_ | refine Pw.inN ?_ | refine Pw.inR ?_ | refine Pw.thenX ?_ | refine Pw.thenR ?_ | refine Pw.ret ?_) | refine Pw.list (Pw.pure rfl rfl rfl ?_) | refine Pw.inY rfl ?_ | refine Pw.list (Pw.off rfl rfl ?_) | refine Pw.condT rfl ?_ | refine Pw.condF rfl ?_ | refine Pw.list (Pw.box rfl rfl rfl rfl (fun _ => ?_)) | refine Pw.list (Pw.alloc rfl rfl rfl rfl rfl (fun _ => ?_)) | refine Pw.list (Pw.build rfl rfl rfl rfl ?_) | refine Pw.list (Pw.ld rfl inferInstance rfl rfl rfl ?_) | refine Pw.list (Pw.sto rfl rfl inferInstance rfl rfl rfl rfl rfl inferInstance rfl ?_))
      refine Pw.list (Pw.call (Make_ct a b x y ha hb hl hl') rfl rfl rfl (by kernel_rfl) rfl rfl (fun w h => ⟨fact1 h, fact2 h⟩) ?_)
      intro z _
      repeat (first | (with_reducible first | refine Pw.seq ?_ | refine Pw.region ?_ | refine Pw.nil ?_ | refine Pw.then_ ?_ | refine Pw.skip ?_ | refine Pw.block ?_ | refine Pw.exit ?_ | refine Pw.inX ?_ | refine Pw.inN ?_ | refine Pw.inR ?_ | refine Pw.thenX ?_ | refine Pw.thenR ?_ | refine Pw.ret ?_) | refine Pw.list (Pw.pure rfl rfl rfl ?_) | refine Pw.inY rfl ?_ | refine Pw.list (Pw.off rfl rfl ?_) | refine Pw.condT rfl ?_ | refine Pw.condF rfl ?_ | refine Pw.list (Pw.box rfl rfl rfl rfl (fun _ => ?_)) | refine Pw.list (Pw.alloc rfl rfl rfl rfl rfl (fun _ => ?_)) | refine Pw.list (Pw.build rfl rfl rfl rfl ?_) | refine Pw.list (Pw.ld rfl inferInstance rfl rfl rfl ?_) | refine Pw.list (Pw.sto rfl rfl inferInstance rfl rfl rfl rfl rfl inferInstance rfl ?_))
      exact Pw.ret_ (x := z) (.cell rfl (fun w hs => hs.own _ (.head _)) rfl (.tmp rfl .nil)) rfl trivial (fun w h => fact0 h)
theorem mulS_lm {a b : List Int} : Fm (mulS a b).1 ∧ (mulS a b).1.length ≤ 400 := by
  unfold mulS
  split
  · unfold fitN
    split
    next h => exact ⟨natL_fm _, h⟩
    next h => exact ⟨by rw [← natL_zero]; exact natL_fm 0, by simp⟩
  · exact ⟨by rw [← natL_zero]; exact natL_fm 0, by simp⟩
end Go.Proofs.Wk
/- Walks of layer 2: dividing, rounding down, comparing. -/
namespace Go.Proofs.Wk
open Go.RowKit
set_option maxRecDepth 100000
attribute [local irreducible] Pw OpG
set_option linter.unusedVariables false
set_option linter.unusedSimpArgs false
def rfloorS (a b : List Int) : List Int × Int := if formedR a b = true then (natL (val a / val b), 0) else ([], 1)
theorem formedR_spec {a b : List Int} (ha : Lm a) (hb : Lm b) (h : formedR a b = true) : fmB a = true ∧ fmB b = true ∧ 0 < b.length ∧ gcdI (val a) (val b) = 1 := by
  unfold formedR at h
  simpa using h
theorem rat_Floor_ct (a b : List Int) (z : Z2) (ha : Lm a) (hb : Lm b) (la : a.length < 1048576) (lb : b.length < 1048576) :
    Ct Try.prog 23 #[rt a b z] (R2 a b z) (fun x : Option Addr × Nat => .tuple #[sl (rfloorS a b).1 x, .int .i64 (rfloorS a b).2]) Tt (fun x => S1 (rfloorS a b).1 x) := by
  refine Ct.start Try.func23 rfl rfl (slots_of rfl slots1) (fun D w0 => ?_)
  unfold rfloorS
  repeat (first | (with_reducible first | refine Pw.seq ?_ | refine Pw.region ?_ | refine Pw.nil ?_ | refine Pw.then_ ?_ | refine Pw.skip ?_ | refine Pw.block ?_ | refine Pw.exit ?_ | refine Pw.inX ?_ | refine Pw.inN ?_ | refine Pw.inR ?_ | refine Pw.thenX ?_ | refine Pw.thenR ?_ | refine Pw.ret ?_) | refine Pw.list (Pw.pure rfl rfl rfl ?_) | refine Pw.inY rfl ?_ | refine Pw.list (Pw.off rfl rfl ?_) | refine Pw.condT rfl ?_ | refine Pw.condF rfl ?_ | refine Pw.list (Pw.box rfl rfl rfl rfl (fun _ => freeHead ?_)) | refine Pw.list (Pw.alloc rfl rfl rfl rfl rfl (fun _ => ?_)) | refine Pw.list (Pw.build rfl rfl rfl rfl ?_) | refine Pw.list (Pw.ld rfl inferInstance rfl rfl rfl ?_) | refine Pw.list (Pw.sto rfl rfl inferInstance rfl rfl rfl rfl rfl inferInstance rfl ?_))
  refine Pw.list (Pw.call (rat_Formed_ct a b z ha hb la lb) rfl rfl rfl (by kernel_rfl) rfl rfl (fun w h => (hv w h)) ?_)
  intro _ _
  cases e : formedR a b
  · rw [if_neg (by simp)]
    repeat (first | (with_reducible first | refine Pw.seq ?_ | refine Pw.region ?_ | refine Pw.nil ?_ | refine Pw.then_ ?_ | refine Pw.skip ?_ | refine Pw.block ?_ | refine Pw.exit ?_ | refine Pw.inX ?_ | refine Pw.inN ?_ | refine Pw.inR ?_ | refine Pw.thenX ?_ | refine Pw.thenR ?_ | refine Pw.ret ?_) | refine Pw.list (Pw.pure rfl rfl rfl ?_) | refine Pw.inY rfl ?_ | refine Pw.list (Pw.off rfl rfl ?_) | refine Pw.condT rfl ?_ | refine Pw.condF rfl ?_ | refine Pw.list (Pw.box rfl rfl rfl rfl (fun _ => ?_)) | refine Pw.list (Pw.alloc rfl rfl rfl rfl rfl (fun _ => ?_)) | refine Pw.list (Pw.build rfl rfl rfl rfl ?_) | refine Pw.list (Pw.ld rfl inferInstance rfl rfl rfl ?_) | refine Pw.list (Pw.sto rfl rfl inferInstance rfl rfl rfl rfl rfl inferInstance rfl ?_))
    exact Pw.ret_ (x := (none, 0)) (.tmp rfl (.tmp rfl .nil)) rfl trivial (fun w h => Rows.nil _ _ _ _ _)
  rw [if_pos rfl]
  obtain ⟨h1, h2, h3, _⟩ := formedR_spec ha hb e
  have d1 := DivMod_ct a b z.1 z.2 ha hb la lb
  have e1 : divS a b = (natL (val a / val b), natL (val a % val b), 0) := by unfold divS; rw [if_pos ⟨h1, h2⟩, if_neg (by omega)]
  rw [e1] at d1
  repeat (first | (with_reducible first | refine Pw.seq ?_ | refine Pw.region ?_ | refine Pw.nil ?_ | refine Pw.then_ ?_ | refine Pw.skip ?_ | refine Pw.block ?_ | refine Pw.exit ?_ | refine Pw.inX ?_ | refine Pw.inN ?_ | refine Pw.inR ?_ | refine Pw.thenX ?_ | refine Pw.thenR ?_ | refine Pw.ret ?_) | refine Pw.list (Pw.pure rfl rfl rfl ?_) | refine Pw.inY rfl ?_ | refine Pw.list (Pw.off rfl rfl ?_) | refine Pw.condT rfl ?_ | refine Pw.condF rfl ?_ | refine Pw.list (Pw.box rfl rfl rfl rfl (fun _ => ?_)) | refine Pw.list (Pw.alloc rfl rfl rfl rfl rfl (fun _ => ?_)) | refine Pw.list (Pw.build rfl rfl rfl rfl ?_) | refine Pw.list (Pw.ld rfl inferInstance rfl rfl rfl ?_) | refine Pw.list (Pw.sto rfl rfl inferInstance rfl rfl rfl rfl rfl inferInstance rfl ?_))
  refine Pw.list (Pw.call d1 rfl rfl rfl (by kernel_rfl) rfl rfl (fun w h => ⟨(hv w h), (hv w h)⟩) ?_)
  intro z1 _
  repeat (first | (with_reducible first | refine Pw.seq ?_ | refine Pw.region ?_ | refine Pw.nil ?_ | refine Pw.then_ ?_ | refine Pw.skip ?_ | refine Pw.block ?_ | refine Pw.exit ?_ | refine Pw.inX ?_ | refine Pw.inN ?_ | refine Pw.inR ?_ | refine Pw.thenX ?_ | refine Pw.thenR ?_ | refine Pw.ret ?_) | refine Pw.list (Pw.pure rfl rfl rfl ?_) | refine Pw.inY rfl ?_ | refine Pw.list (Pw.off rfl rfl ?_) | refine Pw.condT rfl ?_ | refine Pw.condF rfl ?_ | refine Pw.list (Pw.box rfl rfl rfl rfl (fun _ => ?_)) | refine Pw.list (Pw.alloc rfl rfl rfl rfl rfl (fun _ => ?_)) | refine Pw.list (Pw.build rfl rfl rfl rfl ?_) | refine Pw.list (Pw.ld rfl inferInstance rfl rfl rfl ?_) | refine Pw.list (Pw.sto rfl rfl inferInstance rfl rfl rfl rfl rfl inferInstance rfl ?_))
  exact Pw.ret_ (x := z1.1) (.tmp rfl (.tmp rfl .nil)) rfl trivial (fun w h => (fact0 h).1)
def rcmpS (a b c d : List Int) : Int := if (formedR a b && formedR c d) = true then (if (if (mulS a d).2 = 0 then (mulS c b).2 else (mulS a d).2) ≠ 0 then 0 else cmpF (mulS a d).1 (mulS c b).1) else 0
theorem rat_Cmp_ct (a b c d : List Int) (y z : Z2) (ha : Lm a) (hb : Lm b) (hc : Lm c) (hd : Lm d) (la : a.length < 1048576) (lb : b.length < 1048576) (lc : c.length < 1048576) (ld : d.length < 1048576) :
    Ct Try.prog 40 #[rt a b y, rt c d z] (fun W => R2 a b y W ∧ R2 c d z W) (fun _ : Unit => .int .i64 (rcmpS a b c d)) Tt (fun _ _ => True) := by
  refine Ct.start Try.func40 rfl rfl (slots_of rfl slots2) (fun D w0 => Pw.facts two2 ?_)
  unfold rcmpS
  repeat (first | (with_reducible first | refine Pw.seq ?_ | refine Pw.region ?_ | refine Pw.nil ?_ | refine Pw.then_ ?_ | refine Pw.skip ?_ | refine Pw.block ?_ | refine Pw.exit ?_ | refine Pw.inX ?_ | refine Pw.inN ?_ | refine Pw.inR ?_ | refine Pw.thenX ?_ | refine Pw.thenR ?_ | refine Pw.ret ?_) | refine Pw.list (Pw.pure rfl rfl rfl ?_) | refine Pw.inY rfl ?_ | refine Pw.list (Pw.off rfl rfl ?_) | refine Pw.condT rfl ?_ | refine Pw.condF rfl ?_ | refine Pw.list (Pw.box rfl rfl rfl rfl (fun _ => freeHead ?_)) | refine Pw.list (Pw.alloc rfl rfl rfl rfl rfl (fun _ => ?_)) | refine Pw.list (Pw.build rfl rfl rfl rfl ?_) | refine Pw.list (Pw.ld rfl inferInstance rfl rfl rfl ?_) | refine Pw.list (Pw.sto rfl rfl inferInstance rfl rfl rfl rfl rfl inferInstance rfl ?_))
  refine Pw.list (Pw.call (rat_formed_ct a b c d y z ha hb hc hd la lb lc ld) rfl rfl rfl (by kernel_rfl) rfl rfl (fun w h => ⟨(hv w h), (hv w h)⟩) ?_)
  intro _ _
  generalize (formedR a b && formedR c d) = t
  cases t
  · rw [if_neg (by simp)]
    repeat (first | (with_reducible first | refine Pw.seq ?_ | refine Pw.region ?_ | refine Pw.nil ?_ | refine Pw.then_ ?_ | refine Pw.skip ?_ | refine Pw.block ?_ | refine Pw.exit ?_ | refine Pw.inX ?_ | refine Pw.inN ?_ | refine Pw.inR ?_ | refine Pw.thenX ?_ | refine Pw.thenR ?_ | refine Pw.ret ?_) | refine Pw.list (Pw.pure rfl rfl rfl ?_) | refine Pw.inY rfl ?_ | refine Pw.list (Pw.off rfl rfl ?_) | refine Pw.condT rfl ?_ | refine Pw.condF rfl ?_ | refine Pw.list (Pw.box rfl rfl rfl rfl (fun _ => ?_)) | refine Pw.list (Pw.alloc rfl rfl rfl rfl rfl (fun _ => ?_)) | refine Pw.list (Pw.build rfl rfl rfl rfl ?_) | refine Pw.list (Pw.ld rfl inferInstance rfl rfl rfl ?_) | refine Pw.list (Pw.sto rfl rfl inferInstance rfl rfl rfl rfl rfl inferInstance rfl ?_))
    exact Pw.ret_ (x := ()) (.tmp rfl .nil) rfl trivial (fun w h => by trivial)
  rw [if_pos rfl]
  have m1 := @mulS_lm a d
  have m2 := @mulS_lm c b
  repeat (first | (with_reducible first | refine Pw.seq ?_ | refine Pw.region ?_ | refine Pw.nil ?_ | refine Pw.then_ ?_ | refine Pw.skip ?_ | refine Pw.block ?_ | refine Pw.exit ?_ | refine Pw.inX ?_ | refine Pw.inN ?_ | refine Pw.inR ?_ | refine Pw.thenX ?_ | refine Pw.thenR ?_ | refine Pw.ret ?_) | refine Pw.list (Pw.pure rfl rfl rfl ?_) | refine Pw.inY rfl ?_ | refine Pw.list (Pw.off rfl rfl ?_) | refine Pw.condT rfl ?_ | refine Pw.condF rfl ?_ | refine Pw.list (Pw.box rfl rfl rfl rfl (fun _ => ?_)) | refine Pw.list (Pw.alloc rfl rfl rfl rfl rfl (fun _ => ?_)) | refine Pw.list (Pw.build rfl rfl rfl rfl ?_) | refine Pw.list (Pw.ld rfl inferInstance rfl rfl rfl ?_) | refine Pw.list (Pw.sto rfl rfl inferInstance rfl rfl rfl rfl rfl inferInstance rfl ?_))
  refine Pw.drawnG mixed rfl rfl ?_
  refine Pw.takeP 0 (nb 14 1) rfl rfl rfl rfl (by kernel_rfl) np sf ?_
  refine Pw.takeP 1 (nb 14 3) rfl rfl rfl rfl (by kernel_rfl) np sf ?_
  refine Pw.takeF 2 (nb 14 7) rfl rfl inferInstance rfl rfl rfl (by kernel_rfl) np sf ?_
  refine Pw.takeP 3 (nb 14 15) rfl rfl rfl rfl (by kernel_rfl) np sf ?_
  refine Pw.takeF 4 (nb 14 31) rfl rfl inferInstance rfl rfl rfl (by kernel_rfl) np sf ?_
  refine Pw.takeP 6 (nb 14 95) rfl rfl rfl rfl (by kernel_rfl) np sf ?_
  refine Pw.takeP 7 (nb 14 223) rfl rfl rfl rfl (by kernel_rfl) np sf ?_
  refine Pw.takeF 8 (nb 14 479) rfl rfl inferInstance rfl rfl rfl (by kernel_rfl) np sf ?_
  refine Pw.takeP 9 (nb 14 991) rfl rfl rfl rfl (by kernel_rfl) np sf ?_
  refine Pw.takeF 10 (nb 14 2015) rfl rfl inferInstance rfl rfl rfl (by kernel_rfl) np sf ?_
  refine Pw.one 5 (nb 14 2047) rfl (by kernel_rfl) ?_
  -- call Op.call { callee := Callee.value (Operand.func 76), args := #[Operand.tmp 14, Operand.tmp 16, Operand.tmp 18], argTypes := #[134, 37, 37] }
  refine Pw.call1 (mk_mul0_ct a d y.1 z.2 _ ha hd la ld) rfl rfl rfl (by kernel_rfl) rfl rfl (fun w h => ⟨(by first | exact (fact1 h).1 | exact (fact2 h).1 | exact (fact3 h).1), (by first | exact (fact1 h).2 | exact (fact2 h).2 | exact (fact3 h).2 | exact (fact3 (allTail h)).2)⟩) (.head _) (fun _ => .head) ?_
  intro x1 _
  refine Pw.held sf ?_
  refine Pw.one 11 (nb 14 4095) rfl (by kernel_rfl) ?_
  -- call Op.call { callee := Callee.value (Operand.func 76), args := #[Operand.tmp 20, Operand.tmp 22, Operand.tmp 24], argTypes := #[134, 37, 37] }
  refine Pw.call1 (mk_mul_ct c b z.1 y.2 _ _ hc hb lc lb) rfl rfl rfl (by kernel_rfl) rfl rfl (fun w h => ⟨(by first | exact (fact1 h).1 | exact (fact2 h).1 | exact (fact3 h).1 | exact (fact3 (allTail h)).1 | exact (fact3 (allTail (allTail h))).1), (by first | exact (fact1 h).2 | exact (fact2 h).2 | exact (fact3 h).2 | exact (fact3 (allTail h)).2 | exact (fact3 (allTail (allTail h))).2)⟩) (.head _) (fun _ => .head) ?_
  intro x2 _
  refine Pw.held sf ?_
  refine Pw.takeP 12 (nb 14 8191) rfl rfl rfl rfl (by kernel_rfl) np sf ?_
  refine Pw.takeP 13 (nb 14 16383) rfl rfl rfl rfl (by kernel_rfl) np sf ?_
  refine Pw.done (by kernel_rfl) ?_
  repeat (first | (with_reducible first | refine Pw.seq ?_ | refine Pw.region ?_ | refine Pw.nil ?_ | refine Pw.then_ ?_ | refine Pw.skip ?_ | refine Pw.block ?_ | refine Pw.exit ?_ | refine Pw.inX ?_ | refine Pw.inN ?_ | refine Pw.inR ?_ | refine Pw.thenX ?_ | refine Pw.thenR ?_ | refine Pw.ret ?_) | refine Pw.list (Pw.pure rfl rfl rfl ?_) | refine Pw.inY rfl ?_ | refine Pw.list (Pw.off rfl rfl ?_) | refine Pw.condT rfl ?_ | refine Pw.condF rfl ?_ | refine Pw.list (Pw.box rfl rfl rfl rfl (fun _ => ?_)) | refine Pw.list (Pw.alloc rfl rfl rfl rfl rfl (fun _ => ?_)) | refine Pw.list (Pw.build rfl rfl rfl rfl ?_) | refine Pw.list (Pw.ld rfl inferInstance rfl rfl rfl ?_) | refine Pw.list (Pw.sto rfl rfl inferInstance rfl rfl rfl rfl rfl inferInstance rfl ?_))
  refine Pw.condD rfl (fun c1 => ?_) (fun c1 => ?_)
  · rw [if_pos c1]
    repeat (first | (with_reducible first | refine Pw.seq ?_ | refine Pw.region ?_ | refine Pw.nil ?_ | refine Pw.then_ ?_ | refine Pw.skip ?_ | refine Pw.block ?_ | refine Pw.exit ?_ | refine Pw.inX ?_ | refine Pw.inN ?_ | refine Pw.inR ?_ | refine Pw.thenX ?_ | refine Pw.thenR ?_ | refine Pw.ret ?_) | refine Pw.list (Pw.pure rfl rfl rfl ?_) | refine Pw.inY rfl ?_ | refine Pw.list (Pw.off rfl rfl ?_) | refine Pw.condT rfl ?_ | refine Pw.condF rfl ?_ | refine Pw.list (Pw.box rfl rfl rfl rfl (fun _ => ?_)) | refine Pw.list (Pw.alloc rfl rfl rfl rfl rfl (fun _ => ?_)) | refine Pw.list (Pw.build rfl rfl rfl rfl ?_) | refine Pw.list (Pw.ld rfl inferInstance rfl rfl rfl ?_) | refine Pw.list (Pw.sto rfl rfl inferInstance rfl rfl rfl rfl rfl inferInstance rfl ?_))
    exact Pw.ret_ (x := ()) (.tmp rfl .nil) rfl trivial (fun w h => by trivial)
  · rw [if_neg c1]
    repeat (first | (with_reducible first | refine Pw.seq ?_ | refine Pw.region ?_ | refine Pw.nil ?_ | refine Pw.then_ ?_ | refine Pw.skip ?_ | refine Pw.block ?_ | refine Pw.exit ?_ | refine Pw.inX ?_ | refine Pw.inN ?_ | refine Pw.inR ?_ | refine Pw.thenX ?_ | refine Pw.thenR ?_ | refine Pw.ret ?_) | refine Pw.list (Pw.pure rfl rfl rfl ?_) | refine Pw.inY rfl ?_ | refine Pw.list (Pw.off rfl rfl ?_) | refine Pw.condT rfl ?_ | refine Pw.condF rfl ?_ | refine Pw.list (Pw.box rfl rfl rfl rfl (fun _ => ?_)) | refine Pw.list (Pw.alloc rfl rfl rfl rfl rfl (fun _ => ?_)) | refine Pw.list (Pw.build rfl rfl rfl rfl ?_) | refine Pw.list (Pw.ld rfl inferInstance rfl rfl rfl ?_) | refine Pw.list (Pw.sto rfl rfl inferInstance rfl rfl rfl rfl rfl inferInstance rfl ?_))
    refine Pw.list (Pw.call (Cmp_ct (mulS a d).1 (mulS c b).1 x1 x2 m1.1.1 m2.1.1 (by omega) (by omega)) rfl rfl rfl (by kernel_rfl) rfl rfl (fun w h => ⟨(hv w h), (hv w h)⟩) ?_)
    intro _ _
    repeat (first | (with_reducible first | refine Pw.seq ?_ | refine Pw.region ?_ | refine Pw.nil ?_ | refine Pw.then_ ?_ | refine Pw.skip ?_ | refine Pw.block ?_ | refine Pw.exit ?_ | refine Pw.inX ?_ | refine Pw.inN ?_ | refine Pw.inR ?_ | refine Pw.thenX ?_ | refine Pw.thenR ?_ | refine Pw.ret ?_) | refine Pw.list (Pw.pure rfl rfl rfl ?_) | refine Pw.inY rfl ?_ | refine Pw.list (Pw.off rfl rfl ?_) | refine Pw.condT rfl ?_ | refine Pw.condF rfl ?_ | refine Pw.list (Pw.box rfl rfl rfl rfl (fun _ => ?_)) | refine Pw.list (Pw.alloc rfl rfl rfl rfl rfl (fun _ => ?_)) | refine Pw.list (Pw.build rfl rfl rfl rfl ?_) | refine Pw.list (Pw.ld rfl inferInstance rfl rfl rfl ?_) | refine Pw.list (Pw.sto rfl rfl inferInstance rfl rfl rfl rfl rfl inferInstance rfl ?_))
    exact Pw.ret_ (x := ()) (.tmp rfl .nil) rfl trivial (fun w h => by trivial)
end Go.Proofs.Wk
/- Walks of layer 2: adding, subtracting, the lesser one. -/
namespace Go.Proofs.Wk
open Go.RowKit
set_option maxRecDepth 100000
attribute [local irreducible] Pw OpG
set_option linter.unusedVariables false
set_option linter.unusedSimpArgs false
def err3 (x y z : Int) : Int := if (if x = 0 then y else x) = 0 then z else (if x = 0 then y else x)
def joinS (S : List Int → List Int → List Int × Int) (a b c d : List Int) : List Int × List Int × Int := if (formedR a b && formedR c d) = true then endS (err3 (mulS a d).2 (mulS c b).2 (mulS b d).2) (S (mulS a d).1 (mulS c b).1).2 (S (mulS a d).1 (mulS c b).1).1 (mulS b d).1 else ([], [], 1)
theorem join_ct (S : List Int → List Int → List Int × Int) (f : FuncId) (hS : ∀ u v x y, Lm u → Lm v → u.length < 1048576 → v.length < 1048576 → Ct Try.prog f #[sl u x, sl v y] (fun W => S1 u x W ∧ S1 v y W) (fun z : Option Addr × Nat => .tuple #[sl (S u v).1 z, .int .i64 (S u v).2]) Tt (fun z => S1 (S u v).1 z)) (hf : callB Try.prog f = true) (hlm : ∀ u v, Lm u → Lm v → Fm (S u v).1 ∧ (u.length ≤ 400 → v.length ≤ 400 → (S u v).1.length < 1048576))
    (a b c d : List Int) (y z : Z2) (ha : Lm a) (hb : Lm b) (hc : Lm c) (hd : Lm d) (la : a.length < 1048576) (lb : b.length < 1048576) (lc : c.length < 1048576) (ld : d.length < 1048576) :
    Ct Try.prog 52 #[rt a b y, rt c d z, .func (.func f) #[] #[]] (fun W => R2 a b y W ∧ R2 c d z W) (fun x : Z2 => .tuple #[rt (joinS S a b c d).1 (joinS S a b c d).2.1 x, .int .i64 (joinS S a b c d).2.2]) Tt (fun x => R2 (joinS S a b c d).1 (joinS S a b c d).2.1 x) := by
  refine Ct.start Try.func52 rfl rfl (slots_of rfl slots3) (fun D w0 => Pw.facts two2 ?_)
  unfold joinS
  repeat (first | (with_reducible first | refine Pw.seq ?_ | refine Pw.region ?_ | refine Pw.nil ?_ | refine Pw.then_ ?_ | refine Pw.skip ?_ | refine Pw.block ?_ | refine Pw.exit ?_ | refine Pw.inX ?_ | refine Pw.inN ?_ | refine Pw.inR ?_ | refine Pw.thenX ?_ | refine Pw.thenR ?_ | refine Pw.ret ?_) | refine Pw.list (Pw.pure rfl rfl rfl ?_) | refine Pw.inY rfl ?_ | refine Pw.list (Pw.off rfl rfl ?_) | refine Pw.condT rfl ?_ | refine Pw.condF rfl ?_ | refine Pw.list (Pw.box rfl rfl rfl rfl (fun _ => freeHead ?_)) | refine Pw.list (Pw.alloc rfl rfl rfl rfl rfl (fun _ => ?_)) | refine Pw.list (Pw.build rfl rfl rfl rfl ?_) | refine Pw.list (Pw.ld rfl inferInstance rfl rfl rfl ?_) | refine Pw.list (Pw.sto rfl rfl inferInstance rfl rfl rfl rfl rfl inferInstance rfl ?_))
  refine Pw.list (Pw.call (rat_formed_ct a b c d y z ha hb hc hd la lb lc ld) rfl rfl rfl (by kernel_rfl) rfl rfl (fun w h => ⟨(hv w h), (hv w h)⟩) ?_)
  intro _ _
  generalize (formedR a b && formedR c d) = t
  cases t
  · rw [if_neg (by simp)]
    repeat (first | (with_reducible first | refine Pw.seq ?_ | refine Pw.region ?_ | refine Pw.nil ?_ | refine Pw.then_ ?_ | refine Pw.skip ?_ | refine Pw.block ?_ | refine Pw.exit ?_ | refine Pw.inX ?_ | refine Pw.inN ?_ | refine Pw.inR ?_ | refine Pw.thenX ?_ | refine Pw.thenR ?_ | refine Pw.ret ?_) | refine Pw.list (Pw.pure rfl rfl rfl ?_) | refine Pw.inY rfl ?_ | refine Pw.list (Pw.off rfl rfl ?_) | refine Pw.condT rfl ?_ | refine Pw.condF rfl ?_ | refine Pw.list (Pw.box rfl rfl rfl rfl (fun _ => ?_)) | refine Pw.list (Pw.alloc rfl rfl rfl rfl rfl (fun _ => ?_)) | refine Pw.list (Pw.build rfl rfl rfl rfl ?_) | refine Pw.list (Pw.ld rfl inferInstance rfl rfl rfl ?_) | refine Pw.list (Pw.sto rfl rfl inferInstance rfl rfl rfl rfl rfl inferInstance rfl ?_))
    exact Pw.ret_ (x := z0) (.cell rfl (fun w hs => hs.own _ (.head _)) rfl (.tmp rfl .nil)) rfl trivial (fun w h => R2.nil w)
  rw [if_pos rfl]
  have m1 := @mulS_lm a d
  have m2 := @mulS_lm c b
  have m3 := @mulS_lm b d
  repeat (first | (with_reducible first | refine Pw.seq ?_ | refine Pw.region ?_ | refine Pw.nil ?_ | refine Pw.then_ ?_ | refine Pw.skip ?_ | refine Pw.block ?_ | refine Pw.exit ?_ | refine Pw.inX ?_ | refine Pw.inN ?_ | refine Pw.inR ?_ | refine Pw.thenX ?_ | refine Pw.thenR ?_ | refine Pw.ret ?_) | refine Pw.list (Pw.pure rfl rfl rfl ?_) | refine Pw.inY rfl ?_ | refine Pw.list (Pw.off rfl rfl ?_) | refine Pw.condT rfl ?_ | refine Pw.condF rfl ?_ | refine Pw.list (Pw.box rfl rfl rfl rfl (fun _ => ?_)) | refine Pw.list (Pw.alloc rfl rfl rfl rfl rfl (fun _ => ?_)) | refine Pw.list (Pw.build rfl rfl rfl rfl ?_) | refine Pw.list (Pw.ld rfl inferInstance rfl rfl rfl ?_) | refine Pw.list (Pw.sto rfl rfl inferInstance rfl rfl rfl rfl rfl inferInstance rfl ?_))
  refine Pw.drawnG mixed rfl rfl ?_
  refine Pw.takeP 0 (nb 21 1) rfl rfl rfl rfl (by kernel_rfl) np sf ?_
  refine Pw.takeP 1 (nb 21 3) rfl rfl rfl rfl (by kernel_rfl) np sf ?_
  refine Pw.takeF 2 (nb 21 7) rfl rfl inferInstance rfl rfl rfl (by kernel_rfl) np sf ?_
  refine Pw.takeP 3 (nb 21 15) rfl rfl rfl rfl (by kernel_rfl) np sf ?_
  refine Pw.takeF 4 (nb 21 31) rfl rfl inferInstance rfl rfl rfl (by kernel_rfl) np sf ?_
  refine Pw.takeP 6 (nb 21 95) rfl rfl rfl rfl (by kernel_rfl) np sf ?_
  refine Pw.takeP 7 (nb 21 223) rfl rfl rfl rfl (by kernel_rfl) np sf ?_
  refine Pw.takeF 8 (nb 21 479) rfl rfl inferInstance rfl rfl rfl (by kernel_rfl) np sf ?_
  refine Pw.takeP 9 (nb 21 991) rfl rfl rfl rfl (by kernel_rfl) np sf ?_
  refine Pw.takeF 10 (nb 21 2015) rfl rfl inferInstance rfl rfl rfl (by kernel_rfl) np sf ?_
  refine Pw.takeP 12 (nb 21 6111) rfl rfl rfl rfl (by kernel_rfl) np sf ?_
  refine Pw.takeP 13 (nb 21 14303) rfl rfl rfl rfl (by kernel_rfl) np sf ?_
  refine Pw.takeF 14 (nb 21 30687) rfl rfl inferInstance rfl rfl rfl (by kernel_rfl) np sf ?_
  refine Pw.takeP 15 (nb 21 63455) rfl rfl rfl rfl (by kernel_rfl) np sf ?_
  refine Pw.takeF 16 (nb 21 128991) rfl rfl inferInstance rfl rfl rfl (by kernel_rfl) np sf ?_
  refine Pw.one 5 (nb 21 129023) rfl (by kernel_rfl) ?_
  -- call Op.call { callee := Callee.value (Operand.func 76), args := #[Operand.tmp 21, Operand.tmp 23, Operand.tmp 25], argTypes := #[134, 37, 37] }
  refine Pw.call1 (mk_mul0_ct a d y.1 z.2 _ ha hd la ld) rfl rfl rfl (by kernel_rfl) rfl rfl (fun w h => ⟨(hv w h), (hv w h)⟩) (.head _) (fun _ => .head) ?_
  intro x1 _
  refine Pw.held sf ?_
  refine Pw.one 11 (nb 21 131071) rfl (by kernel_rfl) ?_
  -- call Op.call { callee := Callee.value (Operand.func 76), args := #[Operand.tmp 27, Operand.tmp 29, Operand.tmp 31], argTypes := #[134, 37, 37] }
  refine Pw.call1 (mk_mul_ct c b z.1 y.2 _ _ hc hb lc lb) rfl rfl rfl (by kernel_rfl) rfl rfl (fun w h => ⟨(hv w h), (hv w h)⟩) (.head _) (fun _ => .head) ?_
  intro x2 _
  refine Pw.held sf ?_
  refine Pw.one 17 (nb 21 262143) rfl (by kernel_rfl) ?_
  -- call Op.call { callee := Callee.value (Operand.func 76), args := #[Operand.tmp 33, Operand.tmp 35, Operand.tmp 37], argTypes := #[134, 37, 37] }
  refine Pw.call1 (mk_mul_ct b d y.2 z.2 _ _ hb hd lb ld) rfl rfl rfl (by kernel_rfl) rfl rfl (fun w h => ⟨(hv w h), (hv w h)⟩) (.head _) (fun _ => .head) ?_
  intro x3 _
  refine Pw.held sf ?_
  refine Pw.takeP 18 (nb 21 524287) rfl rfl rfl rfl (by kernel_rfl) np sf ?_
  refine Pw.takeP 19 (nb 21 1048575) rfl rfl rfl rfl (by kernel_rfl) np sf ?_
  refine Pw.takeP 20 (nb 21 2097151) rfl rfl rfl rfl (by kernel_rfl) np sf ?_
  refine Pw.done (by kernel_rfl) ?_
  repeat (first | (with_reducible first | refine Pw.seq ?_ | refine Pw.region ?_ | refine Pw.nil ?_ | refine Pw.then_ ?_ | refine Pw.skip ?_ | refine Pw.block ?_ | refine Pw.exit ?_ | refine Pw.inX ?_ | refine Pw.inN ?_ | refine Pw.inR ?_ | refine Pw.thenX ?_ | refine Pw.thenR ?_ | refine Pw.ret ?_) | refine Pw.list (Pw.pure rfl rfl rfl ?_) | refine Pw.inY rfl ?_ | refine Pw.list (Pw.off rfl rfl ?_) | refine Pw.condT rfl ?_ | refine Pw.condF rfl ?_ | refine Pw.list (Pw.box rfl rfl rfl rfl (fun _ => ?_)) | refine Pw.list (Pw.alloc rfl rfl rfl rfl rfl (fun _ => ?_)) | refine Pw.list (Pw.build rfl rfl rfl rfl ?_) | refine Pw.list (Pw.ld rfl inferInstance rfl rfl rfl ?_) | refine Pw.list (Pw.sto rfl rfl inferInstance rfl rfl rfl rfl rfl inferInstance rfl ?_))
  refine Pw.list (Pw.call (hS (mulS a d).1 (mulS c b).1 x1 x2 m1.1.1 m2.1.1 (by omega) (by omega)) rfl rfl rfl hf rfl rfl (fun w h => ⟨(hv w h), (hv w h)⟩) ?_)
  intro x4 _
  obtain ⟨n1, n2⟩ := hlm (mulS a d).1 (mulS c b).1 m1.1.1 m2.1.1
  repeat (first | (with_reducible first | refine Pw.seq ?_ | refine Pw.region ?_ | refine Pw.nil ?_ | refine Pw.then_ ?_ | refine Pw.skip ?_ | refine Pw.block ?_ | refine Pw.exit ?_ | refine Pw.inX ?_ | refine Pw.inN ?_ | refine Pw.inR ?_ | refine Pw.thenX ?_ | refine Pw.thenR ?_ | refine Pw.ret ?_) | refine Pw.list (Pw.pure rfl rfl rfl ?_) | refine Pw.inY rfl ?_ | refine Pw.list (Pw.off rfl rfl ?_) | refine Pw.condT rfl ?_ | refine Pw.condF rfl ?_ | refine Pw.list (Pw.box rfl rfl rfl rfl (fun _ => ?_)) | refine Pw.list (Pw.alloc rfl rfl rfl rfl rfl (fun _ => ?_)) | refine Pw.list (Pw.build rfl rfl rfl rfl ?_) | refine Pw.list (Pw.ld rfl inferInstance rfl rfl rfl ?_) | refine Pw.list (Pw.sto rfl rfl inferInstance rfl rfl rfl rfl rfl inferInstance rfl ?_))
  refine freeHead ?_
  refine Pw.list (Pw.call (mk_end_ct (S (mulS a d).1 (mulS c b).1).1 (mulS b d).1 x4 x3 _ _ (S (mulS a d).1 (mulS c b).1).2 n1.1 m3.1.1 (n2 m1.2 m2.2) (by omega)) rfl rfl rfl (by kernel_rfl) rfl rfl (fun w h => ⟨fact0 h, (hv w h), (hv w h)⟩) ?_)
  intro x5 _
  repeat (first | (with_reducible first | refine Pw.seq ?_ | refine Pw.region ?_ | refine Pw.nil ?_ | refine Pw.then_ ?_ | refine Pw.skip ?_ | refine Pw.block ?_ | refine Pw.exit ?_ | refine Pw.inX ?_ | refine Pw.inN ?_ | refine Pw.inR ?_ | refine Pw.thenX ?_ | refine Pw.thenR ?_ | refine Pw.ret ?_) | refine Pw.list (Pw.pure rfl rfl rfl ?_) | refine Pw.inY rfl ?_ | refine Pw.list (Pw.off rfl rfl ?_) | refine Pw.condT rfl ?_ | refine Pw.condF rfl ?_ | refine Pw.list (Pw.box rfl rfl rfl rfl (fun _ => ?_)) | refine Pw.list (Pw.alloc rfl rfl rfl rfl rfl (fun _ => ?_)) | refine Pw.list (Pw.build rfl rfl rfl rfl ?_) | refine Pw.list (Pw.ld rfl inferInstance rfl rfl rfl ?_) | refine Pw.list (Pw.sto rfl rfl inferInstance rfl rfl rfl rfl rfl inferInstance rfl ?_))
  exact Pw.ret_ (x := x5) (.cell rfl (fun w hs => hs.own _ (.head _)) rfl (.tmp rfl .nil)) rfl trivial (fun w h => fact0 h)
theorem fm_nil : Fm [] := by rw [← natL_zero]; exact natL_fm 0
theorem addS_lm (a b : List Int) (ha : Lm a) (hb : Lm b) : Fm (addS a b).1 ∧ (a.length ≤ 400 → b.length ≤ 400 → (addS a b).1.length < 1048576) := by
  unfold addS
  split
  · unfold fitN
    split
    next h => exact ⟨natL_fm _, fun _ _ => by show (natL _).length < _; omega⟩
    next h => exact ⟨fm_nil, fun _ _ => by simp⟩
  · exact ⟨fm_nil, fun _ _ => by simp⟩
theorem subS_lm (a b : List Int) (ha : Lm a) (hb : Lm b) : Fm (subS a b).1 ∧ (a.length ≤ 400 → b.length ≤ 400 → (subS a b).1.length < 1048576) := by
  unfold subS
  split
  next h =>
    split
    next h1 => exact ⟨fm_nil, fun _ _ => by simp⟩
    next h1 =>
      refine ⟨natL_fm _, fun h2 h3 => ?_⟩
      show (natL _).length < _
      have v1 := val_lt_pw ha
      have v2 := val_nonneg hb
      have := natL_len_le (n := a.length) (show 0 ≤ val a - val b by omega) (by omega)
      omega
  · exact ⟨fm_nil, fun _ _ => by simp⟩
theorem rat_Add_ct (a b c d : List Int) (y z : Z2) (ha : Lm a) (hb : Lm b) (hc : Lm c) (hd : Lm d) (la : a.length < 1048576) (lb : b.length < 1048576) (lc : c.length < 1048576) (ld : d.length < 1048576) :
    Ct Try.prog 21 #[rt a b y, rt c d z] (fun W => R2 a b y W ∧ R2 c d z W) (fun x : Z2 => .tuple #[rt (joinS addS a b c d).1 (joinS addS a b c d).2.1 x, .int .i64 (joinS addS a b c d).2.2]) Tt (fun x => R2 (joinS addS a b c d).1 (joinS addS a b c d).2.1 x) := by
  refine Ct.start Try.func21 rfl rfl (slots_of rfl slots2) (fun D w0 => Pw.facts two2 ?_)
  repeat (first | (with_reducible first | refine Pw.seq ?_ | refine Pw.region ?_ | refine Pw.nil ?_ | refine Pw.then_ ?_ | refine Pw.skip ?_ | refine Pw.block ?_ | refine Pw.exit ?_ | refine Pw.inX ?_ | refine Pw.inN ?_ | refine Pw.inR ?_ | refine Pw.thenX ?_ | refine Pw.thenR ?_ | refine Pw.ret ?_) | refine Pw.list (Pw.pure rfl rfl rfl ?_) | refine Pw.inY rfl ?_ | refine Pw.list (Pw.off rfl rfl ?_) | refine Pw.condT rfl ?_ | refine Pw.condF rfl ?_ | refine Pw.list (Pw.box rfl rfl rfl rfl (fun _ => freeHead ?_)) | refine Pw.list (Pw.alloc rfl rfl rfl rfl rfl (fun _ => ?_)) | refine Pw.list (Pw.build rfl rfl rfl rfl ?_) | refine Pw.list (Pw.ld rfl inferInstance rfl rfl rfl ?_) | refine Pw.list (Pw.sto rfl rfl inferInstance rfl rfl rfl rfl rfl inferInstance rfl ?_))
  refine Pw.list (Pw.call (join_ct addS 22 (fun u v x y hu hv lu lv => Add_ct u v x y hu hv lu lv) (by kernel_rfl) addS_lm a b c d y z ha hb hc hd la lb lc ld) rfl rfl rfl (by kernel_rfl) rfl rfl (fun w h => ⟨(hv w h), (hv w h)⟩) ?_)
  intro x _
  repeat (first | (with_reducible first | refine Pw.seq ?_ | refine Pw.region ?_ | refine Pw.nil ?_ | refine Pw.then_ ?_ | refine Pw.skip ?_ | refine Pw.block ?_ | refine Pw.exit ?_ | refine Pw.inX ?_ | refine Pw.inN ?_ | refine Pw.inR ?_ | refine Pw.thenX ?_ | refine Pw.thenR ?_ | refine Pw.ret ?_) | refine Pw.list (Pw.pure rfl rfl rfl ?_) | refine Pw.inY rfl ?_ | refine Pw.list (Pw.off rfl rfl ?_) | refine Pw.condT rfl ?_ | refine Pw.condF rfl ?_ | refine Pw.list (Pw.box rfl rfl rfl rfl (fun _ => ?_)) | refine Pw.list (Pw.alloc rfl rfl rfl rfl rfl (fun _ => ?_)) | refine Pw.list (Pw.build rfl rfl rfl rfl ?_) | refine Pw.list (Pw.ld rfl inferInstance rfl rfl rfl ?_) | refine Pw.list (Pw.sto rfl rfl inferInstance rfl rfl rfl rfl rfl inferInstance rfl ?_))
  exact Pw.ret_ (x := x) (.cell rfl (fun w hs => hs.own _ (.head _)) rfl (.tmp rfl .nil)) rfl trivial (fun w h => fact0 h)
theorem rat_Sub_ct (a b c d : List Int) (y z : Z2) (ha : Lm a) (hb : Lm b) (hc : Lm c) (hd : Lm d) (la : a.length < 1048576) (lb : b.length < 1048576) (lc : c.length < 1048576) (ld : d.length < 1048576) :
    Ct Try.prog 37 #[rt a b y, rt c d z] (fun W => R2 a b y W ∧ R2 c d z W) (fun x : Z2 => .tuple #[rt (joinS subS a b c d).1 (joinS subS a b c d).2.1 x, .int .i64 (joinS subS a b c d).2.2]) Tt (fun x => R2 (joinS subS a b c d).1 (joinS subS a b c d).2.1 x) := by
  refine Ct.start Try.func37 rfl rfl (slots_of rfl slots2) (fun D w0 => Pw.facts two2 ?_)
  repeat (first | (with_reducible first | refine Pw.seq ?_ | refine Pw.region ?_ | refine Pw.nil ?_ | refine Pw.then_ ?_ | refine Pw.skip ?_ | refine Pw.block ?_ | refine Pw.exit ?_ | refine Pw.inX ?_ | refine Pw.inN ?_ | refine Pw.inR ?_ | refine Pw.thenX ?_ | refine Pw.thenR ?_ | refine Pw.ret ?_) | refine Pw.list (Pw.pure rfl rfl rfl ?_) | refine Pw.inY rfl ?_ | refine Pw.list (Pw.off rfl rfl ?_) | refine Pw.condT rfl ?_ | refine Pw.condF rfl ?_ | refine Pw.list (Pw.box rfl rfl rfl rfl (fun _ => freeHead ?_)) | refine Pw.list (Pw.alloc rfl rfl rfl rfl rfl (fun _ => ?_)) | refine Pw.list (Pw.build rfl rfl rfl rfl ?_) | refine Pw.list (Pw.ld rfl inferInstance rfl rfl rfl ?_) | refine Pw.list (Pw.sto rfl rfl inferInstance rfl rfl rfl rfl rfl inferInstance rfl ?_))
  refine Pw.list (Pw.call (join_ct subS 73 (fun u v x y hu hv lu lv => Sub_ct u v x y hu hv lu lv) (by kernel_rfl) subS_lm a b c d y z ha hb hc hd la lb lc ld) rfl rfl rfl (by kernel_rfl) rfl rfl (fun w h => ⟨(hv w h), (hv w h)⟩) ?_)
  intro x _
  repeat (first | (with_reducible first | refine Pw.seq ?_ | refine Pw.region ?_ | refine Pw.nil ?_ | refine Pw.then_ ?_ | refine Pw.skip ?_ | refine Pw.block ?_ | refine Pw.exit ?_ | refine Pw.inX ?_ | refine Pw.inN ?_ | refine Pw.inR ?_ | refine Pw.thenX ?_ | refine Pw.thenR ?_ | refine Pw.ret ?_) | refine Pw.list (Pw.pure rfl rfl rfl ?_) | refine Pw.inY rfl ?_ | refine Pw.list (Pw.off rfl rfl ?_) | refine Pw.condT rfl ?_ | refine Pw.condF rfl ?_ | refine Pw.list (Pw.box rfl rfl rfl rfl (fun _ => ?_)) | refine Pw.list (Pw.alloc rfl rfl rfl rfl rfl (fun _ => ?_)) | refine Pw.list (Pw.build rfl rfl rfl rfl ?_) | refine Pw.list (Pw.ld rfl inferInstance rfl rfl rfl ?_) | refine Pw.list (Pw.sto rfl rfl inferInstance rfl rfl rfl rfl rfl inferInstance rfl ?_))
  exact Pw.ret_ (x := x) (.cell rfl (fun w hs => hs.own _ (.head _)) rfl (.tmp rfl .nil)) rfl trivial (fun w h => fact0 h)
end Go.Proofs.Wk
/- Walks of the reference's fractions. -/
namespace Go.Proofs.Wk
open Go.RowKit
set_option maxRecDepth 100000
attribute [local irreducible] Pw OpG
set_option linter.unusedVariables false
set_option linter.unusedSimpArgs false
end Go.Proofs.Wk
/- What layer 2 answers, of formed fractions. -/
namespace Go.Proofs.Wk
set_option linter.unusedVariables false
set_option linter.unusedSimpArgs false

theorem mulS_bd {a b : List Int} (ha : fmB a = true) (hb : fmB b = true) : mulS a b = bdS (natL (val a * val b)) := by
  unfold mulS; rw [if_pos ⟨ha, hb⟩]; rfl
theorem addS_bd {a b : List Int} (ha : fmB a = true) (hb : fmB b = true) : addS a b = bdS (natL (val a + val b)) := by
  unfold addS; rw [if_pos ⟨ha, hb⟩]; rfl
theorem bd_ok {l : List Int} (h : l.length ≤ 400) : bdS l = (l, 0) := if_pos h
theorem bd_no {l : List Int} (h : ¬ l.length ≤ 400) : bdS l = ([], 4) := if_neg h
theorem makeS_natL {p q : Int} (hq : 0 < q) (h1 : (natL p).length ≤ 400) (h2 : (natL q).length ≤ 400) : makeS (natL p) (natL q) = ((lowS (natL p) (natL q)).1, (lowS (natL p) (natL q)).2, 0) := by
  unfold makeS
  rw [if_pos ⟨fmB_natL h1, fmB_natL h2⟩, if_neg (fun e => by have := (natL_len_zero (show 0 ≤ q by omega)).1 e; omega)]
theorem fm_pos {b : List Int} (hb : Lm b) (h : fmB b = true) (h0 : 0 < b.length) : 0 < val b := val_pos_of ((fmB_iff hb).1 h).2 (by omega)
section
variable {a b c d : List Int} (ha : Lm a) (hb : Lm b) (hc : Lm c) (hd : Lm d) (hf : formedR a b = true) (hg : formedR c d = true)
include ha hb hc hd hf hg
theorem rcmpS_eq : rcmpS a b c d = if (natL (val a * val d)).length ≤ 400 ∧ (natL (val c * val b)).length ≤ 400 then cmpS (val a * val d) (val c * val b) else 0 := by
  obtain ⟨f1, f2, f3, _⟩ := formedR_spec ha hb hf
  obtain ⟨g1, g2, g3, _⟩ := formedR_spec hc hd hg
  have p1 := Int.mul_nonneg (val_nonneg ha) (val_nonneg hd)
  have p2 := Int.mul_nonneg (val_nonneg hc) (val_nonneg hb)
  unfold rcmpS
  rw [if_pos (by simp [hf, hg]), mulS_bd f1 g2, mulS_bd g1 f2]
  by_cases h1 : (natL (val a * val d)).length ≤ 400 <;> by_cases h2 : (natL (val c * val b)).length ≤ 400
  · rw [bd_ok h1, bd_ok h2]
    show cmpF (natL _) (natL _) = _
    rw [if_pos ⟨h1, h2⟩]
    unfold cmpF
    rw [if_pos ⟨fmB_natL h1, fmB_natL h2⟩, val_natL p1, val_natL p2]
  · rw [bd_ok h1, bd_no h2]; show (0 : Int) = _; rw [if_neg (fun h => h2 h.2)]
  · rw [bd_no h1, bd_ok h2]; show (0 : Int) = _; rw [if_neg (fun h => h1 h.1)]
  · rw [bd_no h1, bd_no h2]; show (0 : Int) = _; rw [if_neg (fun h => h1 h.1)]
theorem raddS_eq : joinS addS a b c d = if (natL (val a * val d)).length ≤ 400 ∧ (natL (val c * val b)).length ≤ 400 ∧ (natL (val b * val d)).length ≤ 400 ∧ (natL (val a * val d + val c * val b)).length ≤ 400 then ((lowS (natL (val a * val d + val c * val b)) (natL (val b * val d))).1, (lowS (natL (val a * val d + val c * val b)) (natL (val b * val d))).2, 0) else ([], [], 4) := by
  obtain ⟨f1, f2, f3, _⟩ := formedR_spec ha hb hf
  obtain ⟨g1, g2, g3, _⟩ := formedR_spec hc hd hg
  have hq := Int.mul_pos (fm_pos hb f2 f3) (fm_pos hd g2 g3)
  have p1 := Int.mul_nonneg (val_nonneg ha) (val_nonneg hd)
  have p2 := Int.mul_nonneg (val_nonneg hc) (val_nonneg hb)
  unfold joinS
  rw [if_pos (by simp [hf, hg]), mulS_bd f1 g2, mulS_bd g1 f2, mulS_bd f2 g2]
  by_cases h1 : (natL (val a * val d)).length ≤ 400 <;> by_cases h2 : (natL (val c * val b)).length ≤ 400 <;> by_cases h3 : (natL (val b * val d)).length ≤ 400
  · rw [bd_ok h1, bd_ok h2, bd_ok h3]
    show endS 0 (addS (natL _) (natL _)).2 (addS (natL _) (natL _)).1 (natL _) = _
    rw [addS_bd (fmB_natL h1) (fmB_natL h2), val_natL p1, val_natL p2]
    by_cases h4 : (natL (val a * val d + val c * val b)).length ≤ 400
    · rw [bd_ok h4, if_pos ⟨h1, h2, h3, h4⟩]; exact makeS_natL hq h4 h3
    · rw [bd_no h4, if_neg (fun h => h4 h.2.2.2)]; rfl
  all_goals first
    | (rw [bd_ok h1, bd_ok h2, bd_no h3, if_neg (fun h => h3 h.2.2.1)]; rfl)
    | (rw [bd_ok h1, bd_no h2, bd_ok h3, if_neg (fun h => h2 h.2.1)]; rfl)
    | (rw [bd_ok h1, bd_no h2, bd_no h3, if_neg (fun h => h2 h.2.1)]; rfl)
    | (rw [bd_no h1, bd_ok h2, bd_ok h3, if_neg (fun h => h1 h.1)]; rfl)
    | (rw [bd_no h1, bd_ok h2, bd_no h3, if_neg (fun h => h1 h.1)]; rfl)
    | (rw [bd_no h1, bd_no h2, bd_ok h3, if_neg (fun h => h1 h.1)]; rfl)
    | (rw [bd_no h1, bd_no h2, bd_no h3, if_neg (fun h => h1 h.1)]; rfl)
theorem rsubS_eq : joinS subS a b c d = if (natL (val a * val d)).length ≤ 400 ∧ (natL (val c * val b)).length ≤ 400 ∧ (natL (val b * val d)).length ≤ 400 then (if val a * val d < val c * val b then ([], [], 3) else ((lowS (natL (val a * val d - val c * val b)) (natL (val b * val d))).1, (lowS (natL (val a * val d - val c * val b)) (natL (val b * val d))).2, 0)) else ([], [], 4) := by
  obtain ⟨f1, f2, f3, _⟩ := formedR_spec ha hb hf
  obtain ⟨g1, g2, g3, _⟩ := formedR_spec hc hd hg
  have hq := Int.mul_pos (fm_pos hb f2 f3) (fm_pos hd g2 g3)
  have p1 := Int.mul_nonneg (val_nonneg ha) (val_nonneg hd)
  have p2 := Int.mul_nonneg (val_nonneg hc) (val_nonneg hb)
  unfold joinS
  rw [if_pos (by simp [hf, hg]), mulS_bd f1 g2, mulS_bd g1 f2, mulS_bd f2 g2]
  by_cases h1 : (natL (val a * val d)).length ≤ 400 <;> by_cases h2 : (natL (val c * val b)).length ≤ 400 <;> by_cases h3 : (natL (val b * val d)).length ≤ 400
  · rw [bd_ok h1, bd_ok h2, bd_ok h3, if_pos ⟨h1, h2, h3⟩]
    show endS 0 (subS (natL _) (natL _)).2 (subS (natL _) (natL _)).1 (natL _) = _
    unfold subS
    rw [if_pos ⟨fmB_natL h1, fmB_natL h2⟩, val_natL p1, val_natL p2]
    by_cases h4 : val a * val d < val c * val b
    · rw [if_pos h4, if_pos h4]; rfl
    · rw [if_neg h4, if_neg h4]
      have l1 := val_lt_pw (natL_fm (val a * val d)).1
      rw [val_natL p1] at l1
      have l2 := natL_len_le (n := (natL (val a * val d)).length) (show 0 ≤ val a * val d - val c * val b by omega) (by omega)
      exact makeS_natL hq (by omega) h3
  all_goals first
    | (rw [bd_ok h1, bd_ok h2, bd_no h3, if_neg (fun h => h3 h.2.2)]; rfl)
    | (rw [bd_ok h1, bd_no h2, bd_ok h3, if_neg (fun h => h2 h.2.1)]; rfl)
    | (rw [bd_ok h1, bd_no h2, bd_no h3, if_neg (fun h => h2 h.2.1)]; rfl)
    | (rw [bd_no h1, bd_ok h2, bd_ok h3, if_neg (fun h => h1 h.1)]; rfl)
    | (rw [bd_no h1, bd_ok h2, bd_no h3, if_neg (fun h => h1 h.1)]; rfl)
    | (rw [bd_no h1, bd_no h2, bd_ok h3, if_neg (fun h => h1 h.1)]; rfl)
    | (rw [bd_no h1, bd_no h2, bd_no h3, if_neg (fun h => h1 h.1)]; rfl)
end
end Go.Proofs.Wk
/- Walks of the reference's fractions: reckoning. -/
namespace Go.Proofs.Wk
open Go.RowKit
set_option maxRecDepth 100000
attribute [local irreducible] Pw OpG
set_option linter.unusedVariables false
set_option linter.unusedSimpArgs false
end Go.Proofs.Wk
/- Walks of the laws of layer 2: their helpers. -/
namespace Go.Proofs.Wk
open Go.RowKit
set_option maxRecDepth 100000
attribute [local irreducible] Pw OpG
set_option linter.unusedVariables false
set_option linter.unusedSimpArgs false
theorem Theirs_ct (a b : List Int) (z : Z2) : Ct Try.prog 20 #[rt a b z] (fun _ => True) (fun _ : Unit => rt a b z) Tt (fun _ _ => True) := by
  refine Ct.start Try.func20 rfl rfl (slots_of rfl slots1) (fun D w0 => ?_)
  repeat (first | (with_reducible first | refine Pw.seq ?_ | refine Pw.region ?_ | refine Pw.nil ?_ | refine Pw.then_ ?_ | refine Pw.skip ?_ | refine Pw.block ?_ | refine Pw.exit ?_ | refine Pw.inX ?_ | refine Pw.inN ?_ | refine Pw.inR ?_ | refine Pw.thenX ?_ | refine Pw.thenR ?_ | refine Pw.ret ?_) | refine Pw.list (Pw.pure rfl rfl rfl ?_) | refine Pw.inY rfl ?_ | refine Pw.list (Pw.off rfl rfl ?_) | refine Pw.condT rfl ?_ | refine Pw.condF rfl ?_ | refine Pw.list (Pw.box rfl rfl rfl rfl (fun _ => freeHead ?_)) | refine Pw.list (Pw.alloc rfl rfl rfl rfl rfl (fun _ => ?_)) | refine Pw.list (Pw.build rfl rfl rfl rfl ?_) | refine Pw.list (Pw.ld rfl inferInstance rfl rfl rfl ?_) | refine Pw.list (Pw.sto rfl rfl inferInstance rfl rfl rfl rfl rfl inferInstance rfl ?_))
  exact Pw.ret_ (x := ()) (.cell rfl (fun w hs => hs.own _ (.head _)) rfl .nil) rfl trivial (fun w h => by trivial)
end Go.Proofs.Wk
/- The law RatioProducts walked. -/
namespace Go.Proofs.Wk
open Go.RowKit
set_option maxRecDepth 100000
set_option maxHeartbeats 4000000
attribute [local irreducible] Pw OpG
set_option linter.unusedVariables false
set_option linter.unusedSimpArgs false
end Go.Proofs.Wk
/- Walks of the reference's fractions: comparing, adding, subtracting, the lesser one. -/
namespace Go.Proofs.Wk
open Go.RowKit
set_option maxRecDepth 100000
set_option maxHeartbeats 4000000
attribute [local irreducible] Pw OpG
set_option linter.unusedVariables false
set_option linter.unusedSimpArgs false
end Go.Proofs.Wk
/- The law RatioSums walked. -/
namespace Go.Proofs.Wk
open Go.RowKit
set_option maxRecDepth 100000
set_option maxHeartbeats 4000000
attribute [local irreducible] Pw OpG
set_option linter.unusedVariables false
set_option linter.unusedSimpArgs false
end Go.Proofs.Wk
/- Snapshots as data: what the walks of layer 10 say of them. -/
namespace Go.Proofs.Wk
open Go.RowKit
set_option linter.unusedVariables false
set_option linter.unusedSimpArgs false
structure Vtr where
  id : Int
  st : Int
  pk : List Int
  z : Option Addr × Nat
abbrev gL1 (s : Gr) (cells : List Value) (e : TypeId) : List Blk := gL s cells e ++ []
structure Sn where
  vs : List Vtr
  zv : Option Addr × Nat
  cs : List Int
  zc : Option Addr × Nat
theorem get_at {α : Type} {l : List α} {i : Nat} (h : i < l.length) : ∃ x, l[i]? = some x ∧ x ∈ l := ⟨l[i], List.getElem?_eq_getElem h, List.getElem_mem h⟩
/-! ### Rising lists -/
theorem top63 {n : Nat} (h : n ≤ maxLen) : n ≤ 9223372036854775807 := by simpa [maxLen] using h
theorem i64s {i n : Nat} (h : i < n) (hn : n ≤ 9223372036854775807) : wrap64 ((i : Int) + 1) = ((i + 1 : Nat) : Int) := by unfold wrap64; omega
/-! ### Formed snapshots -/
theorem take_snoc {α : Type} {l : List α} {i : Nat} {x : α} (h : l[i]? = some x) : l.take (i + 1) = l.take i ++ [x] := by
  rw [List.take_add_one, h]; rfl
end Go.Proofs.Wk
/- Shares: plain facts of what members are given. -/
namespace Go.Proofs.Wk
open Go.RowKit
set_option linter.unusedVariables false
set_option linter.unusedSimpArgs false
structure Shr where
  v : Int
  c : Int
  a : List Int
  b : List Int
  z : Z2
structure ShrW (s : Shr) : Prop where
  a : Lm s.a
  b : Lm s.b
structure Rt where
  a : List Int
  b : List Int
  z : Z2
def encR (r : Rt) : List Value := [sl r.a r.z.1, sl r.b r.z.2]
def heldR (r : Rt) (W : World) : Prop := R2 r.a r.b r.z W
abbrev RS (l : List Rt) (x : Option Addr × Nat) : World → Prop := Rows (RR encR heldR) 2 l x.1 x.2
abbrev rsV (l : List Rt) (x : Option Addr × Nat) : Value := .slice x.1 l.length x.2
def cellsR (l : List Rt) : List Value := l.flatMap encR
theorem encR_one (s : Rt) : ∀ u ∈ encR s, u.oneCell' = true := by
  intro u hu
  unfold encR at hu
  simp only [List.mem_cons, List.not_mem_nil, or_false] at hu
  rcases hu with rfl | rfl <;> rfl
abbrev R3t := List Int × List Int × Int
structure R3ok (t : R3t) : Prop where
  a : Fm t.1
  b : Fm t.2.1
  la : t.1.length < 1048576
  lb : t.2.1.length < 1048576
end Go.Proofs.Wk
/- Walks of layer 10 (graph): rising, money.Add. -/
namespace Go.Proofs.Wk
open Go.RowKit
set_option maxRecDepth 100000
attribute [local irreducible] Pw OpG
set_option linter.unusedVariables false
set_option linter.unusedSimpArgs false
end Go.Proofs.Wk
/- Walks of layer 10 (graph): Formed. -/
namespace Go.Proofs.Wk
open Go.RowKit
set_option maxRecDepth 100000
set_option maxHeartbeats 1000000
attribute [local irreducible] Pw OpG
set_option linter.unusedVariables false
set_option linter.unusedSimpArgs false
end Go.Proofs.Wk
/- Walks of layer 10 (graph): finding, approving. -/
namespace Go.Proofs.Wk
open Go.RowKit
set_option maxRecDepth 100000
set_option maxHeartbeats 1000000
attribute [local irreducible] Pw OpG
set_option linter.unusedVariables false
set_option linter.unusedSimpArgs false
theorem below_snoc {α : Type} {l : List α} {p : α → Bool} {i : Nat} {x : α} (h : ∀ j, j < i → ∀ y, l[j]? = some y → p y = false) (hx : l[i]? = some x) (hp : p x = false) : ∀ j, j < i + 1 → ∀ y, l[j]? = some y → p y = false := fun j hj y hy => by
  rcases Nat.lt_or_ge j i with h' | h'
  · exact h j h' y hy
  · obtain rfl : j = i := by omega
    rw [hx] at hy; cases hy; exact hp
theorem below_all {α : Type} {l : List α} {p : α → Bool} {i : Nat} (h : ∀ j, j < i → ∀ y, l[j]? = some y → p y = false) (hi : l.length ≤ i) : ∀ (j : Nat) (y : α), l[j]? = some y → p y = false := fun j y hy => h j (Nat.lt_of_lt_of_le (List.getElem?_eq_some_iff.1 hy).1 hi) y hy
end Go.Proofs.Wk
/- Shares: helpers walked. -/
namespace Go.Proofs.Wk
open Go.RowKit
set_option maxRecDepth 100000
set_option maxHeartbeats 1000000
attribute [local irreducible] Pw OpG
set_option linter.unusedVariables false
set_option linter.unusedSimpArgs false
end Go.Proofs.Wk
/- Shares: phragmen.Supports walked. -/
namespace Go.Proofs.Wk
open Go.RowKit
set_option maxRecDepth 100000
set_option maxHeartbeats 2000000
attribute [local irreducible] Pw OpG
set_option linter.unusedVariables false
set_option linter.unusedSimpArgs false
theorem cellsR_snoc (l : List Rt) (r : Rt) : cellsR (l ++ [r]) = cellsR l ++ encR r := by unfold cellsR; simp
end Go.Proofs.Wk
/- Shares: psephoslaw11.Few, Theirs; the document's Supports. -/
namespace Go.Proofs.Wk
open Go.RowKit
set_option maxRecDepth 100000
set_option maxHeartbeats 2000000
attribute [local irreducible] Pw OpG
set_option linter.unusedVariables false
set_option linter.unusedSimpArgs false
end Go.Proofs.Wk
/- Shares: the document's Supports walked. -/
namespace Go.Proofs.Wk
open Go.RowKit
set_option maxRecDepth 100000
set_option maxHeartbeats 4000000
attribute [local irreducible] Pw OpG
set_option linter.unusedVariables false
set_option linter.unusedSimpArgs false
end Go.Proofs.Wk
/- Weights made whole: helpers walked. -/
namespace Go.Proofs.Wk
open Go.RowKit
set_option maxRecDepth 100000
set_option maxHeartbeats 1000000
attribute [local irreducible] Pw OpG
set_option linter.unusedVariables false
set_option linter.unusedSimpArgs false
theorem IndexR_ct (l : List Rt) (x : Option Addr × Nat) (f : FuncId) (p : Rt → Bool) (hf : ∀ v ∈ l, Ct Try.prog f #[rt v.a v.b v.z] (heldR v) (fun _ : Unit => .bool (p v)) Tt (fun _ _ => True)) (hcb : callB Try.prog f = true) :
    Ct Try.prog 72 #[rsV l x, .func (.func f) #[] #[]] (RS l x) (fun _ : Unit => .int .i64 (ixI p l)) Tt (fun _ _ => True) := by
  obtain ⟨A, c⟩ := x
  refine Ct.start Try.func72 rfl rfl (slots_of rfl slots2) (fun D w0 => ?_)
  refine Pw.use (p := l.length ≤ maxLen) (fun w h => (fact0 h).top) (fun htop => ?_)
  have htop := top63 htop
  repeat (first | (with_reducible first | refine Pw.seq ?_ | refine Pw.region ?_ | refine Pw.nil ?_ | refine Pw.then_ ?_ | refine Pw.skip ?_ | refine Pw.block ?_ | refine Pw.exit ?_ | refine Pw.inX ?_ | refine Pw.inN ?_ | refine Pw.inR ?_ | refine Pw.thenX ?_ | refine Pw.thenR ?_ | refine Pw.ret ?_) | refine Pw.list (Pw.pure rfl rfl rfl ?_) | refine Pw.inY rfl ?_ | refine Pw.list (Pw.off rfl rfl ?_) | refine Pw.condT rfl ?_ | refine Pw.condF rfl ?_)
  refine Pw.loopJ (σ := Nat) (fun i => i ≤ l.length ∧ ∀ j, j < i → ∀ y, l[j]? = some y → p y = false) (fun i => ⟨[(0, .slice A l.length c), (1, .func (.func f) #[] #[]), (7, .int .i64 l.length), (8, .int .i64 i)], [], [RS l (A, c)]⟩) (fun i => l.length - i) 0 ⟨Nat.zero_le _, fun j hj => absurd hj (Nat.not_lt_zero j)⟩ (Pw.enter ⟨rfl, rfl, rfl, rfl, trivial⟩ (fun _ h => h)) ?_
  rintro i ⟨hi, hj⟩
  dsimp only at hi hj ⊢
  repeat (first | (with_reducible first | refine Pw.seq ?_ | refine Pw.region ?_ | refine Pw.nil ?_ | refine Pw.then_ ?_ | refine Pw.skip ?_ | refine Pw.block ?_ | refine Pw.exit ?_ | refine Pw.inX ?_ | refine Pw.inN ?_ | refine Pw.inR ?_ | refine Pw.thenX ?_ | refine Pw.thenR ?_ | refine Pw.ret ?_) | refine Pw.list (Pw.pure rfl rfl rfl ?_) | refine Pw.inY rfl ?_ | refine Pw.list (Pw.off rfl rfl ?_) | refine Pw.condT rfl ?_ | refine Pw.condF rfl ?_)
  refine Pw.condD rfl (fun c3 => ?_) (fun c3 => ?_)
  · obtain ⟨v, hvi, hm⟩ := get_at (show i < l.length by omega)
    repeat (first | (with_reducible first | refine Pw.seq ?_ | refine Pw.region ?_ | refine Pw.nil ?_ | refine Pw.then_ ?_ | refine Pw.skip ?_ | refine Pw.block ?_ | refine Pw.exit ?_ | refine Pw.inX ?_ | refine Pw.inN ?_ | refine Pw.inR ?_ | refine Pw.thenX ?_ | refine Pw.thenR ?_ | refine Pw.ret ?_) | refine Pw.list (Pw.pure rfl rfl rfl ?_) | refine Pw.inY rfl ?_ | refine Pw.list (Pw.off rfl rfl ?_) | refine Pw.condT rfl ?_ | refine Pw.condF rfl ?_)
    refine Pw.list (Pw.index rfl rfl rfl rfl (Int.natCast_nonneg i) c3 (fun w h => (fact0 h).has (Int.natCast_nonneg i) c3) rfl rfl ?_)
    rintro ad rfl
    refine Pw.list (Pw.loadR v rfl inferInstance rfl (by rw [Int.toNat_natCast]; exact hvi) (by kernel_rfl) rfl rfl ?_)
    refine Pw.re (d := 15) (v' := rt v.a v.b v.z) rfl rfl ?_
    repeat (first | (with_reducible first | refine Pw.seq ?_ | refine Pw.region ?_ | refine Pw.nil ?_ | refine Pw.then_ ?_ | refine Pw.skip ?_ | refine Pw.block ?_ | refine Pw.exit ?_ | refine Pw.inX ?_ | refine Pw.inN ?_ | refine Pw.inR ?_ | refine Pw.thenX ?_ | refine Pw.thenR ?_ | refine Pw.ret ?_) | refine Pw.list (Pw.pure rfl rfl rfl ?_) | refine Pw.inY rfl ?_ | refine Pw.list (Pw.off rfl rfl ?_) | refine Pw.condT rfl ?_ | refine Pw.condF rfl ?_)
    refine Pw.list (Pw.call (hf v hm) rfl rfl rfl hcb rfl rfl (fun w h => fact0 h) ?_)
    intro _ _
    cases hp : p v
    · repeat (first | (with_reducible first | refine Pw.seq ?_ | refine Pw.region ?_ | refine Pw.nil ?_ | refine Pw.then_ ?_ | refine Pw.skip ?_ | refine Pw.block ?_ | refine Pw.exit ?_ | refine Pw.inX ?_ | refine Pw.inN ?_ | refine Pw.inR ?_ | refine Pw.thenX ?_ | refine Pw.thenR ?_ | refine Pw.ret ?_) | refine Pw.list (Pw.pure rfl rfl rfl ?_) | refine Pw.inY rfl ?_ | refine Pw.list (Pw.off rfl rfl ?_) | refine Pw.condT rfl ?_ | refine Pw.condF rfl ?_)
      refine Pw.re (d := 8) (v' := .int .i64 ((i + 1 : Nat) : Int)) rfl (congrArg (Value.int .i64) (i64s (by omega) htop)) ?_
      exact Pw.again (i + 1) ⟨by omega, below_snoc hj hvi hp⟩ (by show l.length - (i + 1) < l.length - i; omega) ⟨rfl, rfl, rfl, rfl, trivial⟩ rfl (fun w h => allCons (fact2 h) allNil)
    · repeat (first | (with_reducible first | refine Pw.seq ?_ | refine Pw.region ?_ | refine Pw.nil ?_ | refine Pw.then_ ?_ | refine Pw.skip ?_ | refine Pw.block ?_ | refine Pw.exit ?_ | refine Pw.inX ?_ | refine Pw.inN ?_ | refine Pw.inR ?_ | refine Pw.thenX ?_ | refine Pw.thenR ?_ | refine Pw.ret ?_) | refine Pw.list (Pw.pure rfl rfl rfl ?_) | refine Pw.inY rfl ?_ | refine Pw.list (Pw.off rfl rfl ?_) | refine Pw.condT rfl ?_ | refine Pw.condF rfl ?_)
      exact Pw.ret_ (x := ()) (.tmp rfl .nil) (congrArg (Value.int .i64) (ixI_hit hvi hp hj).symm) trivial (fun w h => by trivial)
  · repeat (first | (with_reducible first | refine Pw.seq ?_ | refine Pw.region ?_ | refine Pw.nil ?_ | refine Pw.then_ ?_ | refine Pw.skip ?_ | refine Pw.block ?_ | refine Pw.exit ?_ | refine Pw.inX ?_ | refine Pw.inN ?_ | refine Pw.inR ?_ | refine Pw.thenX ?_ | refine Pw.thenR ?_ | refine Pw.ret ?_) | refine Pw.list (Pw.pure rfl rfl rfl ?_) | refine Pw.inY rfl ?_ | refine Pw.list (Pw.off rfl rfl ?_) | refine Pw.condT rfl ?_ | refine Pw.condF rfl ?_)
    exact Pw.ret_ (x := ()) (.tmp rfl .nil) (congrArg (Value.int .i64) (ixI_none (below_all hj (by omega))).symm) trivial (fun w h => by trivial)
theorem ContainsR_ct (l : List Rt) (x : Option Addr × Nat) (f : FuncId) (p : Rt → Bool) (hf : ∀ v ∈ l, Ct Try.prog f #[rt v.a v.b v.z] (heldR v) (fun _ : Unit => .bool (p v)) Tt (fun _ _ => True)) (hcb : callB Try.prog f = true) :
    Ct Try.prog 35 #[rsV l x, .func (.func f) #[] #[]] (RS l x) (fun _ : Unit => .bool (l.any p)) Tt (fun _ _ => True) := by
  refine Ct.start Try.func35 rfl rfl (slots_of rfl slots2) (fun D w0 => ?_)
  repeat (first | (with_reducible first | refine Pw.seq ?_ | refine Pw.region ?_ | refine Pw.nil ?_ | refine Pw.then_ ?_ | refine Pw.skip ?_ | refine Pw.block ?_ | refine Pw.exit ?_ | refine Pw.inX ?_ | refine Pw.inN ?_ | refine Pw.inR ?_ | refine Pw.thenX ?_ | refine Pw.thenR ?_ | refine Pw.ret ?_) | refine Pw.list (Pw.pure rfl rfl rfl ?_) | refine Pw.inY rfl ?_ | refine Pw.list (Pw.off rfl rfl ?_) | refine Pw.condT rfl ?_ | refine Pw.condF rfl ?_)
  refine Pw.list (Pw.call (IndexR_ct l x f p hf hcb) rfl rfl rfl (by kernel_rfl) rfl rfl (fun w h => fact0 h) ?_)
  intro _ _
  repeat (first | (with_reducible first | refine Pw.seq ?_ | refine Pw.region ?_ | refine Pw.nil ?_ | refine Pw.then_ ?_ | refine Pw.skip ?_ | refine Pw.block ?_ | refine Pw.exit ?_ | refine Pw.inX ?_ | refine Pw.inN ?_ | refine Pw.inR ?_ | refine Pw.thenX ?_ | refine Pw.thenR ?_ | refine Pw.ret ?_) | refine Pw.list (Pw.pure rfl rfl rfl ?_) | refine Pw.inY rfl ?_ | refine Pw.list (Pw.off rfl rfl ?_) | refine Pw.condT rfl ?_ | refine Pw.condF rfl ?_)
  exact Pw.ret_ (x := ()) (.tmp rfl .nil) (congrArg Value.bool (by
    rcases ixI_cases p l with ⟨h1, h2⟩ | ⟨i, y, h1, h2, h3, h4⟩
    · rw [h1, decide_eq_false (by omega)]
      rw [List.find?_eq_none] at h2
      symm; rw [List.any_eq_false]; exact fun y hy => h2 y hy
    · rw [h1, decide_eq_true (by omega)]
      symm; rw [List.any_eq_true]; exact ⟨y, List.mem_of_getElem? h2, h3⟩)) trivial (fun w h => by trivial)
structure RtW (r : Rt) : Prop where
  a : Lm r.a
  b : Lm r.b
theorem rnd1_ct (s : Rt) (hw : RtW s) (la : s.a.length < 1048576) (lb : s.b.length < 1048576) : Ct Try.prog 36 #[rt s.a s.b s.z] (heldR s) (fun _ : Unit => .bool (!formedR s.a s.b)) Tt (fun _ _ => True) := by
  refine Ct.start Try.func36 rfl rfl (slots_of rfl slots1) (fun D w0 => ?_)
  repeat (first | (with_reducible first | refine Pw.seq ?_ | refine Pw.region ?_ | refine Pw.nil ?_ | refine Pw.then_ ?_ | refine Pw.skip ?_ | refine Pw.block ?_ | refine Pw.exit ?_ | refine Pw.inX ?_ | refine Pw.inN ?_ | refine Pw.inR ?_ | refine Pw.thenX ?_ | refine Pw.thenR ?_ | refine Pw.ret ?_) | refine Pw.list (Pw.pure rfl rfl rfl ?_) | refine Pw.inY rfl ?_ | refine Pw.list (Pw.off rfl rfl ?_) | refine Pw.condT rfl ?_ | refine Pw.condF rfl ?_ | refine Pw.list (Pw.box rfl rfl rfl rfl (fun _ => freeHead ?_)) | refine Pw.list (Pw.alloc rfl rfl rfl rfl rfl (fun _ => ?_)) | refine Pw.list (Pw.build rfl rfl rfl rfl ?_) | refine Pw.list (Pw.ld rfl inferInstance rfl rfl rfl ?_) | refine Pw.list (Pw.sto rfl rfl inferInstance rfl rfl rfl rfl rfl inferInstance rfl ?_))
  refine Pw.list (Pw.call (rat_Formed_ct s.a s.b s.z hw.a hw.b la lb) rfl rfl rfl (by kernel_rfl) rfl rfl (fun w h => (hv w h : heldR s w)) ?_)
  intro _ _
  repeat (first | (with_reducible first | refine Pw.seq ?_ | refine Pw.region ?_ | refine Pw.nil ?_ | refine Pw.then_ ?_ | refine Pw.skip ?_ | refine Pw.block ?_ | refine Pw.exit ?_ | refine Pw.inX ?_ | refine Pw.inN ?_ | refine Pw.inR ?_ | refine Pw.thenX ?_ | refine Pw.thenR ?_ | refine Pw.ret ?_) | refine Pw.list (Pw.pure rfl rfl rfl ?_) | refine Pw.inY rfl ?_ | refine Pw.list (Pw.off rfl rfl ?_) | refine Pw.condT rfl ?_ | refine Pw.condF rfl ?_ | refine Pw.list (Pw.box rfl rfl rfl rfl (fun _ => ?_)) | refine Pw.list (Pw.alloc rfl rfl rfl rfl rfl (fun _ => ?_)) | refine Pw.list (Pw.build rfl rfl rfl rfl ?_) | refine Pw.list (Pw.ld rfl inferInstance rfl rfl rfl ?_) | refine Pw.list (Pw.sto rfl rfl inferInstance rfl rfl rfl rfl rfl inferInstance rfl ?_))
  exact Pw.ret_ (x := ()) (.tmp rfl .nil) rfl trivial (fun w h => by trivial)
/-- A weight's place, and its rest. -/
structure On where
  at_ : Int
  a : List Int
  b : List Int
  z : Z2
abbrev onV (o : On) : Value := .agg #[.int .i64 o.at_, sl o.a o.z.1, sl o.b o.z.2]
def encO (o : On) : List Value := [.int .i64 o.at_, sl o.a o.z.1, sl o.b o.z.2]
def heldO (o : On) (W : World) : Prop := R2 o.a o.b o.z W
theorem rnd2_ct (p q : On) (hp : Lm p.a ∧ Lm p.b) (hq : Lm q.a ∧ Lm q.b) (lp : p.a.length < 1048576 ∧ p.b.length < 1048576) (lq : q.a.length < 1048576 ∧ q.b.length < 1048576) :
    Ct Try.prog 39 #[onV p, onV q] (fun W => heldO p W ∧ heldO q W) (fun _ : Unit => .int .i64 (rcmpS q.a q.b p.a p.b)) Tt (fun _ _ => True) := by
  refine Ct.start Try.func39 rfl rfl (slots_of rfl slots2) (fun D w0 => Pw.facts (G' := [R2 p.a p.b p.z, R2 q.a q.b q.z]) (fun w h => allCons (fact0 h).1 (allCons (fact0 h).2 allNil)) ?_)
  repeat (first | (with_reducible first | refine Pw.seq ?_ | refine Pw.region ?_ | refine Pw.nil ?_ | refine Pw.then_ ?_ | refine Pw.skip ?_ | refine Pw.block ?_ | refine Pw.exit ?_ | refine Pw.inX ?_ | refine Pw.inN ?_ | refine Pw.inR ?_ | refine Pw.thenX ?_ | refine Pw.thenR ?_ | refine Pw.ret ?_) | refine Pw.list (Pw.pure rfl rfl rfl ?_) | refine Pw.inY rfl ?_ | refine Pw.list (Pw.off rfl rfl ?_) | refine Pw.condT rfl ?_ | refine Pw.condF rfl ?_ | refine Pw.list (Pw.box rfl rfl rfl rfl (fun _ => freeHead ?_)) | refine Pw.list (Pw.alloc rfl rfl rfl rfl rfl (fun _ => ?_)) | refine Pw.list (Pw.build rfl rfl rfl rfl ?_) | refine Pw.list (Pw.ld rfl inferInstance rfl rfl rfl ?_) | refine Pw.list (Pw.sto rfl rfl inferInstance rfl rfl rfl rfl rfl inferInstance rfl ?_))
  refine Pw.list (Pw.call (rat_Cmp_ct q.a q.b p.a p.b q.z p.z hq.1 hq.2 hp.1 hp.2 lq.1 lq.2 lp.1 lp.2) rfl rfl rfl (by kernel_rfl) rfl rfl (fun w h => ⟨(hv w h), (hv w h)⟩) ?_)
  intro _ _
  repeat (first | (with_reducible first | refine Pw.seq ?_ | refine Pw.region ?_ | refine Pw.nil ?_ | refine Pw.then_ ?_ | refine Pw.skip ?_ | refine Pw.block ?_ | refine Pw.exit ?_ | refine Pw.inX ?_ | refine Pw.inN ?_ | refine Pw.inR ?_ | refine Pw.thenX ?_ | refine Pw.thenR ?_ | refine Pw.ret ?_) | refine Pw.list (Pw.pure rfl rfl rfl ?_) | refine Pw.inY rfl ?_ | refine Pw.list (Pw.off rfl rfl ?_) | refine Pw.condT rfl ?_ | refine Pw.condF rfl ?_ | refine Pw.list (Pw.box rfl rfl rfl rfl (fun _ => ?_)) | refine Pw.list (Pw.alloc rfl rfl rfl rfl rfl (fun _ => ?_)) | refine Pw.list (Pw.build rfl rfl rfl rfl ?_) | refine Pw.list (Pw.ld rfl inferInstance rfl rfl rfl ?_) | refine Pw.list (Pw.sto rfl rfl inferInstance rfl rfl rfl rfl rfl inferInstance rfl ?_))
  exact Pw.ret_ (x := ()) (.tmp rfl .nil) rfl trivial (fun w h => by trivial)
theorem wfew_ct (l : List Rt) (x : Option Addr × Nat) : Ct Try.prog 13 #[rsV l x] (RS l x) (fun r : Bool => .bool r) (fun r => r = true → l.length ≤ 20 ∧ ∀ s ∈ l, s.a.length ≤ 6 ∧ s.b.length ≤ 4) (fun _ _ => True) := by
  obtain ⟨A, c⟩ := x
  refine Ct.start Try.func13 rfl rfl (slots_of rfl slots1) (fun D w0 => ?_)
  refine Pw.use (p := l.length ≤ maxLen) (fun w h => (fact0 h).top) (fun htop => ?_)
  have htop := top63 htop
  repeat (first | (with_reducible first | refine Pw.seq ?_ | refine Pw.region ?_ | refine Pw.nil ?_ | refine Pw.then_ ?_ | refine Pw.skip ?_ | refine Pw.block ?_ | refine Pw.exit ?_ | refine Pw.inX ?_ | refine Pw.inN ?_ | refine Pw.inR ?_ | refine Pw.thenX ?_ | refine Pw.thenR ?_ | refine Pw.ret ?_) | refine Pw.list (Pw.pure rfl rfl rfl ?_) | refine Pw.inY rfl ?_ | refine Pw.list (Pw.off rfl rfl ?_) | refine Pw.condT rfl ?_ | refine Pw.condF rfl ?_ | refine Pw.list (Pw.box rfl rfl rfl rfl (fun _ => ?_)) | refine Pw.list (Pw.alloc rfl rfl rfl rfl rfl (fun _ => ?_)) | refine Pw.list (Pw.build rfl rfl rfl rfl ?_) | refine Pw.list (Pw.ld rfl inferInstance rfl rfl rfl ?_) | refine Pw.list (Pw.sto rfl rfl inferInstance rfl rfl rfl rfl rfl inferInstance rfl ?_))
  refine Pw.loopJ (σ := Nat) (fun i => i ≤ l.length ∧ i ≤ 20 ∧ ∀ s ∈ l.take i, s.a.length ≤ 6 ∧ s.b.length ≤ 4) (fun i => ⟨[(0, .slice A l.length c), (5, .int .i64 l.length), (6, .int .i64 i)], [], [RS l (A, c)]⟩) (fun i => l.length - i) 0 ⟨Nat.zero_le _, by omega, fun s hs => by simp at hs⟩ (Pw.enter ⟨rfl, rfl, rfl, trivial⟩ (fun _ h => h)) ?_
  rintro i ⟨hi, hm, hs⟩
  dsimp only at hi hm hs ⊢
  repeat (first | (with_reducible first | refine Pw.seq ?_ | refine Pw.region ?_ | refine Pw.nil ?_ | refine Pw.then_ ?_ | refine Pw.skip ?_ | refine Pw.block ?_ | refine Pw.exit ?_ | refine Pw.inX ?_ | refine Pw.inN ?_ | refine Pw.inR ?_ | refine Pw.thenX ?_ | refine Pw.thenR ?_ | refine Pw.ret ?_) | refine Pw.list (Pw.pure rfl rfl rfl ?_) | refine Pw.inY rfl ?_ | refine Pw.list (Pw.off rfl rfl ?_) | refine Pw.condT rfl ?_ | refine Pw.condF rfl ?_ | refine Pw.list (Pw.box rfl rfl rfl rfl (fun _ => ?_)) | refine Pw.list (Pw.alloc rfl rfl rfl rfl rfl (fun _ => ?_)) | refine Pw.list (Pw.build rfl rfl rfl rfl ?_) | refine Pw.list (Pw.ld rfl inferInstance rfl rfl rfl ?_) | refine Pw.list (Pw.sto rfl rfl inferInstance rfl rfl rfl rfl rfl inferInstance rfl ?_))
  refine Pw.condD rfl (fun c3 => ?_) (fun c3 => ?_)
  · obtain ⟨s, hsi, hsm⟩ := get_at (show i < l.length by omega)
    repeat (first | (with_reducible first | refine Pw.seq ?_ | refine Pw.region ?_ | refine Pw.nil ?_ | refine Pw.then_ ?_ | refine Pw.skip ?_ | refine Pw.block ?_ | refine Pw.exit ?_ | refine Pw.inX ?_ | refine Pw.inN ?_ | refine Pw.inR ?_ | refine Pw.thenX ?_ | refine Pw.thenR ?_ | refine Pw.ret ?_) | refine Pw.list (Pw.pure rfl rfl rfl ?_) | refine Pw.inY rfl ?_ | refine Pw.list (Pw.off rfl rfl ?_) | refine Pw.condT rfl ?_ | refine Pw.condF rfl ?_ | refine Pw.list (Pw.box rfl rfl rfl rfl (fun _ => ?_)) | refine Pw.list (Pw.alloc rfl rfl rfl rfl rfl (fun _ => ?_)) | refine Pw.list (Pw.build rfl rfl rfl rfl ?_) | refine Pw.list (Pw.ld rfl inferInstance rfl rfl rfl ?_) | refine Pw.list (Pw.sto rfl rfl inferInstance rfl rfl rfl rfl rfl inferInstance rfl ?_))
    refine Pw.split 11 rfl (fun c4 => ?_) (fun c4 => ?_)
    · repeat (first | (with_reducible first | refine Pw.seq ?_ | refine Pw.region ?_ | refine Pw.nil ?_ | refine Pw.then_ ?_ | refine Pw.skip ?_ | refine Pw.block ?_ | refine Pw.exit ?_ | refine Pw.inX ?_ | refine Pw.inN ?_ | refine Pw.inR ?_ | refine Pw.thenX ?_ | refine Pw.thenR ?_ | refine Pw.ret ?_) | refine Pw.list (Pw.pure rfl rfl rfl ?_) | refine Pw.inY rfl ?_ | refine Pw.list (Pw.off rfl rfl ?_) | refine Pw.condT rfl ?_ | refine Pw.condF rfl ?_ | refine Pw.list (Pw.box rfl rfl rfl rfl (fun _ => ?_)) | refine Pw.list (Pw.alloc rfl rfl rfl rfl rfl (fun _ => ?_)) | refine Pw.list (Pw.build rfl rfl rfl rfl ?_) | refine Pw.list (Pw.ld rfl inferInstance rfl rfl rfl ?_) | refine Pw.list (Pw.sto rfl rfl inferInstance rfl rfl rfl rfl rfl inferInstance rfl ?_))
      exact Pw.ret_ (x := false) (.tmp rfl .nil) rfl (fun e => by cases e) (fun w h => by trivial)
    repeat (first | (with_reducible first | refine Pw.seq ?_ | refine Pw.region ?_ | refine Pw.nil ?_ | refine Pw.then_ ?_ | refine Pw.skip ?_ | refine Pw.block ?_ | refine Pw.exit ?_ | refine Pw.inX ?_ | refine Pw.inN ?_ | refine Pw.inR ?_ | refine Pw.thenX ?_ | refine Pw.thenR ?_ | refine Pw.ret ?_) | refine Pw.list (Pw.pure rfl rfl rfl ?_) | refine Pw.inY rfl ?_ | refine Pw.list (Pw.off rfl rfl ?_) | refine Pw.condT rfl ?_ | refine Pw.condF rfl ?_ | refine Pw.list (Pw.box rfl rfl rfl rfl (fun _ => ?_)) | refine Pw.list (Pw.alloc rfl rfl rfl rfl rfl (fun _ => ?_)) | refine Pw.list (Pw.build rfl rfl rfl rfl ?_) | refine Pw.list (Pw.ld rfl inferInstance rfl rfl rfl ?_) | refine Pw.list (Pw.sto rfl rfl inferInstance rfl rfl rfl rfl rfl inferInstance rfl ?_))
    refine Pw.list (Pw.index rfl rfl rfl rfl (Int.natCast_nonneg i) c3 (fun w h => (hv w h : RS l (A, c) w).has (Int.natCast_nonneg i) c3) rfl rfl ?_)
    rintro ad rfl
    refine Pw.list (Pw.fieldS rfl rfl rfl rfl rfl rfl rfl ?_)
    refine Pw.list (Pw.loadF s rfl inferInstance rfl (by rw [Int.toNat_natCast]; exact hsi) rfl rfl rfl rfl ?_)
    repeat (first | (with_reducible first | refine Pw.seq ?_ | refine Pw.region ?_ | refine Pw.nil ?_ | refine Pw.then_ ?_ | refine Pw.skip ?_ | refine Pw.block ?_ | refine Pw.exit ?_ | refine Pw.inX ?_ | refine Pw.inN ?_ | refine Pw.inR ?_ | refine Pw.thenX ?_ | refine Pw.thenR ?_ | refine Pw.ret ?_) | refine Pw.list (Pw.pure rfl rfl rfl ?_) | refine Pw.inY rfl ?_ | refine Pw.list (Pw.off rfl rfl ?_) | refine Pw.condT rfl ?_ | refine Pw.condF rfl ?_ | refine Pw.list (Pw.box rfl rfl rfl rfl (fun _ => ?_)) | refine Pw.list (Pw.alloc rfl rfl rfl rfl rfl (fun _ => ?_)) | refine Pw.list (Pw.build rfl rfl rfl rfl ?_) | refine Pw.list (Pw.ld rfl inferInstance rfl rfl rfl ?_) | refine Pw.list (Pw.sto rfl rfl inferInstance rfl rfl rfl rfl rfl inferInstance rfl ?_))
    refine Pw.split 20 rfl (fun c5 => ?_) (fun c5 => ?_)
    · repeat (first | (with_reducible first | refine Pw.seq ?_ | refine Pw.region ?_ | refine Pw.nil ?_ | refine Pw.then_ ?_ | refine Pw.skip ?_ | refine Pw.block ?_ | refine Pw.exit ?_ | refine Pw.inX ?_ | refine Pw.inN ?_ | refine Pw.inR ?_ | refine Pw.thenX ?_ | refine Pw.thenR ?_ | refine Pw.ret ?_) | refine Pw.list (Pw.pure rfl rfl rfl ?_) | refine Pw.inY rfl ?_ | refine Pw.list (Pw.off rfl rfl ?_) | refine Pw.condT rfl ?_ | refine Pw.condF rfl ?_ | refine Pw.list (Pw.box rfl rfl rfl rfl (fun _ => ?_)) | refine Pw.list (Pw.alloc rfl rfl rfl rfl rfl (fun _ => ?_)) | refine Pw.list (Pw.build rfl rfl rfl rfl ?_) | refine Pw.list (Pw.ld rfl inferInstance rfl rfl rfl ?_) | refine Pw.list (Pw.sto rfl rfl inferInstance rfl rfl rfl rfl rfl inferInstance rfl ?_))
      exact Pw.ret_ (x := false) (.tmp rfl .nil) rfl (fun e => by cases e) (fun w h => by trivial)
    repeat (first | (with_reducible first | refine Pw.seq ?_ | refine Pw.region ?_ | refine Pw.nil ?_ | refine Pw.then_ ?_ | refine Pw.skip ?_ | refine Pw.block ?_ | refine Pw.exit ?_ | refine Pw.inX ?_ | refine Pw.inN ?_ | refine Pw.inR ?_ | refine Pw.thenX ?_ | refine Pw.thenR ?_ | refine Pw.ret ?_) | refine Pw.list (Pw.pure rfl rfl rfl ?_) | refine Pw.inY rfl ?_ | refine Pw.list (Pw.off rfl rfl ?_) | refine Pw.condT rfl ?_ | refine Pw.condF rfl ?_ | refine Pw.list (Pw.box rfl rfl rfl rfl (fun _ => ?_)) | refine Pw.list (Pw.alloc rfl rfl rfl rfl rfl (fun _ => ?_)) | refine Pw.list (Pw.build rfl rfl rfl rfl ?_) | refine Pw.list (Pw.ld rfl inferInstance rfl rfl rfl ?_) | refine Pw.list (Pw.sto rfl rfl inferInstance rfl rfl rfl rfl rfl inferInstance rfl ?_))
    refine Pw.list (Pw.indexS rfl rfl rfl rfl (Int.natCast_nonneg i) c3 rfl rfl ?_)
    refine Pw.list (Pw.fieldS rfl rfl rfl rfl rfl rfl rfl ?_)
    refine Pw.list (Pw.loadF s rfl inferInstance rfl (by rw [Int.toNat_natCast]; exact hsi) rfl rfl rfl rfl ?_)
    repeat (first | (with_reducible first | refine Pw.seq ?_ | refine Pw.region ?_ | refine Pw.nil ?_ | refine Pw.then_ ?_ | refine Pw.skip ?_ | refine Pw.block ?_ | refine Pw.exit ?_ | refine Pw.inX ?_ | refine Pw.inN ?_ | refine Pw.inR ?_ | refine Pw.thenX ?_ | refine Pw.thenR ?_ | refine Pw.ret ?_) | refine Pw.list (Pw.pure rfl rfl rfl ?_) | refine Pw.inY rfl ?_ | refine Pw.list (Pw.off rfl rfl ?_) | refine Pw.condT rfl ?_ | refine Pw.condF rfl ?_ | refine Pw.list (Pw.box rfl rfl rfl rfl (fun _ => ?_)) | refine Pw.list (Pw.alloc rfl rfl rfl rfl rfl (fun _ => ?_)) | refine Pw.list (Pw.build rfl rfl rfl rfl ?_) | refine Pw.list (Pw.ld rfl inferInstance rfl rfl rfl ?_) | refine Pw.list (Pw.sto rfl rfl inferInstance rfl rfl rfl rfl rfl inferInstance rfl ?_))
    refine Pw.condD rfl (fun c6 => ?_) (fun c6 => ?_)
    · repeat (first | (with_reducible first | refine Pw.seq ?_ | refine Pw.region ?_ | refine Pw.nil ?_ | refine Pw.then_ ?_ | refine Pw.skip ?_ | refine Pw.block ?_ | refine Pw.exit ?_ | refine Pw.inX ?_ | refine Pw.inN ?_ | refine Pw.inR ?_ | refine Pw.thenX ?_ | refine Pw.thenR ?_ | refine Pw.ret ?_) | refine Pw.list (Pw.pure rfl rfl rfl ?_) | refine Pw.inY rfl ?_ | refine Pw.list (Pw.off rfl rfl ?_) | refine Pw.condT rfl ?_ | refine Pw.condF rfl ?_ | refine Pw.list (Pw.box rfl rfl rfl rfl (fun _ => ?_)) | refine Pw.list (Pw.alloc rfl rfl rfl rfl rfl (fun _ => ?_)) | refine Pw.list (Pw.build rfl rfl rfl rfl ?_) | refine Pw.list (Pw.ld rfl inferInstance rfl rfl rfl ?_) | refine Pw.list (Pw.sto rfl rfl inferInstance rfl rfl rfl rfl rfl inferInstance rfl ?_))
      exact Pw.ret_ (x := false) (.tmp rfl .nil) rfl (fun e => by cases e) (fun w h => by trivial)
    repeat (first | (with_reducible first | refine Pw.seq ?_ | refine Pw.region ?_ | refine Pw.nil ?_ | refine Pw.then_ ?_ | refine Pw.skip ?_ | refine Pw.block ?_ | refine Pw.exit ?_ | refine Pw.inX ?_ | refine Pw.inN ?_ | refine Pw.inR ?_ | refine Pw.thenX ?_ | refine Pw.thenR ?_ | refine Pw.ret ?_) | refine Pw.list (Pw.pure rfl rfl rfl ?_) | refine Pw.inY rfl ?_ | refine Pw.list (Pw.off rfl rfl ?_) | refine Pw.condT rfl ?_ | refine Pw.condF rfl ?_ | refine Pw.list (Pw.box rfl rfl rfl rfl (fun _ => ?_)) | refine Pw.list (Pw.alloc rfl rfl rfl rfl rfl (fun _ => ?_)) | refine Pw.list (Pw.build rfl rfl rfl rfl ?_) | refine Pw.list (Pw.ld rfl inferInstance rfl rfl rfl ?_) | refine Pw.list (Pw.sto rfl rfl inferInstance rfl rfl rfl rfl rfl inferInstance rfl ?_))
    refine Pw.re (d := 6) (v' := .int .i64 ((i + 1 : Nat) : Int)) rfl (congrArg (Value.int .i64) (i64s (by omega) htop)) ?_
    exact Pw.again (i + 1) ⟨by omega, by omega, fun t ht => by
      rw [take_snoc hsi] at ht
      rcases List.mem_append.1 ht with ht | ht
      · exact hs t ht
      · rw [List.mem_singleton.1 ht]; omega⟩ (by show l.length - (i + 1) < l.length - i; omega) ⟨rfl, rfl, rfl, trivial⟩ rfl (fun w h => allCons (hv w h) allNil)
  · repeat (first | (with_reducible first | refine Pw.seq ?_ | refine Pw.region ?_ | refine Pw.nil ?_ | refine Pw.then_ ?_ | refine Pw.skip ?_ | refine Pw.block ?_ | refine Pw.exit ?_ | refine Pw.inX ?_ | refine Pw.inN ?_ | refine Pw.inR ?_ | refine Pw.thenX ?_ | refine Pw.thenR ?_ | refine Pw.ret ?_) | refine Pw.list (Pw.pure rfl rfl rfl ?_) | refine Pw.inY rfl ?_ | refine Pw.list (Pw.off rfl rfl ?_) | refine Pw.condT rfl ?_ | refine Pw.condF rfl ?_ | refine Pw.list (Pw.box rfl rfl rfl rfl (fun _ => ?_)) | refine Pw.list (Pw.alloc rfl rfl rfl rfl rfl (fun _ => ?_)) | refine Pw.list (Pw.build rfl rfl rfl rfl ?_) | refine Pw.list (Pw.ld rfl inferInstance rfl rfl rfl ?_) | refine Pw.list (Pw.sto rfl rfl inferInstance rfl rfl rfl rfl rfl inferInstance rfl ?_))
    exact Pw.ret_ (x := true) (.tmp rfl .nil) rfl (fun _ => by
      rw [List.take_of_length_le (by omega)] at hs; exact ⟨by omega, hs⟩) (fun w h => by trivial)
theorem wtheirs_ct (l : List Rt) (x : Option Addr × Nat) (hl : l.length ≤ 1000) : Ct Try.prog 15 #[rsV l x] (RS l x) (fun z : Option Addr × Nat => rsV l z) Tt (fun z => RS l z) := by
  obtain ⟨A, c⟩ := x
  have htop : l.length ≤ 9223372036854775807 := by omega
  refine Ct.start Try.func15 rfl rfl (slots_of rfl slots1) (fun D w0 => ?_)
  repeat (first | (with_reducible first | refine Pw.seq ?_ | refine Pw.region ?_ | refine Pw.nil ?_ | refine Pw.then_ ?_ | refine Pw.skip ?_ | refine Pw.block ?_ | refine Pw.exit ?_ | refine Pw.inX ?_ | refine Pw.inN ?_ | refine Pw.inR ?_ | refine Pw.thenX ?_ | refine Pw.thenR ?_ | refine Pw.ret ?_) | refine Pw.list (Pw.pure rfl rfl rfl ?_) | refine Pw.inY rfl ?_ | refine Pw.list (Pw.off rfl rfl ?_) | refine Pw.condT rfl ?_ | refine Pw.condF rfl ?_ | refine Pw.list (Pw.box rfl rfl rfl rfl (fun _ => ?_)) | refine Pw.list (Pw.alloc rfl rfl rfl rfl rfl (fun _ => ?_)) | refine Pw.list (Pw.build rfl rfl rfl rfl ?_) | refine Pw.list (Pw.ld rfl inferInstance rfl rfl rfl ?_) | refine Pw.list (Pw.sto rfl rfl inferInstance rfl rfl rfl rfl rfl inferInstance rfl ?_))
  refine Pw.loopJ (σ := Nat × Gr) (fun t => t.1 ≤ l.length ∧ gOk t.2 (cellsR (l.take t.1)) t.1 2) (fun t => ⟨[(0, .slice A l.length c), (3, gv t.2 t.1), (6, .int .i64 l.length), (7, .int .i64 t.1)], gL1 t.2 (cellsR (l.take t.1)) 39, [RS l (A, c)]⟩) (fun t => l.length - t.1) (0, none) ⟨Nat.zero_le _, rfl, rfl⟩ (Pw.enter ⟨rfl, rfl, rfl, rfl, trivial⟩ (fun _ h => h)) ?_
  rintro ⟨i, q⟩ ⟨hi, hq⟩
  dsimp only at hi hq ⊢
  repeat (first | (with_reducible first | refine Pw.seq ?_ | refine Pw.region ?_ | refine Pw.nil ?_ | refine Pw.then_ ?_ | refine Pw.skip ?_ | refine Pw.block ?_ | refine Pw.exit ?_ | refine Pw.inX ?_ | refine Pw.inN ?_ | refine Pw.inR ?_ | refine Pw.thenX ?_ | refine Pw.thenR ?_ | refine Pw.ret ?_) | refine Pw.list (Pw.pure rfl rfl rfl ?_) | refine Pw.inY rfl ?_ | refine Pw.list (Pw.off rfl rfl ?_) | refine Pw.condT rfl ?_ | refine Pw.condF rfl ?_ | refine Pw.list (Pw.box rfl rfl rfl rfl (fun _ => ?_)) | refine Pw.list (Pw.alloc rfl rfl rfl rfl rfl (fun _ => ?_)) | refine Pw.list (Pw.build rfl rfl rfl rfl ?_) | refine Pw.list (Pw.ld rfl inferInstance rfl rfl rfl ?_) | refine Pw.list (Pw.sto rfl rfl inferInstance rfl rfl rfl rfl rfl inferInstance rfl ?_))
  refine Pw.condD rfl (fun c3 => ?_) (fun c3 => ?_)
  · obtain ⟨s, hs, hm⟩ := get_at (show i < l.length by omega)
    repeat (first | (with_reducible first | refine Pw.seq ?_ | refine Pw.region ?_ | refine Pw.nil ?_ | refine Pw.then_ ?_ | refine Pw.skip ?_ | refine Pw.block ?_ | refine Pw.exit ?_ | refine Pw.inX ?_ | refine Pw.inN ?_ | refine Pw.inR ?_ | refine Pw.thenX ?_ | refine Pw.thenR ?_ | refine Pw.ret ?_) | refine Pw.list (Pw.pure rfl rfl rfl ?_) | refine Pw.inY rfl ?_ | refine Pw.list (Pw.off rfl rfl ?_) | refine Pw.condT rfl ?_ | refine Pw.condF rfl ?_ | refine Pw.list (Pw.box rfl rfl rfl rfl (fun _ => ?_)) | refine Pw.list (Pw.alloc rfl rfl rfl rfl rfl (fun _ => ?_)) | refine Pw.list (Pw.build rfl rfl rfl rfl ?_) | refine Pw.list (Pw.ld rfl inferInstance rfl rfl rfl ?_) | refine Pw.list (Pw.sto rfl rfl inferInstance rfl rfl rfl rfl rfl inferInstance rfl ?_))
    refine Pw.list (Pw.index rfl rfl rfl rfl (Int.natCast_nonneg i) c3 (fun w h => (hv w h : RS l (A, c) w).has (Int.natCast_nonneg i) c3) rfl rfl ?_)
    rintro ad rfl
    refine Pw.list (Pw.loadR s rfl inferInstance rfl (by rw [Int.toNat_natCast]; exact hs) (by kernel_rfl) rfl rfl ?_)
    refine Pw.re (d := 14) (v' := rt s.a s.b s.z) rfl rfl ?_
    repeat (first | (with_reducible first | refine Pw.seq ?_ | refine Pw.region ?_ | refine Pw.nil ?_ | refine Pw.then_ ?_ | refine Pw.skip ?_ | refine Pw.block ?_ | refine Pw.exit ?_ | refine Pw.inX ?_ | refine Pw.inN ?_ | refine Pw.inR ?_ | refine Pw.thenX ?_ | refine Pw.thenR ?_ | refine Pw.ret ?_) | refine Pw.list (Pw.pure rfl rfl rfl ?_) | refine Pw.inY rfl ?_ | refine Pw.list (Pw.off rfl rfl ?_) | refine Pw.condT rfl ?_ | refine Pw.condF rfl ?_ | refine Pw.list (Pw.box rfl rfl rfl rfl (fun _ => ?_)) | refine Pw.list (Pw.alloc rfl rfl rfl rfl rfl (fun _ => ?_)) | refine Pw.list (Pw.build rfl rfl rfl rfl ?_) | refine Pw.list (Pw.ld rfl inferInstance rfl rfl rfl ?_) | refine Pw.list (Pw.sto rfl rfl inferInstance rfl rfl rfl rfl rfl inferInstance rfl ?_))
    refine Pw.list (Pw.call (Theirs_ct s.a s.b s.z) rfl rfl rfl (by kernel_rfl) rfl rfl (fun w h => trivial) ?_)
    intro _ _
    refine Pw.list (Pw.lit12 rfl rfl rfl rfl rfl rfl rfl rfl rfl (fun g1 => freeHead ?_))
    refine Pw.list (Pw.push (s := q) (m := i) (cells := cellsR (l.take i)) (news := encR s) (L0 := []) rfl rfl rfl rfl rfl rfl rfl hq rfl (encR_one s) (fun w hs j u hu => by
      have h1 : w.heap[g1]? = some (row (encR s) 39) := fact0 hs.all
      rw [add_none, cell_of_blk h1]
      simpa using hu) (by omega) (by simp only [maxLen]; omega) (by show (i + 1) * 48 ≤ _; omega) rfl rfl (fun q' hq' => ?_))
    rw [← cellsR_snoc, ← take_snoc hs] at hq' ⊢
    repeat (first | (with_reducible first | refine Pw.seq ?_ | refine Pw.region ?_ | refine Pw.nil ?_ | refine Pw.then_ ?_ | refine Pw.skip ?_ | refine Pw.block ?_ | refine Pw.exit ?_ | refine Pw.inX ?_ | refine Pw.inN ?_ | refine Pw.inR ?_ | refine Pw.thenX ?_ | refine Pw.thenR ?_ | refine Pw.ret ?_) | refine Pw.list (Pw.pure rfl rfl rfl ?_) | refine Pw.inY rfl ?_ | refine Pw.list (Pw.off rfl rfl ?_) | refine Pw.condT rfl ?_ | refine Pw.condF rfl ?_ | refine Pw.list (Pw.box rfl rfl rfl rfl (fun _ => ?_)) | refine Pw.list (Pw.alloc rfl rfl rfl rfl rfl (fun _ => ?_)) | refine Pw.list (Pw.build rfl rfl rfl rfl ?_) | refine Pw.list (Pw.ld rfl inferInstance rfl rfl rfl ?_) | refine Pw.list (Pw.sto rfl rfl inferInstance rfl rfl rfl rfl rfl inferInstance rfl ?_))
    refine Pw.re (d := 7) (v' := .int .i64 ((i + 1 : Nat) : Int)) rfl (congrArg (Value.int .i64) (i64s (by omega) htop)) ?_
    exact Pw.again (i + 1, q') ⟨by omega, hq'⟩ (by show l.length - (i + 1) < l.length - i; omega) ⟨rfl, rfl, rfl, rfl, trivial⟩ rfl (fun w h => allCons (hv w h) allNil)
  · repeat (first | (with_reducible first | refine Pw.seq ?_ | refine Pw.region ?_ | refine Pw.nil ?_ | refine Pw.then_ ?_ | refine Pw.skip ?_ | refine Pw.block ?_ | refine Pw.exit ?_ | refine Pw.inX ?_ | refine Pw.inN ?_ | refine Pw.inR ?_ | refine Pw.thenX ?_ | refine Pw.thenR ?_ | refine Pw.ret ?_) | refine Pw.list (Pw.pure rfl rfl rfl ?_) | refine Pw.inY rfl ?_ | refine Pw.list (Pw.off rfl rfl ?_) | refine Pw.condT rfl ?_ | refine Pw.condF rfl ?_ | refine Pw.list (Pw.box rfl rfl rfl rfl (fun _ => ?_)) | refine Pw.list (Pw.alloc rfl rfl rfl rfl rfl (fun _ => ?_)) | refine Pw.list (Pw.build rfl rfl rfl rfl ?_) | refine Pw.list (Pw.ld rfl inferInstance rfl rfl rfl ?_) | refine Pw.list (Pw.sto rfl rfl inferInstance rfl rfl rfl rfl rfl inferInstance rfl ?_))
    obtain rfl : i = l.length := by omega
    rw [List.take_length] at hq ⊢
    refine Pw.freeG hq (fun A' c' e hc => ?_)
    rw [e]
    exact Pw.ret_ (x := (A', c')) (.tmp rfl .nil) rfl trivial (fun w h => rows_of_cells (fun _ _ => rfl) (fun y hy => by
      obtain ⟨j, hj⟩ := List.getElem?_of_mem hy
      have h1 : RS l (A, c) w := (hv w h)
      obtain ⟨ad, cs, e1, _, ⟨_, h2⟩, _⟩ := h1.2.2 j y hj
      exact h2) hc (by simp only [maxLen]; omega) (by omega) (fact0 h))
end Go.Proofs.Wk
/- Weights made whole: the document's difference. -/
namespace Go.Proofs.Wk
open Go.RowKit
set_option maxRecDepth 100000
set_option maxHeartbeats 1000000
attribute [local irreducible] Pw OpG
set_option linter.unusedVariables false
set_option linter.unusedSimpArgs false
structure MinOk (a b c d : List Int) : Prop where
  ad : (natL (val a * val d)).length ≤ 400
  cb : (natL (val c * val b)).length ≤ 400
  bd : (natL (val b * val d)).length ≤ 400
  le : val c * val b ≤ val a * val d
  pos : 0 < val b * val d
  n : 0 ≤ val a * val d ∧ 0 ≤ val c * val b
end Go.Proofs.Wk
/- Weights made whole: low numbers. -/
namespace Go.Proofs.Wk
open Go.RowKit
set_option maxRecDepth 100000
set_option maxHeartbeats 1000000
attribute [local irreducible] Pw OpG
set_option linter.unusedVariables false
set_option linter.unusedSimpArgs false
theorem or_0 {a : Int} (h : 0 ≤ a ∧ a ≤ 4294967295) : Go.bits .or .u64 0 a = a := by
  have := or_low (y := 0) h.1 h.2 (by omega) (by omega)
  simpa using this
theorem shl_0 {a : Int} (h : 0 ≤ a ∧ a ≤ 4294967295) : shl .u64 (IntKind.u64.wrap a) 0 = a := by
  unfold shl; rw [wu (n := a) h.1 (by omega)]; simp; exact wu h.1 (by omega)
theorem shl_32 {a : Int} (h : 0 ≤ a ∧ a ≤ 4294967295) : shl .u64 (IntKind.u64.wrap a) 32 = a * 4294967296 := by
  unfold shl; rw [wu (n := a) h.1 (by omega)]; simp
  rw [show (2 : Int) ^ (min 32 IntKind.u64.bits) = 4294967296 from rfl]; exact wu (by omega) (by omega)
/-- What a natural says as a number. -/
def lowN (l : List Int) : Int × Bool := if fmB l = true ∧ l.length ≤ 2 then (val l, true) else (0, false)
theorem Low_ct (l : List Int) (x : Option Addr × Nat) (hm : Lm l) (hl : l.length < 1048576) : Ct Try.prog 41 #[sl l x] (S1 l x) (fun _ : Unit => .tuple #[.int .u64 (lowN l).1, .bool (lowN l).2]) Tt (fun _ _ => True) := by
  obtain ⟨A, c⟩ := x
  refine Ct.start Try.func41 rfl rfl (slots_of rfl slots1) (fun D w0 => ?_)
  repeat (first | (with_reducible first | refine Pw.seq ?_ | refine Pw.region ?_ | refine Pw.nil ?_ | refine Pw.then_ ?_ | refine Pw.skip ?_ | refine Pw.block ?_ | refine Pw.exit ?_ | refine Pw.inX ?_ | refine Pw.inN ?_ | refine Pw.inR ?_ | refine Pw.thenX ?_ | refine Pw.thenR ?_ | refine Pw.ret ?_) | refine Pw.list (Pw.pure rfl rfl rfl ?_) | refine Pw.inY rfl ?_ | refine Pw.list (Pw.off rfl rfl ?_) | refine Pw.condT rfl ?_ | refine Pw.condF rfl ?_ | refine Pw.list (Pw.box rfl rfl rfl rfl (fun _ => ?_)) | refine Pw.list (Pw.alloc rfl rfl rfl rfl rfl (fun _ => ?_)) | refine Pw.list (Pw.build rfl rfl rfl rfl ?_) | refine Pw.list (Pw.ld rfl inferInstance rfl rfl rfl ?_) | refine Pw.list (Pw.sto rfl rfl inferInstance rfl rfl rfl rfl rfl inferInstance rfl ?_))
  refine Pw.list (Pw.call (Formed_ct l (A, c) (by omega)) rfl rfl rfl (by kernel_rfl) rfl rfl (fun w h => (hv w h)) ?_)
  intro _ _
  cases hf : fmB l
  · have e : lowN l = (0, false) := if_neg (fun h => by rw [hf] at h; cases h.1)
    rw [e]
    repeat (first | (with_reducible first | refine Pw.seq ?_ | refine Pw.region ?_ | refine Pw.nil ?_ | refine Pw.then_ ?_ | refine Pw.skip ?_ | refine Pw.block ?_ | refine Pw.exit ?_ | refine Pw.inX ?_ | refine Pw.inN ?_ | refine Pw.inR ?_ | refine Pw.thenX ?_ | refine Pw.thenR ?_ | refine Pw.ret ?_) | refine Pw.list (Pw.pure rfl rfl rfl ?_) | refine Pw.inY rfl ?_ | refine Pw.list (Pw.off rfl rfl ?_) | refine Pw.condT rfl ?_ | refine Pw.condF rfl ?_ | refine Pw.list (Pw.box rfl rfl rfl rfl (fun _ => ?_)) | refine Pw.list (Pw.alloc rfl rfl rfl rfl rfl (fun _ => ?_)) | refine Pw.list (Pw.build rfl rfl rfl rfl ?_) | refine Pw.list (Pw.ld rfl inferInstance rfl rfl rfl ?_) | refine Pw.list (Pw.sto rfl rfl inferInstance rfl rfl rfl rfl rfl inferInstance rfl ?_))
    exact Pw.ret_ (x := ()) (.tmp rfl (.tmp rfl .nil)) rfl trivial (fun w h => by trivial)
  repeat (first | (with_reducible first | refine Pw.seq ?_ | refine Pw.region ?_ | refine Pw.nil ?_ | refine Pw.then_ ?_ | refine Pw.skip ?_ | refine Pw.block ?_ | refine Pw.exit ?_ | refine Pw.inX ?_ | refine Pw.inN ?_ | refine Pw.inR ?_ | refine Pw.thenX ?_ | refine Pw.thenR ?_ | refine Pw.ret ?_) | refine Pw.list (Pw.pure rfl rfl rfl ?_) | refine Pw.inY rfl ?_ | refine Pw.list (Pw.off rfl rfl ?_) | refine Pw.condT rfl ?_ | refine Pw.condF rfl ?_ | refine Pw.list (Pw.box rfl rfl rfl rfl (fun _ => ?_)) | refine Pw.list (Pw.alloc rfl rfl rfl rfl rfl (fun _ => ?_)) | refine Pw.list (Pw.build rfl rfl rfl rfl ?_) | refine Pw.list (Pw.ld rfl inferInstance rfl rfl rfl ?_) | refine Pw.list (Pw.sto rfl rfl inferInstance rfl rfl rfl rfl rfl inferInstance rfl ?_))
  refine Pw.condD rfl (fun c1 => ?_) (fun c1 => ?_)
  · have e : lowN l = (0, false) := if_neg (fun h => by omega)
    rw [e]
    repeat (first | (with_reducible first | refine Pw.seq ?_ | refine Pw.region ?_ | refine Pw.nil ?_ | refine Pw.then_ ?_ | refine Pw.skip ?_ | refine Pw.block ?_ | refine Pw.exit ?_ | refine Pw.inX ?_ | refine Pw.inN ?_ | refine Pw.inR ?_ | refine Pw.thenX ?_ | refine Pw.thenR ?_ | refine Pw.ret ?_) | refine Pw.list (Pw.pure rfl rfl rfl ?_) | refine Pw.inY rfl ?_ | refine Pw.list (Pw.off rfl rfl ?_) | refine Pw.condT rfl ?_ | refine Pw.condF rfl ?_ | refine Pw.list (Pw.box rfl rfl rfl rfl (fun _ => ?_)) | refine Pw.list (Pw.alloc rfl rfl rfl rfl rfl (fun _ => ?_)) | refine Pw.list (Pw.build rfl rfl rfl rfl ?_) | refine Pw.list (Pw.ld rfl inferInstance rfl rfl rfl ?_) | refine Pw.list (Pw.sto rfl rfl inferInstance rfl rfl rfl rfl rfl inferInstance rfl ?_))
    exact Pw.ret_ (x := ()) (.tmp rfl (.tmp rfl .nil)) rfl trivial (fun w h => by trivial)
  have e : lowN l = (val l, true) := if_pos ⟨hf, by omega⟩
  rw [e]
  rcases l with _ | ⟨a, _ | ⟨b, _ | ⟨d, r⟩⟩⟩
  · repeat (first | (with_reducible first | refine Pw.seq ?_ | refine Pw.region ?_ | refine Pw.nil ?_ | refine Pw.then_ ?_ | refine Pw.skip ?_ | refine Pw.block ?_ | refine Pw.exit ?_ | refine Pw.inX ?_ | refine Pw.inN ?_ | refine Pw.inR ?_ | refine Pw.thenX ?_ | refine Pw.thenR ?_ | refine Pw.ret ?_) | refine Pw.list (Pw.pure rfl rfl rfl ?_) | refine Pw.inY rfl ?_ | refine Pw.list (Pw.off rfl rfl ?_) | refine Pw.condT rfl ?_ | refine Pw.condF rfl ?_ | refine Pw.list (Pw.box rfl rfl rfl rfl (fun _ => ?_)) | refine Pw.list (Pw.alloc rfl rfl rfl rfl rfl (fun _ => ?_)) | refine Pw.list (Pw.build rfl rfl rfl rfl ?_) | refine Pw.list (Pw.ld rfl inferInstance rfl rfl rfl ?_) | refine Pw.list (Pw.sto rfl rfl inferInstance rfl rfl rfl rfl rfl inferInstance rfl ?_))
    refine Pw.rounds 3 (Pw.round ?_)
    repeat (first | (with_reducible first | refine Pw.seq ?_ | refine Pw.region ?_ | refine Pw.nil ?_ | refine Pw.then_ ?_ | refine Pw.skip ?_ | refine Pw.block ?_ | refine Pw.exit ?_ | refine Pw.inX ?_ | refine Pw.inN ?_ | refine Pw.inR ?_ | refine Pw.thenX ?_ | refine Pw.thenR ?_ | refine Pw.ret ?_) | refine Pw.list (Pw.pure rfl rfl rfl ?_) | refine Pw.inY rfl ?_ | refine Pw.list (Pw.off rfl rfl ?_) | refine Pw.condT rfl ?_ | refine Pw.condF rfl ?_ | refine Pw.list (Pw.box rfl rfl rfl rfl (fun _ => ?_)) | refine Pw.list (Pw.alloc rfl rfl rfl rfl rfl (fun _ => ?_)) | refine Pw.list (Pw.build rfl rfl rfl rfl ?_) | refine Pw.list (Pw.ld rfl inferInstance rfl rfl rfl ?_) | refine Pw.list (Pw.sto rfl rfl inferInstance rfl rfl rfl rfl rfl inferInstance rfl ?_))
    exact Pw.ret_ (x := ()) (.tmp rfl (.tmp rfl .nil)) rfl trivial (fun w h => by trivial)
  · have ha := hm a (by simp)
    repeat (first | (with_reducible first | refine Pw.seq ?_ | refine Pw.region ?_ | refine Pw.nil ?_ | refine Pw.then_ ?_ | refine Pw.skip ?_ | refine Pw.block ?_ | refine Pw.exit ?_ | refine Pw.inX ?_ | refine Pw.inN ?_ | refine Pw.inR ?_ | refine Pw.thenX ?_ | refine Pw.thenR ?_ | refine Pw.ret ?_) | refine Pw.list (Pw.pure rfl rfl rfl ?_) | refine Pw.inY rfl ?_ | refine Pw.list (Pw.off rfl rfl ?_) | refine Pw.condT rfl ?_ | refine Pw.condF rfl ?_ | refine Pw.list (Pw.box rfl rfl rfl rfl (fun _ => ?_)) | refine Pw.list (Pw.alloc rfl rfl rfl rfl rfl (fun _ => ?_)) | refine Pw.list (Pw.build rfl rfl rfl rfl ?_) | refine Pw.list (Pw.ld rfl inferInstance rfl rfl rfl ?_) | refine Pw.list (Pw.sto rfl rfl inferInstance rfl rfl rfl rfl rfl inferInstance rfl ?_))
    refine Pw.rounds 3 (Pw.round ?_)
    repeat (first | (with_reducible first | refine Pw.seq ?_ | refine Pw.region ?_ | refine Pw.nil ?_ | refine Pw.then_ ?_ | refine Pw.skip ?_ | refine Pw.block ?_ | refine Pw.exit ?_ | refine Pw.inX ?_ | refine Pw.inN ?_ | refine Pw.inR ?_ | refine Pw.thenX ?_ | refine Pw.thenR ?_ | refine Pw.ret ?_) | refine Pw.list (Pw.pure rfl rfl rfl ?_) | refine Pw.inY rfl ?_ | refine Pw.list (Pw.off rfl rfl ?_) | refine Pw.condT rfl ?_ | refine Pw.condF rfl ?_ | refine Pw.list (Pw.box rfl rfl rfl rfl (fun _ => ?_)) | refine Pw.list (Pw.alloc rfl rfl rfl rfl rfl (fun _ => ?_)) | refine Pw.list (Pw.build rfl rfl rfl rfl ?_) | refine Pw.list (Pw.ld rfl inferInstance rfl rfl rfl ?_) | refine Pw.list (Pw.sto rfl rfl inferInstance rfl rfl rfl rfl rfl inferInstance rfl ?_))
    refine Pw.list (Pw.index rfl rfl rfl rfl (Int.le_refl 0) (by show (0 : Int) < 1; omega) (fun w h => (hv w h : S1 [a] (A, c) w).has (i := 0) (Int.le_refl 0) (by show (0 : Int) < 1; omega)) rfl rfl ?_)
    rintro ad rfl
    refine Pw.list (Pw.load1 rfl rfl (fun w hs => (hv w hs.all : S1 [a] (some ad, c) w).cell (i := 0) (Int.le_refl 0) (by show (0 : Int) < 1; omega)) rfl rfl ?_)
    repeat (first | (with_reducible first | refine Pw.seq ?_ | refine Pw.region ?_ | refine Pw.nil ?_ | refine Pw.then_ ?_ | refine Pw.skip ?_ | refine Pw.block ?_ | refine Pw.exit ?_ | refine Pw.inX ?_ | refine Pw.inN ?_ | refine Pw.inR ?_ | refine Pw.thenX ?_ | refine Pw.thenR ?_ | refine Pw.ret ?_) | refine Pw.list (Pw.pure rfl rfl rfl ?_) | refine Pw.inY rfl ?_ | refine Pw.list (Pw.off rfl rfl ?_) | refine Pw.condT rfl ?_ | refine Pw.condF rfl ?_ | refine Pw.list (Pw.box rfl rfl rfl rfl (fun _ => ?_)) | refine Pw.list (Pw.alloc rfl rfl rfl rfl rfl (fun _ => ?_)) | refine Pw.list (Pw.build rfl rfl rfl rfl ?_) | refine Pw.list (Pw.ld rfl inferInstance rfl rfl rfl ?_) | refine Pw.list (Pw.sto rfl rfl inferInstance rfl rfl rfl rfl rfl inferInstance rfl ?_))
    refine Pw.re (d := 26) (v' := .int .i64 0) rfl (congrArg (Value.int .i64) (show wrap64 (32 * 0) = 0 by unfold wrap64; omega)) ?_
    refine Pw.re (d := 24) (v' := .int .u64 (IntKind.u64.wrap a)) rfl rfl ?_
    refine Pw.list (Pw.shl rfl rfl rfl (by decide) rfl rfl ?_)
    refine Pw.re (d := 27) (v' := _) rfl (congrArg (Value.int .u64) (shl_0 ha)) ?_
    repeat (first | (with_reducible first | refine Pw.seq ?_ | refine Pw.region ?_ | refine Pw.nil ?_ | refine Pw.then_ ?_ | refine Pw.skip ?_ | refine Pw.block ?_ | refine Pw.exit ?_ | refine Pw.inX ?_ | refine Pw.inN ?_ | refine Pw.inR ?_ | refine Pw.thenX ?_ | refine Pw.thenR ?_ | refine Pw.ret ?_) | refine Pw.list (Pw.pure rfl rfl rfl ?_) | refine Pw.inY rfl ?_ | refine Pw.list (Pw.off rfl rfl ?_) | refine Pw.condT rfl ?_ | refine Pw.condF rfl ?_ | refine Pw.list (Pw.box rfl rfl rfl rfl (fun _ => ?_)) | refine Pw.list (Pw.alloc rfl rfl rfl rfl rfl (fun _ => ?_)) | refine Pw.list (Pw.build rfl rfl rfl rfl ?_) | refine Pw.list (Pw.ld rfl inferInstance rfl rfl rfl ?_) | refine Pw.list (Pw.sto rfl rfl inferInstance rfl rfl rfl rfl rfl inferInstance rfl ?_))
    refine Pw.re (d := 4) (v' := .int .u64 a) rfl (congrArg (Value.int .u64) (or_0 ha)) ?_
    refine Pw.re (d := 17) (v' := .int .i64 1) rfl (congrArg (Value.int .i64) (by unfold wrap64; omega)) ?_
    refine Pw.round ?_
    repeat (first | (with_reducible first | refine Pw.seq ?_ | refine Pw.region ?_ | refine Pw.nil ?_ | refine Pw.then_ ?_ | refine Pw.skip ?_ | refine Pw.block ?_ | refine Pw.exit ?_ | refine Pw.inX ?_ | refine Pw.inN ?_ | refine Pw.inR ?_ | refine Pw.thenX ?_ | refine Pw.thenR ?_ | refine Pw.ret ?_) | refine Pw.list (Pw.pure rfl rfl rfl ?_) | refine Pw.inY rfl ?_ | refine Pw.list (Pw.off rfl rfl ?_) | refine Pw.condT rfl ?_ | refine Pw.condF rfl ?_ | refine Pw.list (Pw.box rfl rfl rfl rfl (fun _ => ?_)) | refine Pw.list (Pw.alloc rfl rfl rfl rfl rfl (fun _ => ?_)) | refine Pw.list (Pw.build rfl rfl rfl rfl ?_) | refine Pw.list (Pw.ld rfl inferInstance rfl rfl rfl ?_) | refine Pw.list (Pw.sto rfl rfl inferInstance rfl rfl rfl rfl rfl inferInstance rfl ?_))
    exact Pw.ret_ (x := ()) (.tmp rfl (.tmp rfl .nil)) (by show _ = Value.tuple #[.int .u64 (val [a]), .bool true]; rw [show val [a] = a by simp [val]]; rfl) trivial (fun w h => by trivial)
  · have ha := hm a (by simp)
    have hb := hm b (by simp)
    repeat (first | (with_reducible first | refine Pw.seq ?_ | refine Pw.region ?_ | refine Pw.nil ?_ | refine Pw.then_ ?_ | refine Pw.skip ?_ | refine Pw.block ?_ | refine Pw.exit ?_ | refine Pw.inX ?_ | refine Pw.inN ?_ | refine Pw.inR ?_ | refine Pw.thenX ?_ | refine Pw.thenR ?_ | refine Pw.ret ?_) | refine Pw.list (Pw.pure rfl rfl rfl ?_) | refine Pw.inY rfl ?_ | refine Pw.list (Pw.off rfl rfl ?_) | refine Pw.condT rfl ?_ | refine Pw.condF rfl ?_ | refine Pw.list (Pw.box rfl rfl rfl rfl (fun _ => ?_)) | refine Pw.list (Pw.alloc rfl rfl rfl rfl rfl (fun _ => ?_)) | refine Pw.list (Pw.build rfl rfl rfl rfl ?_) | refine Pw.list (Pw.ld rfl inferInstance rfl rfl rfl ?_) | refine Pw.list (Pw.sto rfl rfl inferInstance rfl rfl rfl rfl rfl inferInstance rfl ?_))
    refine Pw.rounds 3 (Pw.round ?_)
    repeat (first | (with_reducible first | refine Pw.seq ?_ | refine Pw.region ?_ | refine Pw.nil ?_ | refine Pw.then_ ?_ | refine Pw.skip ?_ | refine Pw.block ?_ | refine Pw.exit ?_ | refine Pw.inX ?_ | refine Pw.inN ?_ | refine Pw.inR ?_ | refine Pw.thenX ?_ | refine Pw.thenR ?_ | refine Pw.ret ?_) | refine Pw.list (Pw.pure rfl rfl rfl ?_) | refine Pw.inY rfl ?_ | refine Pw.list (Pw.off rfl rfl ?_) | refine Pw.condT rfl ?_ | refine Pw.condF rfl ?_ | refine Pw.list (Pw.box rfl rfl rfl rfl (fun _ => ?_)) | refine Pw.list (Pw.alloc rfl rfl rfl rfl rfl (fun _ => ?_)) | refine Pw.list (Pw.build rfl rfl rfl rfl ?_) | refine Pw.list (Pw.ld rfl inferInstance rfl rfl rfl ?_) | refine Pw.list (Pw.sto rfl rfl inferInstance rfl rfl rfl rfl rfl inferInstance rfl ?_))
    refine Pw.list (Pw.index rfl rfl rfl rfl (Int.le_refl 0) (by show (0 : Int) < 2; omega) (fun w h => (hv w h : S1 [a, b] (A, c) w).has (i := 0) (Int.le_refl 0) (by show (0 : Int) < 2; omega)) rfl rfl ?_)
    rintro ad rfl
    refine Pw.list (Pw.load1 rfl rfl (fun w hs => (hv w hs.all : S1 [a, b] (some ad, c) w).cell (i := 0) (Int.le_refl 0) (by show (0 : Int) < 2; omega)) rfl rfl ?_)
    repeat (first | (with_reducible first | refine Pw.seq ?_ | refine Pw.region ?_ | refine Pw.nil ?_ | refine Pw.then_ ?_ | refine Pw.skip ?_ | refine Pw.block ?_ | refine Pw.exit ?_ | refine Pw.inX ?_ | refine Pw.inN ?_ | refine Pw.inR ?_ | refine Pw.thenX ?_ | refine Pw.thenR ?_ | refine Pw.ret ?_) | refine Pw.list (Pw.pure rfl rfl rfl ?_) | refine Pw.inY rfl ?_ | refine Pw.list (Pw.off rfl rfl ?_) | refine Pw.condT rfl ?_ | refine Pw.condF rfl ?_ | refine Pw.list (Pw.box rfl rfl rfl rfl (fun _ => ?_)) | refine Pw.list (Pw.alloc rfl rfl rfl rfl rfl (fun _ => ?_)) | refine Pw.list (Pw.build rfl rfl rfl rfl ?_) | refine Pw.list (Pw.ld rfl inferInstance rfl rfl rfl ?_) | refine Pw.list (Pw.sto rfl rfl inferInstance rfl rfl rfl rfl rfl inferInstance rfl ?_))
    refine Pw.re (d := 26) (v' := .int .i64 0) rfl (congrArg (Value.int .i64) (show wrap64 (32 * 0) = 0 by unfold wrap64; omega)) ?_
    refine Pw.re (d := 24) (v' := .int .u64 (IntKind.u64.wrap a)) rfl rfl ?_
    refine Pw.list (Pw.shl rfl rfl rfl (by decide) rfl rfl ?_)
    refine Pw.re (d := 27) (v' := _) rfl (congrArg (Value.int .u64) (shl_0 ha)) ?_
    repeat (first | (with_reducible first | refine Pw.seq ?_ | refine Pw.region ?_ | refine Pw.nil ?_ | refine Pw.then_ ?_ | refine Pw.skip ?_ | refine Pw.block ?_ | refine Pw.exit ?_ | refine Pw.inX ?_ | refine Pw.inN ?_ | refine Pw.inR ?_ | refine Pw.thenX ?_ | refine Pw.thenR ?_ | refine Pw.ret ?_) | refine Pw.list (Pw.pure rfl rfl rfl ?_) | refine Pw.inY rfl ?_ | refine Pw.list (Pw.off rfl rfl ?_) | refine Pw.condT rfl ?_ | refine Pw.condF rfl ?_ | refine Pw.list (Pw.box rfl rfl rfl rfl (fun _ => ?_)) | refine Pw.list (Pw.alloc rfl rfl rfl rfl rfl (fun _ => ?_)) | refine Pw.list (Pw.build rfl rfl rfl rfl ?_) | refine Pw.list (Pw.ld rfl inferInstance rfl rfl rfl ?_) | refine Pw.list (Pw.sto rfl rfl inferInstance rfl rfl rfl rfl rfl inferInstance rfl ?_))
    refine Pw.re (d := 4) (v' := .int .u64 a) rfl (congrArg (Value.int .u64) (or_0 ha)) ?_
    refine Pw.re (d := 17) (v' := .int .i64 1) rfl (congrArg (Value.int .i64) (by unfold wrap64; omega)) ?_
    refine Pw.round ?_
    repeat (first | (with_reducible first | refine Pw.seq ?_ | refine Pw.region ?_ | refine Pw.nil ?_ | refine Pw.then_ ?_ | refine Pw.skip ?_ | refine Pw.block ?_ | refine Pw.exit ?_ | refine Pw.inX ?_ | refine Pw.inN ?_ | refine Pw.inR ?_ | refine Pw.thenX ?_ | refine Pw.thenR ?_ | refine Pw.ret ?_) | refine Pw.list (Pw.pure rfl rfl rfl ?_) | refine Pw.inY rfl ?_ | refine Pw.list (Pw.off rfl rfl ?_) | refine Pw.condT rfl ?_ | refine Pw.condF rfl ?_ | refine Pw.list (Pw.box rfl rfl rfl rfl (fun _ => ?_)) | refine Pw.list (Pw.alloc rfl rfl rfl rfl rfl (fun _ => ?_)) | refine Pw.list (Pw.build rfl rfl rfl rfl ?_) | refine Pw.list (Pw.ld rfl inferInstance rfl rfl rfl ?_) | refine Pw.list (Pw.sto rfl rfl inferInstance rfl rfl rfl rfl rfl inferInstance rfl ?_))
    refine Pw.list (Pw.indexS rfl rfl rfl rfl (show (0 : Int) ≤ 1 by omega) (by show (1 : Int) < 2; omega) rfl rfl ?_)
    refine Pw.list (Pw.load1 rfl rfl (fun w hs => (hv w hs.all : S1 [a, b] (some ad, c) w).cell (i := 1) (by omega) (by show (1 : Int) < 2; omega)) rfl rfl ?_)
    repeat (first | (with_reducible first | refine Pw.seq ?_ | refine Pw.region ?_ | refine Pw.nil ?_ | refine Pw.then_ ?_ | refine Pw.skip ?_ | refine Pw.block ?_ | refine Pw.exit ?_ | refine Pw.inX ?_ | refine Pw.inN ?_ | refine Pw.inR ?_ | refine Pw.thenX ?_ | refine Pw.thenR ?_ | refine Pw.ret ?_) | refine Pw.list (Pw.pure rfl rfl rfl ?_) | refine Pw.inY rfl ?_ | refine Pw.list (Pw.off rfl rfl ?_) | refine Pw.condT rfl ?_ | refine Pw.condF rfl ?_ | refine Pw.list (Pw.box rfl rfl rfl rfl (fun _ => ?_)) | refine Pw.list (Pw.alloc rfl rfl rfl rfl rfl (fun _ => ?_)) | refine Pw.list (Pw.build rfl rfl rfl rfl ?_) | refine Pw.list (Pw.ld rfl inferInstance rfl rfl rfl ?_) | refine Pw.list (Pw.sto rfl rfl inferInstance rfl rfl rfl rfl rfl inferInstance rfl ?_))
    refine Pw.re (d := 26) (v' := .int .i64 32) rfl (congrArg (Value.int .i64) (show wrap64 (32 * 1) = 32 by unfold wrap64; omega)) ?_
    refine Pw.re (d := 24) (v' := .int .u64 (IntKind.u64.wrap b)) rfl rfl ?_
    refine Pw.list (Pw.shl rfl rfl rfl (by decide) rfl rfl ?_)
    refine Pw.re (d := 27) (v' := _) rfl (congrArg (Value.int .u64) (shl_32 hb)) ?_
    repeat (first | (with_reducible first | refine Pw.seq ?_ | refine Pw.region ?_ | refine Pw.nil ?_ | refine Pw.then_ ?_ | refine Pw.skip ?_ | refine Pw.block ?_ | refine Pw.exit ?_ | refine Pw.inX ?_ | refine Pw.inN ?_ | refine Pw.inR ?_ | refine Pw.thenX ?_ | refine Pw.thenR ?_ | refine Pw.ret ?_) | refine Pw.list (Pw.pure rfl rfl rfl ?_) | refine Pw.inY rfl ?_ | refine Pw.list (Pw.off rfl rfl ?_) | refine Pw.condT rfl ?_ | refine Pw.condF rfl ?_ | refine Pw.list (Pw.box rfl rfl rfl rfl (fun _ => ?_)) | refine Pw.list (Pw.alloc rfl rfl rfl rfl rfl (fun _ => ?_)) | refine Pw.list (Pw.build rfl rfl rfl rfl ?_) | refine Pw.list (Pw.ld rfl inferInstance rfl rfl rfl ?_) | refine Pw.list (Pw.sto rfl rfl inferInstance rfl rfl rfl rfl rfl inferInstance rfl ?_))
    refine Pw.re (d := 4) (v' := .int .u64 (b * 4294967296 + a)) rfl (congrArg (Value.int .u64) (or_high ha.1 ha.2 hb.1 hb.2)) ?_
    refine Pw.re (d := 17) (v' := .int .i64 2) rfl (congrArg (Value.int .i64) (by unfold wrap64; omega)) ?_
    refine Pw.round ?_
    repeat (first | (with_reducible first | refine Pw.seq ?_ | refine Pw.region ?_ | refine Pw.nil ?_ | refine Pw.then_ ?_ | refine Pw.skip ?_ | refine Pw.block ?_ | refine Pw.exit ?_ | refine Pw.inX ?_ | refine Pw.inN ?_ | refine Pw.inR ?_ | refine Pw.thenX ?_ | refine Pw.thenR ?_ | refine Pw.ret ?_) | refine Pw.list (Pw.pure rfl rfl rfl ?_) | refine Pw.inY rfl ?_ | refine Pw.list (Pw.off rfl rfl ?_) | refine Pw.condT rfl ?_ | refine Pw.condF rfl ?_ | refine Pw.list (Pw.box rfl rfl rfl rfl (fun _ => ?_)) | refine Pw.list (Pw.alloc rfl rfl rfl rfl rfl (fun _ => ?_)) | refine Pw.list (Pw.build rfl rfl rfl rfl ?_) | refine Pw.list (Pw.ld rfl inferInstance rfl rfl rfl ?_) | refine Pw.list (Pw.sto rfl rfl inferInstance rfl rfl rfl rfl rfl inferInstance rfl ?_))
    exact Pw.ret_ (x := ()) (.tmp rfl (.tmp rfl .nil)) (by show _ = Value.tuple #[.int .u64 (val [a, b]), .bool true]; rw [show val [a, b] = b * 4294967296 + a by simp [val]; omega]; rfl) trivial (fun w h => by trivial)
  · simp at c1; omega
end Go.Proofs.Wk
/- Weights made whole: the insertion sort walked. -/
namespace Go.Proofs.Wk
open Go.RowKit
set_option maxRecDepth 100000
set_option maxHeartbeats 2000000
attribute [local irreducible] Pw OpG
set_option linter.unusedVariables false
set_option linter.unusedSimpArgs false
def cfO (p q : On) : Int := rcmpS q.a q.b p.a p.b
structure OnW (o : On) : Prop where
  m : Lm o.a ∧ Lm o.b
  l : o.a.length < 1048576 ∧ o.b.length < 1048576
def swapO (l : List On) (j : Nat) (x y : On) : List On := (l.set (j + 1) y).set j x
def sink : Nat → List On → List On
  | 0, l => l
  | j + 1, l => match l[j + 1]?, l[j]? with
    | some x, some y => if cfO x y < 0 then sink j (swapO l j x y) else l
    | _, _ => l
def insO (i : Nat) (l : List On) : List On := (List.range i).foldl (fun l k => sink k l) l
theorem insO_succ (i : Nat) (l : List On) : insO (i + 1) l = sink i (insO i l) := by unfold insO; rw [List.range_succ, List.foldl_append]; rfl
theorem swap_mem {l : List On} {j : Nat} {x y z : On} (hx : x ∈ l) (hy : y ∈ l) (hz : z ∈ swapO l j x y) : z ∈ l := by
  unfold swapO at hz
  rcases List.mem_or_eq_of_mem_set hz with h | rfl
  · rcases List.mem_or_eq_of_mem_set h with h | rfl
    · exact h
    · exact hy
  · exact hx
theorem swap_len (l : List On) (j : Nat) (x y : On) : (swapO l j x y).length = l.length := by unfold swapO; rw [List.length_set, List.length_set]
theorem encO_len (o : On) : (encO o).length = 3 := rfl
def AllO (l : List On) (W : World) : Prop := ∀ o ∈ l, heldO o W
theorem insertionO_ct (l : List On) (ex : List Value) (g c n : Nat) (hw : ∀ o ∈ l, OnW o) (hn : n ≤ l.length) (hl : l.length ≤ 1000) (hn1 : 1 ≤ n) :
    Ct1 Try.prog 95 #[.slice (some ⟨g, 0, none⟩) l.length c, .int .i64 0, .int .i64 n, .func (.func 39) #[] #[]] g (row (l.flatMap encO ++ ex) 90) (AllO l) (fun _ : Unit => .tuple #[]) Tt (fun _ => row ((insO n l).flatMap encO ++ ex) 90) (fun _ _ => True) := by
  refine Ct1.start Try.func95 rfl rfl (slots_of rfl slots4) (fun D w0 hD => ?_)
  repeat (first | (with_reducible first | refine Pw.seq ?_ | refine Pw.region ?_ | refine Pw.nil ?_ | refine Pw.then_ ?_ | refine Pw.skip ?_ | refine Pw.block ?_ | refine Pw.exit ?_ | refine Pw.inX ?_ | refine Pw.inN ?_ | refine Pw.inR ?_ | refine Pw.thenX ?_ | refine Pw.thenR ?_ | refine Pw.ret ?_) | refine Pw.list (Pw.pure rfl rfl rfl ?_) | refine Pw.inY rfl ?_ | refine Pw.list (Pw.off rfl rfl ?_) | refine Pw.condT rfl ?_ | refine Pw.condF rfl ?_ | refine Pw.list (Pw.box rfl rfl rfl rfl (fun _ => ?_)) | refine Pw.list (Pw.alloc rfl rfl rfl rfl rfl (fun _ => ?_)) | refine Pw.list (Pw.build rfl rfl rfl rfl ?_) | refine Pw.list (Pw.ld rfl inferInstance rfl rfl rfl ?_) | refine Pw.list (Pw.sto rfl rfl inferInstance rfl rfl rfl rfl rfl inferInstance rfl ?_))
  refine Pw.re (d := 8) (v' := .int .i64 ((1 : Nat) : Int)) rfl (congrArg (Value.int .i64) (by unfold wrap64; omega)) ?_
  refine Pw.loopJ (σ := Nat × List On) (fun t => 1 ≤ t.1 ∧ t.1 ≤ n ∧ t.2 = insO t.1 l ∧ t.2.length = l.length ∧ ∀ o ∈ t.2, o ∈ l) (fun t => ⟨[(0, .slice (some ⟨g, 0, none⟩) l.length c), (1, .int .i64 0), (2, .int .i64 n), (3, .func (.func 39) #[] #[]), (8, .int .i64 t.1)], [⟨g, row (t.2.flatMap encO ++ ex) 90⟩], [AllO l]⟩) (fun t => n - t.1) (1, l) ⟨Nat.le_refl _, hn1, rfl, rfl, fun o h => h⟩ (Pw.enter ⟨rfl, rfl, rfl, rfl, rfl, trivial⟩ (fun w h => h)) ?_
  rintro ⟨i, m⟩ ⟨hi1, hi2, hm, hml, hmm⟩
  dsimp only at hi1 hi2 hm hml hmm ⊢
  repeat (first | (with_reducible first | refine Pw.seq ?_ | refine Pw.region ?_ | refine Pw.nil ?_ | refine Pw.then_ ?_ | refine Pw.skip ?_ | refine Pw.block ?_ | refine Pw.exit ?_ | refine Pw.inX ?_ | refine Pw.inN ?_ | refine Pw.inR ?_ | refine Pw.thenX ?_ | refine Pw.thenR ?_ | refine Pw.ret ?_) | refine Pw.list (Pw.pure rfl rfl rfl ?_) | refine Pw.inY rfl ?_ | refine Pw.list (Pw.off rfl rfl ?_) | refine Pw.condT rfl ?_ | refine Pw.condF rfl ?_ | refine Pw.list (Pw.box rfl rfl rfl rfl (fun _ => ?_)) | refine Pw.list (Pw.alloc rfl rfl rfl rfl rfl (fun _ => ?_)) | refine Pw.list (Pw.build rfl rfl rfl rfl ?_) | refine Pw.list (Pw.ld rfl inferInstance rfl rfl rfl ?_) | refine Pw.list (Pw.sto rfl rfl inferInstance rfl rfl rfl rfl rfl inferInstance rfl ?_))
  refine Pw.condD rfl (fun c3 => ?_) (fun c3 => ?_)
  · repeat (first | (with_reducible first | refine Pw.seq ?_ | refine Pw.region ?_ | refine Pw.nil ?_ | refine Pw.then_ ?_ | refine Pw.skip ?_ | refine Pw.block ?_ | refine Pw.exit ?_ | refine Pw.inX ?_ | refine Pw.inN ?_ | refine Pw.inR ?_ | refine Pw.thenX ?_ | refine Pw.thenR ?_ | refine Pw.ret ?_) | refine Pw.list (Pw.pure rfl rfl rfl ?_) | refine Pw.inY rfl ?_ | refine Pw.list (Pw.off rfl rfl ?_) | refine Pw.condT rfl ?_ | refine Pw.condF rfl ?_ | refine Pw.list (Pw.box rfl rfl rfl rfl (fun _ => ?_)) | refine Pw.list (Pw.alloc rfl rfl rfl rfl rfl (fun _ => ?_)) | refine Pw.list (Pw.build rfl rfl rfl rfl ?_) | refine Pw.list (Pw.ld rfl inferInstance rfl rfl rfl ?_) | refine Pw.list (Pw.sto rfl rfl inferInstance rfl rfl rfl rfl rfl inferInstance rfl ?_))
    refine Pw.loopJ (σ := Nat × List On) (fun t => t.1 ≤ i ∧ sink t.1 t.2 = sink i m ∧ t.2.length = l.length ∧ ∀ o ∈ t.2, o ∈ l) (fun t => ⟨[(0, .slice (some ⟨g, 0, none⟩) l.length c), (1, .int .i64 0), (2, .int .i64 n), (3, .func (.func 39) #[] #[]), (8, .int .i64 i), (9, .int .i64 t.1)], [⟨g, row (t.2.flatMap encO ++ ex) 90⟩], [AllO l]⟩) (fun t => t.1) (i, m) ⟨Nat.le_refl _, rfl, hml, hmm⟩ (Pw.enter ⟨rfl, rfl, rfl, rfl, rfl, rfl, trivial⟩ (fun w h => h)) ?_
    rintro ⟨j, k⟩ ⟨hj, hk, hkl, hkm⟩
    dsimp only at hj hk hkl hkm ⊢
    repeat (first | (with_reducible first | refine Pw.seq ?_ | refine Pw.region ?_ | refine Pw.nil ?_ | refine Pw.then_ ?_ | refine Pw.skip ?_ | refine Pw.block ?_ | refine Pw.exit ?_ | refine Pw.inX ?_ | refine Pw.inN ?_ | refine Pw.inR ?_ | refine Pw.thenX ?_ | refine Pw.thenR ?_ | refine Pw.ret ?_) | refine Pw.list (Pw.pure rfl rfl rfl ?_) | refine Pw.inY rfl ?_ | refine Pw.list (Pw.off rfl rfl ?_) | refine Pw.condT rfl ?_ | refine Pw.condF rfl ?_ | refine Pw.list (Pw.box rfl rfl rfl rfl (fun _ => ?_)) | refine Pw.list (Pw.alloc rfl rfl rfl rfl rfl (fun _ => ?_)) | refine Pw.list (Pw.build rfl rfl rfl rfl ?_) | refine Pw.list (Pw.ld rfl inferInstance rfl rfl rfl ?_) | refine Pw.list (Pw.sto rfl rfl inferInstance rfl rfl rfl rfl rfl inferInstance rfl ?_))
    rcases Nat.eq_zero_or_pos j with hj0 | hj0
    · subst hj0
      refine Pw.drawnG mixed rfl rfl ?_
      refine Pw.takeP 0 (nb 17 1) rfl rfl rfl rfl (by kernel_rfl) np sf ?_
      refine Pw.takeP 1 (nb 17 3) rfl rfl rfl rfl (by kernel_rfl) np sf ?_
      refine Pw.takeP 2 (nb 17 7) rfl rfl rfl rfl (by kernel_rfl) np sf ?_
      refine Pw.takeP 3 (nb 17 15) rfl rfl rfl rfl (by kernel_rfl) np sf ?_
      refine Pw.re (d := 21) (v' := .bool false) rfl (congrArg Value.bool (decide_eq_false (by omega))) ?_
      refine Pw.takeO 4 (nb 17 31) rfl rfl rfl (by kernel_rfl) np sf ?_
      refine Pw.takeO 5 (nb 17 63) rfl rfl rfl (by kernel_rfl) np sf ?_
      refine Pw.takeO 6 (nb 17 127) rfl rfl rfl (by kernel_rfl) np sf ?_
      refine Pw.takeO 7 (nb 17 255) rfl rfl rfl (by kernel_rfl) np sf ?_
      refine Pw.takeO 8 (nb 17 511) rfl rfl rfl (by kernel_rfl) np sf ?_
      refine Pw.takeO 9 (nb 17 1023) rfl rfl rfl (by kernel_rfl) np sf ?_
      refine Pw.takeO 10 (nb 17 2047) rfl rfl rfl (by kernel_rfl) np sf ?_
      refine Pw.takeO 11 (nb 17 4095) rfl rfl rfl (by kernel_rfl) np sf ?_
      refine Pw.takeO 12 (nb 17 8191) rfl rfl rfl (by kernel_rfl) np sf ?_
      refine Pw.takeO 13 (nb 17 16383) rfl rfl rfl (by kernel_rfl) np sf ?_
      refine Pw.takeO 14 (nb 17 32767) rfl rfl rfl (by kernel_rfl) np sf ?_
      refine Pw.takeO 15 (nb 17 65535) rfl rfl rfl (by kernel_rfl) np sf ?_
      refine Pw.takeP 16 (nb 17 131071) rfl rfl rfl rfl (by kernel_rfl) np sf ?_
      refine Pw.done (by kernel_rfl) ?_
      repeat (first | (with_reducible first | refine Pw.seq ?_ | refine Pw.region ?_ | refine Pw.nil ?_ | refine Pw.then_ ?_ | refine Pw.skip ?_ | refine Pw.block ?_ | refine Pw.exit ?_ | refine Pw.inX ?_ | refine Pw.inN ?_ | refine Pw.inR ?_ | refine Pw.thenX ?_ | refine Pw.thenR ?_ | refine Pw.ret ?_) | refine Pw.list (Pw.pure rfl rfl rfl ?_) | refine Pw.inY rfl ?_ | refine Pw.list (Pw.off rfl rfl ?_) | refine Pw.condT rfl ?_ | refine Pw.condF rfl ?_ | refine Pw.list (Pw.box rfl rfl rfl rfl (fun _ => ?_)) | refine Pw.list (Pw.alloc rfl rfl rfl rfl rfl (fun _ => ?_)) | refine Pw.list (Pw.build rfl rfl rfl rfl ?_) | refine Pw.list (Pw.ld rfl inferInstance rfl rfl rfl ?_) | refine Pw.list (Pw.sto rfl rfl inferInstance rfl rfl rfl rfl rfl inferInstance rfl ?_))
      refine Pw.re (d := 8) (v' := .int .i64 ((i + 1 : Nat) : Int)) rfl (congrArg (Value.int .i64) (i64s (n := 100000) (by omega) (by omega))) ?_
      exact Pw.again (i + 1, k) ⟨by omega, by omega, by rw [insO_succ, ← hm, ← hk]; rfl, hkl, hkm⟩ (by show n - (i + 1) < n - i; omega) ⟨rfl, rfl, rfl, rfl, rfl, trivial⟩ rfl (fun w h => h)
    · obtain ⟨j, rfl⟩ : ∃ t, j = t + 1 := ⟨j - 1, by omega⟩
      obtain ⟨x, hx, hxm⟩ := get_at (show j + 1 < k.length by omega)
      obtain ⟨y, hy, hym⟩ := get_at (show j < k.length by omega)
      have hw1 : wrap64 (((j + 1 : Nat) : Int) - 1) = ((j : Nat) : Int) := by rw [wi64 (by omega) (by omega)]; omega
      have hw3 : 0 ≤ wrap64 (((j + 1 : Nat) : Int) - 1) := by rw [hw1]; omega
      have hw4 : wrap64 (((j + 1 : Nat) : Int) - 1) < (l.length : Int) := by rw [hw1]; omega
      have hc9 : ((j + 1 : Nat) : Int) < (l.length : Int) := by omega
      have hsk : sink (j + 1) k = if cfO x y < 0 then sink j (swapO k j x y) else k := by
        show (match k[j + 1]?, k[j]? with | some x, some y => if cfO x y < 0 then sink j (swapO k j x y) else k | _, _ => k) = _
        rw [hx, hy]
      refine Pw.joinF (σ := Unit) (fun _ => True) (fun _ => ⟨[(0, .slice (some ⟨g, 0, none⟩) l.length c), (1, .int .i64 0), (2, .int .i64 n), (3, .func (.func 39) #[] #[]), (8, .int .i64 i), (9, .int .i64 ((j + 1 : Nat) : Int)), (34, .bool (decide (cfO x y < 0)))], [⟨g, row (k.flatMap encO ++ ex) 90⟩], [AllO l]⟩) ?_ ?_
      · skip
        refine Pw.drawnG mixed rfl rfl ?_
        refine Pw.takeP 0 (nb 17 1) rfl rfl rfl rfl (by kernel_rfl) np sf ?_
        refine Pw.takeP 1 (nb 17 3) rfl rfl rfl rfl (by kernel_rfl) np sf ?_
        refine Pw.takeP 2 (nb 17 7) rfl rfl rfl rfl (by kernel_rfl) np sf ?_
        refine Pw.one 3 (nb 17 15) rfl (by kernel_rfl) ?_
        refine Pw.pure rfl rfl rfl ?_
        refine Pw.re (d := 21) (v' := .bool true) rfl (congrArg Value.bool (decide_eq_true (by omega))) ?_
        refine Pw.held sf ?_
        refine Pw.takeP 4 (nb 17 31) rfl rfl rfl rfl (by kernel_rfl) np sf ?_
        refine Pw.takeP 5 (nb 17 63) rfl rfl rfl rfl (by kernel_rfl) np sf ?_
        refine Pw.takeP 6 (nb 17 127) rfl rfl rfl rfl (by kernel_rfl) np sf ?_
        refine Pw.takeIx 7 (nb 17 255) rfl rfl rfl rfl rfl (by first | assumption | omega) (by first | assumption | omega) rfl rfl (by kernel_rfl) np sf ?_
        refine Pw.takeP 9 (nb 17 767) rfl rfl rfl rfl (by kernel_rfl) np sf ?_
        refine Pw.takeP 10 (nb 17 1791) rfl rfl rfl rfl (by kernel_rfl) np sf ?_
        refine Pw.takeP 11 (nb 17 3839) rfl rfl rfl rfl (by kernel_rfl) np sf ?_
        refine Pw.takeIx 12 (nb 17 7935) rfl rfl rfl rfl rfl (by first | assumption | omega) (by first | assumption | omega) rfl rfl (by kernel_rfl) np sf ?_
        refine Pw.two 8 13 (nb 17 8191) (nb 17 16127) rfl rfl (by kernel_rfl) ?_ ?_
        · skip
          refine Pw.loadRO (l := k) (ex := ex) x rfl encO_len (by rw [Int.toNat_natCast]; exact hx) (fun w hs => hs.own _ (.head _)) (by kernel_rfl) rfl rfl ?_
          refine Pw.re (d := 26) (v' := onV x) rfl rfl ?_
          refine Pw.held sf ?_
          refine Pw.one 13 (nb 17 16383) rfl (by kernel_rfl) ?_
          refine Pw.loadRO (l := k) (ex := ex) y rfl encO_len (by rw [hw1, Int.toNat_natCast]; exact hy) (fun w hs => hs.own _ (.head _)) (by kernel_rfl) rfl rfl ?_
          refine Pw.re (d := 31) (v' := onV y) rfl rfl ?_
          refine Pw.held sf ?_
          refine Pw.one 14 (nb 17 32767) rfl (by kernel_rfl) ?_
          refine Pw.call (rnd2_ct x y (hw x (hkm x hxm)).m (hw y (hkm y hym)).m (hw x (hkm x hxm)).l (hw y (hkm y hym)).l) rfl rfl rfl (by kernel_rfl) rfl rfl (fun w h => ⟨(hv w h : AllO l w) x (hkm x hxm), (hv w h : AllO l w) y (hkm y hym)⟩) ?_
          intro _ _
          refine Pw.held sf ?_
          refine Pw.takeP 15 (nb 17 65535) rfl rfl rfl rfl (by kernel_rfl) np sf ?_
          refine Pw.takeP 16 (nb 17 131071) rfl rfl rfl rfl (by kernel_rfl) np sf ?_
          refine Pw.done (by kernel_rfl) ?_
          exact Pw.arrive () trivial ⟨rfl, rfl, rfl, rfl, rfl, rfl, rfl, trivial⟩ rfl (fun w h => allCons (hv w h) allNil)
        · skip
          refine Pw.loadRO (l := k) (ex := ex) y rfl encO_len (by rw [hw1, Int.toNat_natCast]; exact hy) (fun w hs => hs.own _ (.head _)) (by kernel_rfl) rfl rfl ?_
          refine Pw.re (d := 31) (v' := onV y) rfl rfl ?_
          refine Pw.held sf ?_
          refine Pw.one 8 (nb 17 16383) rfl (by kernel_rfl) ?_
          refine Pw.loadRO (l := k) (ex := ex) x rfl encO_len (by rw [Int.toNat_natCast]; exact hx) (fun w hs => hs.own _ (.head _)) (by kernel_rfl) rfl rfl ?_
          refine Pw.re (d := 26) (v' := onV x) rfl rfl ?_
          refine Pw.held sf ?_
          refine Pw.one 14 (nb 17 32767) rfl (by kernel_rfl) ?_
          refine Pw.call (rnd2_ct x y (hw x (hkm x hxm)).m (hw y (hkm y hym)).m (hw x (hkm x hxm)).l (hw y (hkm y hym)).l) rfl rfl rfl (by kernel_rfl) rfl rfl (fun w h => ⟨(hv w h : AllO l w) x (hkm x hxm), (hv w h : AllO l w) y (hkm y hym)⟩) ?_
          intro _ _
          refine Pw.held sf ?_
          refine Pw.takeP 15 (nb 17 65535) rfl rfl rfl rfl (by kernel_rfl) np sf ?_
          refine Pw.takeP 16 (nb 17 131071) rfl rfl rfl rfl (by kernel_rfl) np sf ?_
          refine Pw.done (by kernel_rfl) ?_
          exact Pw.arrive () trivial ⟨rfl, rfl, rfl, rfl, rfl, rfl, rfl, trivial⟩ rfl (fun w h => allCons (hv w h) allNil)
      · rintro ⟨⟩ _
        dsimp only
        refine Pw.condD rfl (fun c5 => ?_) (fun c5 => ?_)
        · have hsk2 : sink (j + 1) k = sink j (swapO k j x y) := by rw [hsk]; exact if_pos c5
          repeat (first | (with_reducible first | refine Pw.seq ?_ | refine Pw.region ?_ | refine Pw.nil ?_ | refine Pw.then_ ?_ | refine Pw.skip ?_ | refine Pw.block ?_ | refine Pw.exit ?_ | refine Pw.inX ?_ | refine Pw.inN ?_ | refine Pw.inR ?_ | refine Pw.thenX ?_ | refine Pw.thenR ?_ | refine Pw.ret ?_) | refine Pw.list (Pw.pure rfl rfl rfl ?_) | refine Pw.inY rfl ?_ | refine Pw.list (Pw.off rfl rfl ?_) | refine Pw.condT rfl ?_ | refine Pw.condF rfl ?_ | refine Pw.list (Pw.box rfl rfl rfl rfl (fun _ => ?_)) | refine Pw.list (Pw.alloc rfl rfl rfl rfl rfl (fun _ => ?_)) | refine Pw.list (Pw.build rfl rfl rfl rfl ?_) | refine Pw.list (Pw.ld rfl inferInstance rfl rfl rfl ?_) | refine Pw.list (Pw.sto rfl rfl inferInstance rfl rfl rfl rfl rfl inferInstance rfl ?_))
          refine Pw.drawnG mixed rfl rfl ?_
          refine Pw.takeP 0 (nb 18 1) rfl rfl rfl rfl (by kernel_rfl) np sf ?_
          refine Pw.takeP 1 (nb 18 3) rfl rfl rfl rfl (by kernel_rfl) np sf ?_
          refine Pw.takeP 2 (nb 18 7) rfl rfl rfl rfl (by kernel_rfl) np sf ?_
          refine Pw.takeP 3 (nb 18 15) rfl rfl rfl rfl (by kernel_rfl) np sf ?_
          refine Pw.takeP 4 (nb 18 31) rfl rfl rfl rfl (by kernel_rfl) np sf ?_
          refine Pw.takeP 5 (nb 18 63) rfl rfl rfl rfl (by kernel_rfl) np sf ?_
          refine Pw.takeP 6 (nb 18 127) rfl rfl rfl rfl (by kernel_rfl) np sf ?_
          refine Pw.takeP 7 (nb 18 255) rfl rfl rfl rfl (by kernel_rfl) np sf ?_
          refine Pw.takeIx 8 (nb 18 511) rfl rfl rfl rfl rfl (by first | assumption | omega) (by first | assumption | omega) rfl rfl (by kernel_rfl) np sf ?_
          refine Pw.takeP 10 (nb 18 1535) rfl rfl rfl rfl (by kernel_rfl) np sf ?_
          refine Pw.takeP 11 (nb 18 3583) rfl rfl rfl rfl (by kernel_rfl) np sf ?_
          refine Pw.takeIx 12 (nb 18 7679) rfl rfl rfl rfl rfl (by first | assumption | omega) (by first | assumption | omega) rfl rfl (by kernel_rfl) np sf ?_
          refine Pw.two 9 13 (nb 18 8191) (nb 18 15871) rfl rfl (by kernel_rfl) ?_ ?_
          · skip
            refine Pw.loadRO (l := k) (ex := ex) y rfl encO_len (by rw [hw1, Int.toNat_natCast]; exact hy) (fun w hs => hs.own _ (.head _)) (by kernel_rfl) rfl rfl ?_
            refine Pw.re (d := 46) (v' := onV y) rfl rfl ?_
            refine Pw.held sf ?_
            refine Pw.one 13 (nb 18 16383) rfl (by kernel_rfl) ?_
            refine Pw.loadRO (l := k) (ex := ex) x rfl encO_len (by rw [Int.toNat_natCast]; exact hx) (fun w hs => hs.own _ (.head _)) (by kernel_rfl) rfl rfl ?_
            refine Pw.re (d := 50) (v' := onV x) rfl rfl ?_
            refine Pw.held sf ?_
            refine Pw.takeIx 14 (nb 18 32767) rfl rfl rfl rfl rfl (by first | assumption | omega) (by first | assumption | omega) rfl rfl (by kernel_rfl) np sf ?_
            refine Pw.one 15 (nb 18 65535) rfl (by kernel_rfl) ?_
            refine Pw.storeR (sz := 3) (l := k) (ex := ex) y rfl rfl rfl encO_len (by omega) (by rw [Int.toNat_natCast]; omega) rfl rfl rfl .head rfl ?_
            rw [Int.toNat_natCast]
            refine Pw.held sf ?_
            refine Pw.takeIx 16 (nb 18 131071) rfl rfl rfl rfl rfl (by first | assumption | omega) (by first | assumption | omega) rfl rfl (by kernel_rfl) np sf ?_
            refine Pw.one 17 (nb 18 262143) rfl (by kernel_rfl) ?_
            refine Pw.storeR (sz := 3) (l := k.set (j + 1) y) (ex := ex) x rfl rfl rfl encO_len (by omega) (by rw [hw1, Int.toNat_natCast, List.length_set]; omega) rfl rfl rfl .head rfl ?_
            rw [hw1, Int.toNat_natCast]
            refine Pw.held sf ?_
            refine Pw.done (by kernel_rfl) ?_
            repeat (first | (with_reducible first | refine Pw.seq ?_ | refine Pw.region ?_ | refine Pw.nil ?_ | refine Pw.then_ ?_ | refine Pw.skip ?_ | refine Pw.block ?_ | refine Pw.exit ?_ | refine Pw.inX ?_ | refine Pw.inN ?_ | refine Pw.inR ?_ | refine Pw.thenX ?_ | refine Pw.thenR ?_ | refine Pw.ret ?_) | refine Pw.list (Pw.pure rfl rfl rfl ?_) | refine Pw.inY rfl ?_ | refine Pw.list (Pw.off rfl rfl ?_) | refine Pw.condT rfl ?_ | refine Pw.condF rfl ?_ | refine Pw.list (Pw.box rfl rfl rfl rfl (fun _ => ?_)) | refine Pw.list (Pw.alloc rfl rfl rfl rfl rfl (fun _ => ?_)) | refine Pw.list (Pw.build rfl rfl rfl rfl ?_) | refine Pw.list (Pw.ld rfl inferInstance rfl rfl rfl ?_) | refine Pw.list (Pw.sto rfl rfl inferInstance rfl rfl rfl rfl rfl inferInstance rfl ?_))
            refine Pw.re (d := 9) (v' := .int .i64 ((j : Nat) : Int)) rfl (congrArg (Value.int .i64) hw1) ?_
            exact Pw.again (j, swapO k j x y) ⟨by omega, by rw [← hsk2]; exact hk, by rw [swap_len]; exact hkl, fun o ho => hkm o (swap_mem hxm hym ho)⟩ (by show j < j + 1; omega) ⟨rfl, rfl, rfl, rfl, rfl, rfl, trivial⟩ rfl (fun w h => allCons (hv w h) allNil)
          · skip
            refine Pw.loadRO (l := k) (ex := ex) x rfl encO_len (by rw [Int.toNat_natCast]; exact hx) (fun w hs => hs.own _ (.head _)) (by kernel_rfl) rfl rfl ?_
            refine Pw.re (d := 50) (v' := onV x) rfl rfl ?_
            refine Pw.held sf ?_
            refine Pw.one 9 (nb 18 16383) rfl (by kernel_rfl) ?_
            refine Pw.loadRO (l := k) (ex := ex) y rfl encO_len (by rw [hw1, Int.toNat_natCast]; exact hy) (fun w hs => hs.own _ (.head _)) (by kernel_rfl) rfl rfl ?_
            refine Pw.re (d := 46) (v' := onV y) rfl rfl ?_
            refine Pw.held sf ?_
            refine Pw.takeIx 14 (nb 18 32767) rfl rfl rfl rfl rfl (by first | assumption | omega) (by first | assumption | omega) rfl rfl (by kernel_rfl) np sf ?_
            refine Pw.one 15 (nb 18 65535) rfl (by kernel_rfl) ?_
            refine Pw.storeR (sz := 3) (l := k) (ex := ex) y rfl rfl rfl encO_len (by omega) (by rw [Int.toNat_natCast]; omega) rfl rfl rfl .head rfl ?_
            rw [Int.toNat_natCast]
            refine Pw.held sf ?_
            refine Pw.takeIx 16 (nb 18 131071) rfl rfl rfl rfl rfl (by first | assumption | omega) (by first | assumption | omega) rfl rfl (by kernel_rfl) np sf ?_
            refine Pw.one 17 (nb 18 262143) rfl (by kernel_rfl) ?_
            refine Pw.storeR (sz := 3) (l := k.set (j + 1) y) (ex := ex) x rfl rfl rfl encO_len (by omega) (by rw [hw1, Int.toNat_natCast, List.length_set]; omega) rfl rfl rfl .head rfl ?_
            rw [hw1, Int.toNat_natCast]
            refine Pw.held sf ?_
            refine Pw.done (by kernel_rfl) ?_
            repeat (first | (with_reducible first | refine Pw.seq ?_ | refine Pw.region ?_ | refine Pw.nil ?_ | refine Pw.then_ ?_ | refine Pw.skip ?_ | refine Pw.block ?_ | refine Pw.exit ?_ | refine Pw.inX ?_ | refine Pw.inN ?_ | refine Pw.inR ?_ | refine Pw.thenX ?_ | refine Pw.thenR ?_ | refine Pw.ret ?_) | refine Pw.list (Pw.pure rfl rfl rfl ?_) | refine Pw.inY rfl ?_ | refine Pw.list (Pw.off rfl rfl ?_) | refine Pw.condT rfl ?_ | refine Pw.condF rfl ?_ | refine Pw.list (Pw.box rfl rfl rfl rfl (fun _ => ?_)) | refine Pw.list (Pw.alloc rfl rfl rfl rfl rfl (fun _ => ?_)) | refine Pw.list (Pw.build rfl rfl rfl rfl ?_) | refine Pw.list (Pw.ld rfl inferInstance rfl rfl rfl ?_) | refine Pw.list (Pw.sto rfl rfl inferInstance rfl rfl rfl rfl rfl inferInstance rfl ?_))
            refine Pw.re (d := 9) (v' := .int .i64 ((j : Nat) : Int)) rfl (congrArg (Value.int .i64) hw1) ?_
            exact Pw.again (j, swapO k j x y) ⟨by omega, by rw [← hsk2]; exact hk, by rw [swap_len]; exact hkl, fun o ho => hkm o (swap_mem hxm hym ho)⟩ (by show j < j + 1; omega) ⟨rfl, rfl, rfl, rfl, rfl, rfl, trivial⟩ rfl (fun w h => allCons (hv w h) allNil)
        · have hsk2 : sink (j + 1) k = k := by rw [hsk]; exact if_neg c5
          repeat (first | (with_reducible first | refine Pw.seq ?_ | refine Pw.region ?_ | refine Pw.nil ?_ | refine Pw.then_ ?_ | refine Pw.skip ?_ | refine Pw.block ?_ | refine Pw.exit ?_ | refine Pw.inX ?_ | refine Pw.inN ?_ | refine Pw.inR ?_ | refine Pw.thenX ?_ | refine Pw.thenR ?_ | refine Pw.ret ?_) | refine Pw.list (Pw.pure rfl rfl rfl ?_) | refine Pw.inY rfl ?_ | refine Pw.list (Pw.off rfl rfl ?_) | refine Pw.condT rfl ?_ | refine Pw.condF rfl ?_ | refine Pw.list (Pw.box rfl rfl rfl rfl (fun _ => ?_)) | refine Pw.list (Pw.alloc rfl rfl rfl rfl rfl (fun _ => ?_)) | refine Pw.list (Pw.build rfl rfl rfl rfl ?_) | refine Pw.list (Pw.ld rfl inferInstance rfl rfl rfl ?_) | refine Pw.list (Pw.sto rfl rfl inferInstance rfl rfl rfl rfl rfl inferInstance rfl ?_))
          refine Pw.re (d := 8) (v' := .int .i64 ((i + 1 : Nat) : Int)) rfl (congrArg (Value.int .i64) (i64s (n := 100000) (by omega) (by omega))) ?_
          exact Pw.again (i + 1, k) ⟨by omega, by omega, by rw [insO_succ, ← hm, ← hk, hsk2], hkl, hkm⟩ (by show n - (i + 1) < n - i; omega) ⟨rfl, rfl, rfl, rfl, rfl, trivial⟩ rfl (fun w h => allCons (hv w h) allNil)
  · obtain rfl : i = n := by omega
    repeat (first | (with_reducible first | refine Pw.seq ?_ | refine Pw.region ?_ | refine Pw.nil ?_ | refine Pw.then_ ?_ | refine Pw.skip ?_ | refine Pw.block ?_ | refine Pw.exit ?_ | refine Pw.inX ?_ | refine Pw.inN ?_ | refine Pw.inR ?_ | refine Pw.thenX ?_ | refine Pw.thenR ?_ | refine Pw.ret ?_) | refine Pw.list (Pw.pure rfl rfl rfl ?_) | refine Pw.inY rfl ?_ | refine Pw.list (Pw.off rfl rfl ?_) | refine Pw.condT rfl ?_ | refine Pw.condF rfl ?_ | refine Pw.list (Pw.box rfl rfl rfl rfl (fun _ => ?_)) | refine Pw.list (Pw.alloc rfl rfl rfl rfl rfl (fun _ => ?_)) | refine Pw.list (Pw.build rfl rfl rfl rfl ?_) | refine Pw.list (Pw.ld rfl inferInstance rfl rfl rfl ?_) | refine Pw.list (Pw.sto rfl rfl inferInstance rfl rfl rfl rfl rfl inferInstance rfl ?_))
    subst hm
    exact Pw.ret1N (x := ()) hD (.head _) .nil rfl trivial (fun w h => by trivial)
end Go.Proofs.Wk
/- Weights made whole: the stable sort of at most twenty. -/
namespace Go.Proofs.Wk
open Go.RowKit
set_option maxRecDepth 100000
set_option maxHeartbeats 2000000
attribute [local irreducible] Pw OpG
set_option linter.unusedVariables false
set_option linter.unusedSimpArgs false
theorem Ct1.weak {P : Program} {α : Type} {f : FuncId} {args : Array Value} {g : Nat} {o : Obj} {pre pre' : World → Prop} {r : α → Value} {p : α → Prop} {o' : α → Obj} {Ψ : α → World → Prop} (h : Ct1 P f args g o pre r p o' Ψ) (hp : ∀ w, pre' w → pre w) : Ct1 P f args g o pre' r p o' Ψ := fun D w a b c d => h D w a b c (fun w' k => hp _ (d w' k))
theorem insertionO_none (l : List On) (ex : List Value) (g c N : Nat) (a b : Int) (ha : 0 ≤ a ∧ a ≤ 1000) (hb : b ≤ a + 1) :
    Ct1 Try.prog 95 #[.slice (some ⟨g, 0, none⟩) N c, .int .i64 a, .int .i64 b, .func (.func 39) #[] #[]] g (row (l.flatMap encO ++ ex) 90) (fun _ => True) (fun _ : Unit => .tuple #[]) Tt (fun _ => row (l.flatMap encO ++ ex) 90) (fun _ _ => True) := by
  refine Ct1.start Try.func95 rfl rfl (slots_of rfl slots4) (fun D w0 hD => ?_)
  repeat (first | (with_reducible first | refine Pw.seq ?_ | refine Pw.region ?_ | refine Pw.nil ?_ | refine Pw.then_ ?_ | refine Pw.skip ?_ | refine Pw.block ?_ | refine Pw.exit ?_ | refine Pw.inX ?_ | refine Pw.inN ?_ | refine Pw.inR ?_ | refine Pw.thenX ?_ | refine Pw.thenR ?_ | refine Pw.ret ?_) | refine Pw.list (Pw.pure rfl rfl rfl ?_) | refine Pw.inY rfl ?_ | refine Pw.list (Pw.off rfl rfl ?_) | refine Pw.condT rfl ?_ | refine Pw.condF rfl ?_ | refine Pw.list (Pw.box rfl rfl rfl rfl (fun _ => ?_)) | refine Pw.list (Pw.alloc rfl rfl rfl rfl rfl (fun _ => ?_)) | refine Pw.list (Pw.build rfl rfl rfl rfl ?_) | refine Pw.list (Pw.ld rfl inferInstance rfl rfl rfl ?_) | refine Pw.list (Pw.sto rfl rfl inferInstance rfl rfl rfl rfl rfl inferInstance rfl ?_))
  refine Pw.re (d := 8) (v' := .int .i64 (a + 1)) rfl (congrArg (Value.int .i64) (wi64 (by omega) (by omega))) ?_
  refine Pw.rounds 2 (Pw.round ?_)
  repeat (first | (with_reducible first | refine Pw.seq ?_ | refine Pw.region ?_ | refine Pw.nil ?_ | refine Pw.then_ ?_ | refine Pw.skip ?_ | refine Pw.block ?_ | refine Pw.exit ?_ | refine Pw.inX ?_ | refine Pw.inN ?_ | refine Pw.inR ?_ | refine Pw.thenX ?_ | refine Pw.thenR ?_ | refine Pw.ret ?_) | refine Pw.list (Pw.pure rfl rfl rfl ?_) | refine Pw.inY rfl ?_ | refine Pw.list (Pw.off rfl rfl ?_) | refine Pw.condT rfl ?_ | refine Pw.condF rfl ?_ | refine Pw.list (Pw.box rfl rfl rfl rfl (fun _ => ?_)) | refine Pw.list (Pw.alloc rfl rfl rfl rfl rfl (fun _ => ?_)) | refine Pw.list (Pw.build rfl rfl rfl rfl ?_) | refine Pw.list (Pw.ld rfl inferInstance rfl rfl rfl ?_) | refine Pw.list (Pw.sto rfl rfl inferInstance rfl rfl rfl rfl rfl inferInstance rfl ?_))
  refine Pw.condD rfl (fun c0 => absurd c0 (by omega)) (fun c0 => ?_)
  repeat (first | (with_reducible first | refine Pw.seq ?_ | refine Pw.region ?_ | refine Pw.nil ?_ | refine Pw.then_ ?_ | refine Pw.skip ?_ | refine Pw.block ?_ | refine Pw.exit ?_ | refine Pw.inX ?_ | refine Pw.inN ?_ | refine Pw.inR ?_ | refine Pw.thenX ?_ | refine Pw.thenR ?_ | refine Pw.ret ?_) | refine Pw.list (Pw.pure rfl rfl rfl ?_) | refine Pw.inY rfl ?_ | refine Pw.list (Pw.off rfl rfl ?_) | refine Pw.condT rfl ?_ | refine Pw.condF rfl ?_ | refine Pw.list (Pw.box rfl rfl rfl rfl (fun _ => ?_)) | refine Pw.list (Pw.alloc rfl rfl rfl rfl rfl (fun _ => ?_)) | refine Pw.list (Pw.build rfl rfl rfl rfl ?_) | refine Pw.list (Pw.ld rfl inferInstance rfl rfl rfl ?_) | refine Pw.list (Pw.sto rfl rfl inferInstance rfl rfl rfl rfl rfl inferInstance rfl ?_))
  exact Pw.ret1N (x := ()) hD (.head _) .nil rfl trivial (fun w h => by trivial)
theorem insO_any (l : List On) (ex : List Value) (g c : Nat) (hw : ∀ o ∈ l, OnW o) (hl : l.length ≤ 1000) :
    Ct1 Try.prog 95 #[.slice (some ⟨g, 0, none⟩) l.length c, .int .i64 0, .int .i64 l.length, .func (.func 39) #[] #[]] g (row (l.flatMap encO ++ ex) 90) (AllO l) (fun _ : Unit => .tuple #[]) Tt (fun _ => row ((insO l.length l).flatMap encO ++ ex) 90) (fun _ _ => True) := by
  rcases Nat.eq_zero_or_pos l.length with h | h
  · have e : insO l.length l = l := by rw [h]; rfl
    rw [e]
    exact (insertionO_none l ex g c l.length 0 l.length (by omega) (by omega)).weak (fun _ _ => trivial)
  · exact insertionO_ct l ex g c l.length hw (Nat.le_refl _) hl h
theorem stableO_ct (l : List On) (ex : List Value) (g c : Nat) (hw : ∀ o ∈ l, OnW o) (hl : l.length ≤ 20) :
    Ct1 Try.prog 74 #[.slice (some ⟨g, 0, none⟩) l.length c, .int .i64 l.length, .func (.func 39) #[] #[]] g (row (l.flatMap encO ++ ex) 90) (AllO l) (fun _ : Unit => .tuple #[]) Tt (fun _ => row ((insO l.length l).flatMap encO ++ ex) 90) (fun _ _ => True) := by
  refine Ct1.start Try.func74 rfl rfl (slots_of rfl slots3) (fun D w0 hD => ?_)
  repeat (first | (with_reducible first | refine Pw.seq ?_ | refine Pw.region ?_ | refine Pw.nil ?_ | refine Pw.then_ ?_ | refine Pw.skip ?_ | refine Pw.block ?_ | refine Pw.exit ?_ | refine Pw.inX ?_ | refine Pw.inN ?_ | refine Pw.inR ?_ | refine Pw.thenX ?_ | refine Pw.thenR ?_ | refine Pw.ret ?_) | refine Pw.list (Pw.pure rfl rfl rfl ?_) | refine Pw.inY rfl ?_ | refine Pw.list (Pw.off rfl rfl ?_) | refine Pw.condT rfl ?_ | refine Pw.condF rfl ?_ | refine Pw.list (Pw.box rfl rfl rfl rfl (fun _ => ?_)) | refine Pw.list (Pw.alloc rfl rfl rfl rfl rfl (fun _ => ?_)) | refine Pw.list (Pw.build rfl rfl rfl rfl ?_) | refine Pw.list (Pw.ld rfl inferInstance rfl rfl rfl ?_) | refine Pw.list (Pw.sto rfl rfl inferInstance rfl rfl rfl rfl rfl inferInstance rfl ?_))
  refine Pw.rounds 3 (Pw.round ?_)
  repeat (first | (with_reducible first | refine Pw.seq ?_ | refine Pw.region ?_ | refine Pw.nil ?_ | refine Pw.then_ ?_ | refine Pw.skip ?_ | refine Pw.block ?_ | refine Pw.exit ?_ | refine Pw.inX ?_ | refine Pw.inN ?_ | refine Pw.inR ?_ | refine Pw.thenX ?_ | refine Pw.thenR ?_ | refine Pw.ret ?_) | refine Pw.list (Pw.pure rfl rfl rfl ?_) | refine Pw.inY rfl ?_ | refine Pw.list (Pw.off rfl rfl ?_) | refine Pw.condT rfl ?_ | refine Pw.condF rfl ?_ | refine Pw.list (Pw.box rfl rfl rfl rfl (fun _ => ?_)) | refine Pw.list (Pw.alloc rfl rfl rfl rfl rfl (fun _ => ?_)) | refine Pw.list (Pw.build rfl rfl rfl rfl ?_) | refine Pw.list (Pw.ld rfl inferInstance rfl rfl rfl ?_) | refine Pw.list (Pw.sto rfl rfl inferInstance rfl rfl rfl rfl rfl inferInstance rfl ?_))
  refine Pw.condD rfl (fun c1 => ?_) (fun c1 => ?_)
  · have h20 : l.length = 20 := by omega
    repeat (first | (with_reducible first | refine Pw.seq ?_ | refine Pw.region ?_ | refine Pw.nil ?_ | refine Pw.then_ ?_ | refine Pw.skip ?_ | refine Pw.block ?_ | refine Pw.exit ?_ | refine Pw.inX ?_ | refine Pw.inN ?_ | refine Pw.inR ?_ | refine Pw.thenX ?_ | refine Pw.thenR ?_ | refine Pw.ret ?_) | refine Pw.list (Pw.pure rfl rfl rfl ?_) | refine Pw.inY rfl ?_ | refine Pw.list (Pw.off rfl rfl ?_) | refine Pw.condT rfl ?_ | refine Pw.condF rfl ?_ | refine Pw.list (Pw.box rfl rfl rfl rfl (fun _ => ?_)) | refine Pw.list (Pw.alloc rfl rfl rfl rfl rfl (fun _ => ?_)) | refine Pw.list (Pw.build rfl rfl rfl rfl ?_) | refine Pw.list (Pw.ld rfl inferInstance rfl rfl rfl ?_) | refine Pw.list (Pw.sto rfl rfl inferInstance rfl rfl rfl rfl rfl inferInstance rfl ?_))
    refine Pw.re (d := 16) (v' := .int .i64 (l.length : Int)) rfl (by rw [h20]; rfl) ?_
    refine Pw.list (Pw.call1 (insO_any l ex g c hw (by omega)) rfl rfl rfl (by kernel_rfl) rfl rfl (fun w h => (hv w h)) (.head _) (fun _ => .head) ?_)
    intro _ _
    repeat (first | (with_reducible first | refine Pw.seq ?_ | refine Pw.region ?_ | refine Pw.nil ?_ | refine Pw.then_ ?_ | refine Pw.skip ?_ | refine Pw.block ?_ | refine Pw.exit ?_ | refine Pw.inX ?_ | refine Pw.inN ?_ | refine Pw.inR ?_ | refine Pw.thenX ?_ | refine Pw.thenR ?_ | refine Pw.ret ?_) | refine Pw.list (Pw.pure rfl rfl rfl ?_) | refine Pw.inY rfl ?_ | refine Pw.list (Pw.off rfl rfl ?_) | refine Pw.condT rfl ?_ | refine Pw.condF rfl ?_ | refine Pw.list (Pw.box rfl rfl rfl rfl (fun _ => ?_)) | refine Pw.list (Pw.alloc rfl rfl rfl rfl rfl (fun _ => ?_)) | refine Pw.list (Pw.build rfl rfl rfl rfl ?_) | refine Pw.list (Pw.ld rfl inferInstance rfl rfl rfl ?_) | refine Pw.list (Pw.sto rfl rfl inferInstance rfl rfl rfl rfl rfl inferInstance rfl ?_))
    refine Pw.re (d := 8) (v' := .int .i64 40) rfl (congrArg (Value.int .i64) (by unfold wrap64; omega)) ?_
    refine Pw.round ?_
    repeat (first | (with_reducible first | refine Pw.seq ?_ | refine Pw.region ?_ | refine Pw.nil ?_ | refine Pw.then_ ?_ | refine Pw.skip ?_ | refine Pw.block ?_ | refine Pw.exit ?_ | refine Pw.inX ?_ | refine Pw.inN ?_ | refine Pw.inR ?_ | refine Pw.thenX ?_ | refine Pw.thenR ?_ | refine Pw.ret ?_) | refine Pw.list (Pw.pure rfl rfl rfl ?_) | refine Pw.inY rfl ?_ | refine Pw.list (Pw.off rfl rfl ?_) | refine Pw.condT rfl ?_ | refine Pw.condF rfl ?_ | refine Pw.list (Pw.box rfl rfl rfl rfl (fun _ => ?_)) | refine Pw.list (Pw.alloc rfl rfl rfl rfl rfl (fun _ => ?_)) | refine Pw.list (Pw.build rfl rfl rfl rfl ?_) | refine Pw.list (Pw.ld rfl inferInstance rfl rfl rfl ?_) | refine Pw.list (Pw.sto rfl rfl inferInstance rfl rfl rfl rfl rfl inferInstance rfl ?_))
    refine Pw.condD rfl (fun c0 => absurd c0 (by omega)) (fun c0 => ?_)
    repeat (first | (with_reducible first | refine Pw.seq ?_ | refine Pw.region ?_ | refine Pw.nil ?_ | refine Pw.then_ ?_ | refine Pw.skip ?_ | refine Pw.block ?_ | refine Pw.exit ?_ | refine Pw.inX ?_ | refine Pw.inN ?_ | refine Pw.inR ?_ | refine Pw.thenX ?_ | refine Pw.thenR ?_ | refine Pw.ret ?_) | refine Pw.list (Pw.pure rfl rfl rfl ?_) | refine Pw.inY rfl ?_ | refine Pw.list (Pw.off rfl rfl ?_) | refine Pw.condT rfl ?_ | refine Pw.condF rfl ?_ | refine Pw.list (Pw.box rfl rfl rfl rfl (fun _ => ?_)) | refine Pw.list (Pw.alloc rfl rfl rfl rfl rfl (fun _ => ?_)) | refine Pw.list (Pw.build rfl rfl rfl rfl ?_) | refine Pw.list (Pw.ld rfl inferInstance rfl rfl rfl ?_) | refine Pw.list (Pw.sto rfl rfl inferInstance rfl rfl rfl rfl rfl inferInstance rfl ?_))
    refine Pw.list (Pw.call1 (insertionO_none (insO l.length l) ex g c l.length 20 l.length (by omega) (by omega)) rfl rfl rfl (by kernel_rfl) rfl rfl (fun w h => trivial) (.head _) (fun _ => .head) ?_)
    intro _ _
    repeat (first | (with_reducible first | refine Pw.seq ?_ | refine Pw.region ?_ | refine Pw.nil ?_ | refine Pw.then_ ?_ | refine Pw.skip ?_ | refine Pw.block ?_ | refine Pw.exit ?_ | refine Pw.inX ?_ | refine Pw.inN ?_ | refine Pw.inR ?_ | refine Pw.thenX ?_ | refine Pw.thenR ?_ | refine Pw.ret ?_) | refine Pw.list (Pw.pure rfl rfl rfl ?_) | refine Pw.inY rfl ?_ | refine Pw.list (Pw.off rfl rfl ?_) | refine Pw.condT rfl ?_ | refine Pw.condF rfl ?_ | refine Pw.list (Pw.box rfl rfl rfl rfl (fun _ => ?_)) | refine Pw.list (Pw.alloc rfl rfl rfl rfl rfl (fun _ => ?_)) | refine Pw.list (Pw.build rfl rfl rfl rfl ?_) | refine Pw.list (Pw.ld rfl inferInstance rfl rfl rfl ?_) | refine Pw.list (Pw.sto rfl rfl inferInstance rfl rfl rfl rfl rfl inferInstance rfl ?_))
    refine Pw.rounds 2 (Pw.round ?_)
    repeat (first | (with_reducible first | refine Pw.seq ?_ | refine Pw.region ?_ | refine Pw.nil ?_ | refine Pw.then_ ?_ | refine Pw.skip ?_ | refine Pw.block ?_ | refine Pw.exit ?_ | refine Pw.inX ?_ | refine Pw.inN ?_ | refine Pw.inR ?_ | refine Pw.thenX ?_ | refine Pw.thenR ?_ | refine Pw.ret ?_) | refine Pw.list (Pw.pure rfl rfl rfl ?_) | refine Pw.inY rfl ?_ | refine Pw.list (Pw.off rfl rfl ?_) | refine Pw.condT rfl ?_ | refine Pw.condF rfl ?_ | refine Pw.list (Pw.box rfl rfl rfl rfl (fun _ => ?_)) | refine Pw.list (Pw.alloc rfl rfl rfl rfl rfl (fun _ => ?_)) | refine Pw.list (Pw.build rfl rfl rfl rfl ?_) | refine Pw.list (Pw.ld rfl inferInstance rfl rfl rfl ?_) | refine Pw.list (Pw.sto rfl rfl inferInstance rfl rfl rfl rfl rfl inferInstance rfl ?_))
    refine Pw.condD rfl (fun c0 => absurd c0 (by omega)) (fun c0 => ?_)
    repeat (first | (with_reducible first | refine Pw.seq ?_ | refine Pw.region ?_ | refine Pw.nil ?_ | refine Pw.then_ ?_ | refine Pw.skip ?_ | refine Pw.block ?_ | refine Pw.exit ?_ | refine Pw.inX ?_ | refine Pw.inN ?_ | refine Pw.inR ?_ | refine Pw.thenX ?_ | refine Pw.thenR ?_ | refine Pw.ret ?_) | refine Pw.list (Pw.pure rfl rfl rfl ?_) | refine Pw.inY rfl ?_ | refine Pw.list (Pw.off rfl rfl ?_) | refine Pw.condT rfl ?_ | refine Pw.condF rfl ?_ | refine Pw.list (Pw.box rfl rfl rfl rfl (fun _ => ?_)) | refine Pw.list (Pw.alloc rfl rfl rfl rfl rfl (fun _ => ?_)) | refine Pw.list (Pw.build rfl rfl rfl rfl ?_) | refine Pw.list (Pw.ld rfl inferInstance rfl rfl rfl ?_) | refine Pw.list (Pw.sto rfl rfl inferInstance rfl rfl rfl rfl rfl inferInstance rfl ?_))
    exact Pw.ret1N (x := ()) hD (.head _) .nil rfl trivial (fun w h => by trivial)
  · repeat (first | (with_reducible first | refine Pw.seq ?_ | refine Pw.region ?_ | refine Pw.nil ?_ | refine Pw.then_ ?_ | refine Pw.skip ?_ | refine Pw.block ?_ | refine Pw.exit ?_ | refine Pw.inX ?_ | refine Pw.inN ?_ | refine Pw.inR ?_ | refine Pw.thenX ?_ | refine Pw.thenR ?_ | refine Pw.ret ?_) | refine Pw.list (Pw.pure rfl rfl rfl ?_) | refine Pw.inY rfl ?_ | refine Pw.list (Pw.off rfl rfl ?_) | refine Pw.condT rfl ?_ | refine Pw.condF rfl ?_ | refine Pw.list (Pw.box rfl rfl rfl rfl (fun _ => ?_)) | refine Pw.list (Pw.alloc rfl rfl rfl rfl rfl (fun _ => ?_)) | refine Pw.list (Pw.build rfl rfl rfl rfl ?_) | refine Pw.list (Pw.ld rfl inferInstance rfl rfl rfl ?_) | refine Pw.list (Pw.sto rfl rfl inferInstance rfl rfl rfl rfl rfl inferInstance rfl ?_))
    refine Pw.list (Pw.call1 (insO_any l ex g c hw (by omega)) rfl rfl rfl (by kernel_rfl) rfl rfl (fun w h => (hv w h)) (.head _) (fun _ => .head) ?_)
    intro _ _
    repeat (first | (with_reducible first | refine Pw.seq ?_ | refine Pw.region ?_ | refine Pw.nil ?_ | refine Pw.then_ ?_ | refine Pw.skip ?_ | refine Pw.block ?_ | refine Pw.exit ?_ | refine Pw.inX ?_ | refine Pw.inN ?_ | refine Pw.inR ?_ | refine Pw.thenX ?_ | refine Pw.thenR ?_ | refine Pw.ret ?_) | refine Pw.list (Pw.pure rfl rfl rfl ?_) | refine Pw.inY rfl ?_ | refine Pw.list (Pw.off rfl rfl ?_) | refine Pw.condT rfl ?_ | refine Pw.condF rfl ?_ | refine Pw.list (Pw.box rfl rfl rfl rfl (fun _ => ?_)) | refine Pw.list (Pw.alloc rfl rfl rfl rfl rfl (fun _ => ?_)) | refine Pw.list (Pw.build rfl rfl rfl rfl ?_) | refine Pw.list (Pw.ld rfl inferInstance rfl rfl rfl ?_) | refine Pw.list (Pw.sto rfl rfl inferInstance rfl rfl rfl rfl rfl inferInstance rfl ?_))
    refine Pw.rounds 2 (Pw.round ?_)
    repeat (first | (with_reducible first | refine Pw.seq ?_ | refine Pw.region ?_ | refine Pw.nil ?_ | refine Pw.then_ ?_ | refine Pw.skip ?_ | refine Pw.block ?_ | refine Pw.exit ?_ | refine Pw.inX ?_ | refine Pw.inN ?_ | refine Pw.inR ?_ | refine Pw.thenX ?_ | refine Pw.thenR ?_ | refine Pw.ret ?_) | refine Pw.list (Pw.pure rfl rfl rfl ?_) | refine Pw.inY rfl ?_ | refine Pw.list (Pw.off rfl rfl ?_) | refine Pw.condT rfl ?_ | refine Pw.condF rfl ?_ | refine Pw.list (Pw.box rfl rfl rfl rfl (fun _ => ?_)) | refine Pw.list (Pw.alloc rfl rfl rfl rfl rfl (fun _ => ?_)) | refine Pw.list (Pw.build rfl rfl rfl rfl ?_) | refine Pw.list (Pw.ld rfl inferInstance rfl rfl rfl ?_) | refine Pw.list (Pw.sto rfl rfl inferInstance rfl rfl rfl rfl rfl inferInstance rfl ?_))
    refine Pw.condD rfl (fun c0 => absurd c0 (by omega)) (fun c0 => ?_)
    repeat (first | (with_reducible first | refine Pw.seq ?_ | refine Pw.region ?_ | refine Pw.nil ?_ | refine Pw.then_ ?_ | refine Pw.skip ?_ | refine Pw.block ?_ | refine Pw.exit ?_ | refine Pw.inX ?_ | refine Pw.inN ?_ | refine Pw.inR ?_ | refine Pw.thenX ?_ | refine Pw.thenR ?_ | refine Pw.ret ?_) | refine Pw.list (Pw.pure rfl rfl rfl ?_) | refine Pw.inY rfl ?_ | refine Pw.list (Pw.off rfl rfl ?_) | refine Pw.condT rfl ?_ | refine Pw.condF rfl ?_ | refine Pw.list (Pw.box rfl rfl rfl rfl (fun _ => ?_)) | refine Pw.list (Pw.alloc rfl rfl rfl rfl rfl (fun _ => ?_)) | refine Pw.list (Pw.build rfl rfl rfl rfl ?_) | refine Pw.list (Pw.ld rfl inferInstance rfl rfl rfl ?_) | refine Pw.list (Pw.sto rfl rfl inferInstance rfl rfl rfl rfl rfl inferInstance rfl ?_))
    exact Pw.ret1N (x := ()) hD (.head _) .nil rfl trivial (fun w h => by trivial)
theorem SortStable_ct (l : List On) (ex : List Value) (g c : Nat) (hw : ∀ o ∈ l, OnW o) (hl : l.length ≤ 20) :
    Ct1 Try.prog 38 #[.slice (some ⟨g, 0, none⟩) l.length c, .func (.func 39) #[] #[]] g (row (l.flatMap encO ++ ex) 90) (AllO l) (fun _ : Unit => .tuple #[]) Tt (fun _ => row ((insO l.length l).flatMap encO ++ ex) 90) (fun _ _ => True) := by
  refine Ct1.start Try.func38 rfl rfl (slots_of rfl slots2) (fun D w0 hD => ?_)
  repeat (first | (with_reducible first | refine Pw.seq ?_ | refine Pw.region ?_ | refine Pw.nil ?_ | refine Pw.then_ ?_ | refine Pw.skip ?_ | refine Pw.block ?_ | refine Pw.exit ?_ | refine Pw.inX ?_ | refine Pw.inN ?_ | refine Pw.inR ?_ | refine Pw.thenX ?_ | refine Pw.thenR ?_ | refine Pw.ret ?_) | refine Pw.list (Pw.pure rfl rfl rfl ?_) | refine Pw.inY rfl ?_ | refine Pw.list (Pw.off rfl rfl ?_) | refine Pw.condT rfl ?_ | refine Pw.condF rfl ?_ | refine Pw.list (Pw.box rfl rfl rfl rfl (fun _ => ?_)) | refine Pw.list (Pw.alloc rfl rfl rfl rfl rfl (fun _ => ?_)) | refine Pw.list (Pw.build rfl rfl rfl rfl ?_) | refine Pw.list (Pw.ld rfl inferInstance rfl rfl rfl ?_) | refine Pw.list (Pw.sto rfl rfl inferInstance rfl rfl rfl rfl rfl inferInstance rfl ?_))
  refine Pw.list (Pw.call1 (stableO_ct l ex g c hw hl) rfl rfl rfl (by kernel_rfl) rfl rfl (fun w h => (hv w h)) (.head _) (fun _ => .head) ?_)
  intro _ _
  repeat (first | (with_reducible first | refine Pw.seq ?_ | refine Pw.region ?_ | refine Pw.nil ?_ | refine Pw.then_ ?_ | refine Pw.skip ?_ | refine Pw.block ?_ | refine Pw.exit ?_ | refine Pw.inX ?_ | refine Pw.inN ?_ | refine Pw.inR ?_ | refine Pw.thenX ?_ | refine Pw.thenR ?_ | refine Pw.ret ?_) | refine Pw.list (Pw.pure rfl rfl rfl ?_) | refine Pw.inY rfl ?_ | refine Pw.list (Pw.off rfl rfl ?_) | refine Pw.condT rfl ?_ | refine Pw.condF rfl ?_ | refine Pw.list (Pw.box rfl rfl rfl rfl (fun _ => ?_)) | refine Pw.list (Pw.alloc rfl rfl rfl rfl rfl (fun _ => ?_)) | refine Pw.list (Pw.build rfl rfl rfl rfl ?_) | refine Pw.list (Pw.ld rfl inferInstance rfl rfl rfl ?_) | refine Pw.list (Pw.sto rfl rfl inferInstance rfl rfl rfl rfl rfl inferInstance rfl ?_))
  exact Pw.ret1N (x := ()) hD (.head _) .nil rfl trivial (fun w h => by trivial)
end Go.Proofs.Wk
/- Weights made whole: the insertion sort only orders. -/
namespace Go.Proofs.Wk
set_option linter.unusedVariables false
set_option linter.unusedSimpArgs false
theorem swap_perm {l : List On} {j : Nat} {x y : On} (hx : l[j + 1]? = some x) (hy : l[j]? = some y) : (swapO l j x y).Perm l := by
  obtain ⟨h1, e1⟩ := List.getElem?_eq_some_iff.1 hx
  obtain ⟨h2, e2⟩ := List.getElem?_eq_some_iff.1 hy
  have := List.set_set_perm h1 h2
  rw [e1, e2] at this
  exact this
theorem sink_perm : ∀ (j : Nat) (l : List On), (sink j l).Perm l
  | 0, l => .refl _
  | j + 1, l => by
    unfold sink
    split
    · rename_i x y hx hy
      split
      · exact (sink_perm j _).trans (swap_perm hx hy)
      · exact .refl _
    · exact .refl _
theorem insO_perm (i : Nat) (l : List On) : (insO i l).Perm l := by
  induction i with
  | zero => exact .refl _
  | succ i ih => rw [insO_succ]; exact (sink_perm i _).trans ih
end Go.Proofs.Wk
/- RatioRules: what layer 2 answers, of fractions as pairs of numbers. -/
namespace Go.Proofs.Wk
set_option linter.unusedVariables false
set_option linter.unusedSimpArgs false
def lw (p q : Int) : List Int × List Int := (natL (p / gcdI p q), natL (q / gcdI p q))
theorem lowS_natL {p q : Int} (hp : 0 ≤ p) (hq : 0 ≤ q) : lowS (natL p) (natL q) = lw p q := by
  unfold lowS lw; rw [val_natL hp, val_natL hq]
theorem of_lw {n d : Int} (h : 0 ≤ n) (h' : n ≤ 18446744073709551615) (h0 : 0 < d) (h1 : d ≤ 18446744073709551615) : makeS (ofN n) (ofN d) = ((lw n d).1, (lw n d).2, 0) := by
  rw [makeS_of (by omega) h1, if_neg (by omega)]
  unfold lowS
  rw [ofN_val h h', ofN_val (by omega) h1]; rfl
section
variable {p q r s : Int} {n : Nat} (hp : 0 ≤ p) (hq : 0 < q) (hr : 0 ≤ r) (hs : 0 < s) (lp : p < pw n) (lq : q < pw n) (lr : r < pw n) (ls : s < pw n) (hn : n + n + 1 ≤ 400)
include hp hq hr hs lp lq lr ls hn
end
end Go.Proofs.Wk
/- Fractions as rational numbers. -/
namespace Go.Proofs.Wk
set_option linter.unusedVariables false
set_option linter.unusedSimpArgs false
def qn (x : Rat) : List Int := natL x.num
def qd (x : Rat) : List Int := natL (x.den : Int)
/-- The number that two naturals say. -/
def rv (a b : List Int) : Rat := Rat.divInt (val a) (val b)
/-- A number that is not negative, with a numerator and a denominator of at most n limbs. -/
structure Sz (m : Nat) (x : Rat) : Prop where
  p : 0 ≤ x
  n : x.num < pw m
  d : (x.den : Int) < pw m
theorem gcdI_gcd {p q : Int} (hp : 0 ≤ p) (hq : 0 ≤ q) : gcdI p q = ((Int.gcd q p : Nat) : Int) := by
  unfold gcdI Int.gcd
  rw [Nat.gcd_comm, show p.toNat = p.natAbs by omega, show q.toNat = q.natAbs by omega]
theorem lw_q {p q : Int} (hp : 0 ≤ p) (hq : 0 < q) : lw p q = (qn (Rat.divInt p q), qd (Rat.divInt p q)) := by
  unfold lw qn qd
  rw [Rat.num_divInt, Rat.den_divInt, if_neg (by omega), Int.sign_eq_one_of_pos hq, Int.one_mul, gcdI_gcd hp (by omega), Int.natCast_ediv]
  rw [show ((q.natAbs : Nat) : Int) = q by omega]
theorem num_pos {x : Rat} (h : 0 ≤ x) : 0 ≤ x.num := Rat.num_nonneg.2 h
theorem den_pos (x : Rat) : 0 < (x.den : Int) := by have := x.den_nz; omega
theorem val_qn {x : Rat} (h : 0 ≤ x) : val (qn x) = x.num := val_natL (num_pos h)
theorem val_qd (x : Rat) : val (qd x) = (x.den : Int) := val_natL (by have := den_pos x; omega)
theorem mul_lt_pw {a b : Int} {m n : Nat} (ha : 0 ≤ a) (h1 : a < pw m) (h2 : b < pw n) (hb : 0 ≤ b) : a * b < pw (m + n) := by
  rw [pw_add]
  have := pw_pos m
  have h3 : a * b ≤ a * pw n := Int.mul_le_mul_of_nonneg_left (by omega) ha
  have h4 : a * pw n < pw m * pw n := Int.mul_lt_mul_of_pos_right h1 (pw_pos n)
  omega
theorem add_lt_pw {a b : Int} {n : Nat} (h1 : a < pw n) (h2 : b < pw n) : a + b < pw (n + 1) := by
  rw [pw_add]; have : pw 1 = 4294967296 := rfl
  have := pw_pos n
  rw [‹pw 1 = 4294967296›]; omega
theorem Sz.mono {m n : Nat} {x : Rat} (h : Sz m x) (hn : m ≤ n) : Sz n x := ⟨h.p, by have := h.n; have := pw_le hn; omega, by have := h.d; have := pw_le hn; omega⟩
theorem Sz.ln {n : Nat} {x : Rat} (h : Sz n x) : (qn x).length ≤ n := natL_len_le (num_pos h.p) h.n
theorem Sz.ld {n : Nat} {x : Rat} (h : Sz n x) : (qd x).length ≤ n := natL_len_le (by have := den_pos x; omega) h.d
theorem qn_lm (x : Rat) : Lm (qn x) := (natL_fm _).1
theorem qd_lm (x : Rat) : Lm (qd x) := (natL_fm _).1
theorem qd_pos (x : Rat) : 0 < (qd x).length := by
  rcases Nat.eq_zero_or_pos (qd x).length with h | h
  · have := (natL_len_zero (show 0 ≤ (x.den : Int) by have := den_pos x; omega)).1 h; have := den_pos x; omega
  · exact h
theorem Sz.formed {n : Nat} {x : Rat} (h : Sz n x) (hn : n ≤ 400) : formedR (qn x) (qd x) = true := by
  unfold formedR
  have h1 := h.ln; have h2 := h.ld; have h3 := qd_pos x
  rw [show fmB (qn x) = true from fmB_natL (by show (qn x).length ≤ _; omega), show fmB (qd x) = true from fmB_natL (by show (qd x).length ≤ _; omega), val_qn h.p, val_qd, gcdI_gcd (num_pos h.p) (by have := den_pos x; omega)]
  have hr : Int.gcd (x.den : Int) x.num = 1 := by
    have := x.reduced
    unfold Int.gcd; rw [Nat.gcd_comm]; exact this
  rw [hr]; simp [h3]
/-- A fraction that is formed is that of a number. -/
theorem formed_q {a b : List Int} (ha : Lm a) (hb : Lm b) (h : formedR a b = true) : a = qn (rv a b) ∧ b = qd (rv a b) ∧ 0 ≤ rv a b ∧ (rv a b).num = val a ∧ ((rv a b).den : Int) = val b := by
  obtain ⟨f1, f2, f3, f4⟩ := formedR_spec ha hb h
  have hq := fm_pos hb f2 f3
  have hp := val_nonneg ha
  have e := lw_q hp hq
  unfold lw at e
  rw [f4, Int.ediv_one, Int.ediv_one] at e
  have e1 := congrArg Prod.fst e
  have e2 := congrArg Prod.snd e
  dsimp only at e1 e2
  have h0 : 0 ≤ rv a b := Rat.divInt_nonneg hp (by omega)
  refine ⟨by rw [(fmB_nat ha f1).1, ← (fmB_nat ha f1).1]; exact (fmB_nat ha f1).1.trans e1, (fmB_nat hb f2).1.trans e2, h0, ?_, ?_⟩
  · exact natL_inj (num_pos h0) hp (e1.symm)
  · exact natL_inj (by have := den_pos (rv a b); omega) (by omega) (e2.symm)
theorem formed_sz {a b : List Int} (ha : Lm a) (hb : Lm b) (h : formedR a b = true) {n : Nat} (h1 : a.length ≤ n) (h2 : b.length ≤ n) : Sz n (rv a b) := by
  obtain ⟨_, _, h3, h4, h5⟩ := formed_q ha hb h
  have l1 := val_lt_pw ha
  have l2 := val_lt_pw hb
  have := pw_le h1; have := pw_le h2
  exact ⟨h3, by omega, by omega⟩
theorem q_low {p q : Int} (hp : 0 ≤ p) (hq : 0 < q) : lowS (natL p) (natL q) = (qn (Rat.divInt p q), qd (Rat.divInt p q)) := by
  rw [lowS_natL hp (by omega), lw_q hp hq]
theorem num_le_divInt {p q : Int} (hp : 0 ≤ p) (hq : 0 < q) : (Rat.divInt p q).num ≤ p ∧ ((Rat.divInt p q).den : Int) ≤ q := by
  have g0 := gcdI_pos (x := p) hq
  rw [gcdI_gcd hp (by omega)] at g0
  rw [Rat.num_divInt, Rat.den_divInt, if_neg (by omega), Int.sign_eq_one_of_pos hq, Int.one_mul]
  refine ⟨Int.ediv_le_self _ hp, ?_⟩
  rw [Int.natCast_ediv, show ((q.natAbs : Nat) : Int) = q by omega]
  exact Int.ediv_le_self _ (by omega)
section
variable {x y : Rat} {m n : Nat} (hx : Sz m x) (hy : Sz n y)
include hx hy
theorem q_add (h : m + n < 400) : joinS addS (qn x) (qd x) (qn y) (qd y) = (qn (x + y), qd (x + y), 0) := by
  have p1 := num_pos hx.p; have p2 := num_pos hy.p; have d1 := den_pos x; have d2 := den_pos y
  have b1 := mul_lt_pw p1 hx.n hy.d (by omega)
  have b2 := mul_lt_pw p2 hy.n hx.d (by omega)
  have b3 := mul_lt_pw (show 0 ≤ (x.den : Int) by omega) hx.d hy.d (by omega)
  rw [Nat.add_comm n m] at b2
  have b4 := add_lt_pw b1 b2
  have q1 := Int.mul_nonneg p1 (show 0 ≤ (y.den : Int) by omega)
  have q2 := Int.mul_nonneg p2 (show 0 ≤ (x.den : Int) by omega)
  have q3 := Int.mul_pos d1 d2
  rw [raddS_eq (qn_lm x) (qd_lm x) (qn_lm y) (qd_lm y) (hx.formed (by omega)) (hy.formed (by omega)), val_qn hx.p, val_qn hy.p, val_qd, val_qd]
  rw [if_pos ⟨by have := natL_len_le q1 b1; omega, by have := natL_len_le q2 b2; omega, by have := natL_len_le (by omega) b3; omega, by have := natL_len_le (by omega) b4; omega⟩, q_low (by omega) q3]
  rw [show x + y = Rat.divInt (x.num * y.den + y.num * x.den) ((x.den : Int) * (y.den : Int)) by rw [Rat.add_def', ← Int.natCast_mul, Rat.divInt_ofNat]]
theorem sz_add : Sz (m + n + 1) (x + y) := by
  have p1 := num_pos hx.p; have p2 := num_pos hy.p; have d1 := den_pos x; have d2 := den_pos y
  have b1 := mul_lt_pw p1 hx.n hy.d (by omega)
  have b2 := mul_lt_pw p2 hy.n hx.d (by omega)
  have b3 := mul_lt_pw (show 0 ≤ (x.den : Int) by omega) hx.d hy.d (by omega)
  rw [Nat.add_comm n m] at b2
  have b4 := add_lt_pw b1 b2
  have q1 := Int.mul_nonneg p1 (show 0 ≤ (y.den : Int) by omega)
  have q2 := Int.mul_nonneg p2 (show 0 ≤ (x.den : Int) by omega)
  have q3 := Int.mul_pos d1 d2
  have e : x + y = Rat.divInt (x.num * y.den + y.num * x.den) ((x.den : Int) * (y.den : Int)) := by rw [Rat.add_def', ← Int.natCast_mul, Rat.divInt_ofNat]
  obtain ⟨n1, n2⟩ := num_le_divInt (show 0 ≤ x.num * y.den + y.num * x.den by omega) q3
  rw [← e] at n1 n2
  have := pw_le (show m + n ≤ m + n + 1 by omega)
  exact ⟨Rat.add_nonneg hx.p hy.p, by omega, by omega⟩
theorem q_sub (h : m + n ≤ 400) : joinS subS (qn x) (qd x) (qn y) (qd y) = if x < y then ([], [], 3) else (qn (x - y), qd (x - y), 0) := by
  have p1 := num_pos hx.p; have p2 := num_pos hy.p; have d1 := den_pos x; have d2 := den_pos y
  have b1 := mul_lt_pw p1 hx.n hy.d (by omega)
  have b2 := mul_lt_pw p2 hy.n hx.d (by omega)
  have b3 := mul_lt_pw (show 0 ≤ (x.den : Int) by omega) hx.d hy.d (by omega)
  rw [Nat.add_comm n m] at b2
  have q1 := Int.mul_nonneg p1 (show 0 ≤ (y.den : Int) by omega)
  have q2 := Int.mul_nonneg p2 (show 0 ≤ (x.den : Int) by omega)
  have q3 := Int.mul_pos d1 d2
  rw [rsubS_eq (qn_lm x) (qd_lm x) (qn_lm y) (qd_lm y) (hx.formed (by omega)) (hy.formed (by omega)), val_qn hx.p, val_qn hy.p, val_qd, val_qd]
  rw [if_pos ⟨by have := natL_len_le q1 b1; omega, by have := natL_len_le q2 b2; omega, by have := natL_len_le (by omega) b3; omega⟩]
  by_cases hlt : x < y
  · rw [if_pos hlt, if_pos ((Rat.lt_iff x y).1 hlt)]
  · have h5 : ¬ x.num * y.den < y.num * x.den := fun e => hlt ((Rat.lt_iff x y).2 e)
    rw [if_neg hlt, if_neg h5, q_low (by omega) q3]
    rw [show x - y = Rat.divInt (x.num * y.den - y.num * x.den) ((x.den : Int) * (y.den : Int)) by rw [Rat.sub_def', ← Int.natCast_mul, Rat.divInt_ofNat]]
def cmpQ (x y : Rat) : Int := if x < y then -1 else if x = y then 0 else 1
theorem q_cmp (h : m + n ≤ 400) : rcmpS (qn x) (qd x) (qn y) (qd y) = cmpQ x y := by
  have p1 := num_pos hx.p; have p2 := num_pos hy.p; have d1 := den_pos x; have d2 := den_pos y
  have b1 := mul_lt_pw p1 hx.n hy.d (by omega)
  have b2 := mul_lt_pw p2 hy.n hx.d (by omega)
  rw [Nat.add_comm n m] at b2
  have q1 := Int.mul_nonneg p1 (show 0 ≤ (y.den : Int) by omega)
  have q2 := Int.mul_nonneg p2 (show 0 ≤ (x.den : Int) by omega)
  rw [rcmpS_eq (qn_lm x) (qd_lm x) (qn_lm y) (qd_lm y) (hx.formed (by omega)) (hy.formed (by omega)), val_qn hx.p, val_qn hy.p, val_qd, val_qd]
  rw [if_pos ⟨by have := natL_len_le q1 b1; omega, by have := natL_len_le q2 b2; omega⟩]
  unfold cmpS cmpQ
  simp only [Rat.lt_iff, Rat.eq_iff_mul_eq_mul]
end
theorem q_floor {x : Rat} {n : Nat} (hx : Sz n x) (h : n ≤ 400) : rfloorS (qn x) (qd x) = (natL x.floor, 0) := by
  unfold rfloorS
  rw [if_pos (hx.formed h), val_qn hx.p, val_qd, Rat.floor_def]
theorem floor_nn {x : Rat} (h : 0 ≤ x) : 0 ≤ x.floor := Rat.le_floor_iff.2 (by simpa using h)
theorem sz_floor {x : Rat} {n : Nat} (hx : Sz n x) : x.floor < pw n := by
  rw [Rat.floor_def]
  have h1 := Int.ediv_le_self (x.den : Int) (num_pos hx.p)
  have := hx.n; omega
theorem qd_int (n : Int) : qd (n : Rat) = [1] := by unfold qd; rw [Rat.den_intCast]; exact natL_one
theorem qn_int (n : Int) : qn (n : Rat) = natL n := by unfold qn; rw [Rat.num_intCast]
theorem sz_int {k : Int} {n : Nat} (h0 : 0 ≤ k) (h : k < pw n) (hn : 1 ≤ n) : Sz n (k : Rat) := ⟨Rat.intCast_nonneg.2 h0, by rw [Rat.num_intCast]; exact h, by rw [Rat.den_intCast]; have := pw_le hn; have : pw 1 = 4294967296 := rfl; omega⟩
theorem q_of {n d : Int} (h : 0 ≤ n) (h' : n ≤ 18446744073709551615) (h0 : 0 < d) (h1 : d ≤ 18446744073709551615) : makeS (ofN n) (ofN d) = (qn (Rat.divInt n d), qd (Rat.divInt n d), 0) := by
  rw [of_lw h h' h0 h1, lw_q h h0]
theorem q_of1 {n : Int} (h : 0 ≤ n) (h' : n ≤ 18446744073709551615) : makeS (ofN n) (ofN 1) = (qn (n : Rat), qd (n : Rat), 0) := by
  rw [q_of h h' (by omega) (by omega), show Rat.divInt n 1 = (n : Rat) by rw [Rat.divInt_eq_div]; grind]
theorem sz_0 (n : Nat) (hn : 1 ≤ n) : Sz n 0 := by
  have := sz_int (k := 0) (n := n) (by omega) (pw_pos n) hn
  exact this
end Go.Proofs.Wk
/- Weights made whole: the plain law. -/
namespace Go.Proofs.Wk
set_option linter.unusedVariables false
set_option linter.unusedSimpArgs false
def fr (x : Rat) : Rat := x - (x.floor : Rat)
def qAt (ws : List Rat) (i : Nat) : Rat := ws.getD i 0
def ahd (ws : List Rat) (i j : Nat) : Prop := fr (qAt ws j) < fr (qAt ws i) ∨ (fr (qAt ws i) = fr (qAt ws j) ∧ i < j)
/-- The places in the order of their rests, greater ones first, of alike ones the first. -/
structure Ord (ws : List Rat) (o : List Nat) : Prop where
  perm : o.Perm (List.range ws.length)
  pw : o.Pairwise (ahd ws)
theorem ahd_anti {ws : List Rat} {i j : Nat} (h : ahd ws i j) (h' : ahd ws j i) : i = j := by
  unfold ahd at h h'; grind
theorem ord_uniq {ws : List Rat} {o o' : List Nat} (h : Ord ws o) (h' : Ord ws o') : o = o' :=
  List.Perm.eq_of_pairwise (fun a b _ _ h1 h2 => ahd_anti h1 h2) h.pw h'.pw (h.perm.trans h'.perm.symm)
theorem Ord.len {ws : List Rat} {o : List Nat} (h : Ord ws o) : o.length = ws.length := by rw [h.perm.length_eq, List.length_range]
theorem Ord.nodup {ws : List Rat} {o : List Nat} (h : Ord ws o) : o.Nodup := h.perm.nodup_iff.2 List.nodup_range
theorem Ord.lt {ws : List Rat} {o : List Nat} (h : Ord ws o) {k : Nat} (hk : k ∈ o) : k < ws.length := List.mem_range.1 (h.perm.mem_iff.1 hk)
/-! ### A weight's rest -/
theorem fr_num {x : Rat} : fr x = Rat.divInt (x.num - x.floor * x.den) x.den := by
  unfold fr
  rw [Rat.sub_def', Rat.num_intCast, Rat.den_intCast, Nat.mul_one, ← Rat.divInt_ofNat]
  simp
theorem fr_nn (x : Rat) : 0 ≤ fr x := by unfold fr; have := Rat.floor_le x; grind
theorem fr_lt (x : Rat) : fr x < 1 := by
  unfold fr; have := Rat.lt_floor_add_one x
  rw [Rat.intCast_add] at this
  have e : ((1 : Int) : Rat) = 1 := rfl
  grind
theorem sz_fr {x : Rat} {n : Nat} (h : Sz n x) : Sz n (fr x) := by
  have h1 := num_pos h.p
  have hd := den_pos x
  have hf := floor_nn h.p
  have h0 : 0 ≤ x.num - x.floor * x.den := by
    rw [Rat.floor_def]; have := Int.ediv_mul_le x.num (show (x.den : Int) ≠ 0 by omega); omega
  obtain ⟨n1, n2⟩ := num_le_divInt h0 hd
  rw [← fr_num] at n1 n2
  have h2 := Int.mul_nonneg hf (show 0 ≤ (x.den : Int) by omega)
  exact ⟨fr_nn x, by have := h.n; omega, by have := h.d; omega⟩
/-! ### The insertion sort orders -/
def kO (o : On) : Rat := rv o.a o.b
def OnQ (m : Nat) (o : On) : Prop := o.a = qn (kO o) ∧ o.b = qd (kO o) ∧ Sz m (kO o)
theorem rv_q {x : Rat} (h : 0 ≤ x) : rv (qn x) (qd x) = x := by
  unfold rv; rw [val_qn h, val_qd, Rat.num_divInt_den]
theorem cfO_lt {m : Nat} {x y : On} (hx : OnQ m x) (hy : OnQ m y) (hm : m ≤ 200) : cfO x y < 0 ↔ kO y < kO x := by
  unfold cfO
  rw [hx.1, hx.2.1, hy.1, hy.2.1, q_cmp hy.2.2 hx.2.2 (by omega)]
  unfold cmpQ
  by_cases h : kO y < kO x
  · rw [if_pos h]; simp [h]
  · rw [if_neg h]
    by_cases h2 : kO y = kO x
    · rw [if_pos h2]; simp [h]
    · rw [if_neg h2]; simp [h]
def insB (x : On) : List On → List On
  | [] => [x]
  | y :: r => if kO y < kO x then y :: insB x r else x :: y :: r
theorem sink_insB {m : Nat} (hm : m ≤ 200) : ∀ (pre post : List On) (x : On), (∀ o ∈ pre, OnQ m o) → OnQ m x → sink pre.length (pre.reverse ++ x :: post) = (insB x pre).reverse ++ post
  | [], post, x, _, _ => rfl
  | y :: r, post, x, hp, hx => by
    have hl : (y :: r).reverse ++ x :: post = r.reverse ++ y :: x :: post := by simp
    have e0 : (r.reverse ++ y :: x :: post)[r.length]? = some y := by
      rw [List.getElem?_append_right (by simp)]; simp
    have e1 : (r.reverse ++ y :: x :: post)[r.length + 1]? = some x := by
      rw [List.getElem?_append_right (by simp)]; simp
    rw [hl, List.length_cons]
    have e2 : sink (r.length + 1) (r.reverse ++ y :: x :: post) = if cfO x y < 0 then sink r.length (swapO (r.reverse ++ y :: x :: post) r.length x y) else r.reverse ++ y :: x :: post := by
      simp only [sink, e0, e1]
    rw [e2]
    have hc := cfO_lt hx (hp y (List.mem_cons_self ..)) hm
    unfold insB
    by_cases h : kO y < kO x
    · rw [if_pos (hc.2 h), if_pos h]
      have hs : swapO (r.reverse ++ y :: x :: post) r.length x y = r.reverse ++ x :: y :: post := by
        unfold swapO
        rw [List.set_append_right _ _ (by simp), List.set_append_right _ _ (by simp)]
        simp
      rw [hs, sink_insB hm r (y :: post) x (fun o ho => hp o (List.mem_cons_of_mem _ ho)) hx]
      simp
    · rw [if_neg (fun e => h (hc.1 e)), if_neg h]; simp
def isB (l : List On) : List On := l.foldl (fun acc x => insB x acc) []
theorem insB_perm (x : On) : ∀ l : List On, (insB x l).Perm (x :: l)
  | [] => .refl _
  | y :: r => by
    unfold insB
    split
    · exact ((insB_perm x r).cons y).trans (.swap ..)
    · exact .refl _
theorem isB_snoc (l : List On) (x : On) : isB (l ++ [x]) = insB x (isB l) := by unfold isB; rw [List.foldl_append]; rfl
theorem isB_perm : ∀ (n : Nat) (l : List On), l.length = n → (isB l).Perm l
  | 0, l, h => by rw [List.eq_nil_of_length_eq_zero h]; exact .refl _
  | n + 1, l, h => by
    obtain ⟨x, hx, _⟩ := get_at (show n < l.length by omega)
    have e : l = l.take n ++ [x] := by rw [← take_snoc hx, List.take_of_length_le (by omega)]
    rw [e, isB_snoc]
    refine (insB_perm x _).trans (((isB_perm n _ (by rw [List.length_take]; omega)).cons x).trans ?_)
    exact (List.perm_append_comm (l₁ := [x]))
theorem insO_isB {m : Nat} (hm : m ≤ 200) {l : List On} (hq : ∀ o ∈ l, OnQ m o) : ∀ (i : Nat), i ≤ l.length → insO i l = (isB (l.take i)).reverse ++ l.drop i
  | 0, _ => by simp [insO, isB]
  | i + 1, h => by
    obtain ⟨x, hx, hxm⟩ := get_at (show i < l.length by omega)
    obtain ⟨_, hx'⟩ := List.getElem?_eq_some_iff.1 hx
    have hp := isB_perm i (l.take i) (by rw [List.length_take]; omega)
    have hlen : (isB (l.take i)).length = i := by rw [hp.length_eq, List.length_take]; omega
    rw [insO_succ, insO_isB hm hq i (by omega), take_snoc hx, isB_snoc]
    have e := sink_insB hm (isB (l.take i)) (l.drop (i + 1)) x (fun o ho => hq o (List.mem_of_mem_take (hp.mem_iff.1 ho))) (hq x hxm)
    rw [hlen] at e
    rw [← e, List.drop_eq_getElem_cons (by omega), hx']
def aheadO (p q : On) : Prop := kO q < kO p ∨ (kO p = kO q ∧ p.at_ < q.at_)
theorem aheadO_trans {p q r : On} (h : aheadO p q) (h' : aheadO q r) : aheadO p r := by
  unfold aheadO at *; grind
theorem insB_pw {x : On} : ∀ {l : List On}, l.Pairwise (fun p q => aheadO q p) → (∀ y ∈ l, y.at_ < x.at_) → (insB x l).Pairwise (fun p q => aheadO q p)
  | [], _, _ => List.pairwise_singleton _ _
  | y :: r, h, ha => by
    obtain ⟨h1, h2⟩ := List.pairwise_cons.1 h
    unfold insB
    split
    · rename_i hlt
      refine List.pairwise_cons.2 ⟨fun z hz => ?_, insB_pw h2 (fun z hz => ha z (List.mem_cons_of_mem _ hz))⟩
      rcases List.mem_cons.1 ((insB_perm x r).mem_iff.1 hz) with rfl | hz
      · exact .inl hlt
      · exact h1 z hz
    · rename_i hlt
      have hyx : aheadO y x := by
        have := ha y (List.mem_cons_self ..)
        unfold aheadO; grind
      refine List.pairwise_cons.2 ⟨fun z hz => ?_, h⟩
      rcases List.mem_cons.1 hz with rfl | hz
      · exact hyx
      · exact aheadO_trans (h1 z hz) hyx
theorem isB_pw : ∀ (n : Nat) (l : List On), l.length = n → (∀ (i j : Nat) (p q : On), i < j → l[i]? = some p → l[j]? = some q → p.at_ < q.at_) → (isB l).Pairwise (fun p q => aheadO q p)
  | 0, l, h, _ => by rw [List.eq_nil_of_length_eq_zero h]; exact List.Pairwise.nil
  | n + 1, l, h, ha => by
    obtain ⟨x, hx, _⟩ := get_at (show n < l.length by omega)
    have e : isB l = insB x (isB (l.take n)) := by rw [← isB_snoc, ← take_snoc hx, List.take_of_length_le (by omega)]
    have hln : (l.take n).length = n := by rw [List.length_take]; omega
    rw [e]
    refine insB_pw (isB_pw n (l.take n) hln (fun i j p q hij hi hj => ?_)) (fun y hy => ?_)
    · rw [List.getElem?_take] at hi hj
      split at hi
      · split at hj
        · exact ha i j p q hij hi hj
        · cases hj
      · cases hi
    · obtain ⟨i, hi⟩ := List.getElem?_of_mem ((isB_perm n _ hln).mem_iff.1 hy)
      rw [List.getElem?_take] at hi
      split at hi
      · exact ha i n y x (by omega) hi hx
      · cases hi
/-- The rests as they are made. -/
def OsOk (ws : List Rat) (os : List On) : Prop := os.length = ws.length ∧ ∀ (i : Nat) (o : On), os[i]? = some o → o.at_ = (i : Int) ∧ o.a = qn (fr (qAt ws i)) ∧ o.b = qd (fr (qAt ws i))
theorem OsOk.key {ws : List Rat} {os : List On} (h : OsOk ws os) {o : On} (ho : o ∈ os) : 0 ≤ o.at_ ∧ o.at_.toNat < ws.length ∧ o.a = qn (fr (qAt ws o.at_.toNat)) ∧ o.b = qd (fr (qAt ws o.at_.toNat)) ∧ kO o = fr (qAt ws o.at_.toNat) := by
  obtain ⟨i, hi⟩ := List.getElem?_of_mem ho
  obtain ⟨h1, h2, h3⟩ := h.2 i o hi
  have hlt := (List.getElem?_eq_some_iff.1 hi).1
  have e : o.at_.toNat = i := by omega
  rw [e]
  refine ⟨by omega, by rw [← h.1]; exact hlt, h2, h3, ?_⟩
  unfold kO; rw [h2, h3, rv_q (fr_nn _)]
theorem qAt_get {ws : List Rat} {i : Nat} {x : Rat} (h : ws[i]? = some x) : qAt ws i = x := by unfold qAt; rw [List.getD_eq_getElem?_getD, h]; rfl
theorem OsOk.onq {ws : List Rat} {os : List On} {m : Nat} (h : OsOk ws os) (hz : ∀ x ∈ ws, Sz m x) : ∀ o ∈ os, OnQ m o := fun o ho => by
  obtain ⟨h1, h2, h3, h4, h5⟩ := h.key ho
  obtain ⟨x, hx, hm⟩ := get_at h2
  rw [← h5] at h3 h4
  refine ⟨h3, h4, ?_⟩
  rw [h5, qAt_get hx]; exact sz_fr (hz x hm)
theorem sorted_ord {ws : List Rat} {os : List On} {m : Nat} (hm : m ≤ 200) (h : OsOk ws os) (hz : ∀ x ∈ ws, Sz m x) : Ord ws ((insO os.length os).map fun o => o.at_.toNat) := by
  have e := insO_isB hm (h.onq hz) os.length (Nat.le_refl _)
  rw [List.take_length, List.drop_length, List.append_nil] at e
  have hp := isB_perm os.length os rfl
  have hpw := isB_pw os.length os rfl (fun i j p q hij hi hj => by rw [(h.2 i p hi).1, (h.2 j q hj).1]; omega)
  rw [e]
  constructor
  · refine ((List.reverse_perm _).trans hp).map _ |>.trans ?_
    have : os.map (fun o => o.at_.toNat) = List.range ws.length := by
      apply List.ext_getElem?
      intro i
      rw [List.getElem?_map]
      rcases Nat.lt_or_ge i os.length with hi | hi
      · rw [List.getElem?_eq_getElem hi, List.getElem?_range (by rw [← h.1]; exact hi)]
        have := (h.2 i _ (List.getElem?_eq_getElem hi)).1
        show some (os[i].at_.toNat) = some i
        rw [this]; rfl
      · rw [List.getElem?_eq_none hi, List.getElem?_eq_none (by rw [List.length_range, ← h.1]; exact hi)]; rfl
    rw [this]
  · rw [List.pairwise_map, List.pairwise_reverse]
    refine hpw.imp_of_mem fun {p q} hp' hq' ha => ?_
    have kp := h.key (hp.mem_iff.1 hp')
    have kq := h.key (hp.mem_iff.1 hq')
    unfold aheadO at ha
    unfold ahd
    rw [← kp.2.2.2.2, ← kq.2.2.2.2]
    rcases ha with ha | ⟨ha, hb⟩
    · exact .inl ha
    · exact .inr ⟨ha, by have := kp.1; have := kq.1; omega⟩
/-! ### Sums -/
def sumQ (l : List Rat) : Rat := l.foldl (· + ·) 0
def sumI (l : List Int) : Int := l.foldl (· + ·) 0
theorem sumQ_snoc (l : List Rat) (x : Rat) : sumQ (l ++ [x]) = sumQ l + x := by unfold sumQ; rw [List.foldl_append]; rfl
theorem sumI_snoc (l : List Int) (x : Int) : sumI (l ++ [x]) = sumI l + x := by unfold sumI; rw [List.foldl_append]; rfl
theorem snoc_ind {α : Type} {P : List α → Prop} (h0 : P []) (h1 : ∀ l x, P l → P (l ++ [x])) : ∀ l, P l := by
  have : ∀ (n : Nat) (l : List α), l.length = n → P l := by
    intro n
    induction n with
    | zero => intro l h; rw [List.eq_nil_of_length_eq_zero h]; exact h0
    | succ n ih =>
      intro l h
      obtain ⟨x, hx, _⟩ := get_at (show n < l.length by omega)
      have e : l = l.take n ++ [x] := by rw [← take_snoc hx, List.take_of_length_le (by omega)]
      rw [e]
      exact h1 _ x (ih _ (by rw [List.length_take]; omega))
  exact fun l => this _ l rfl
def fls (ws : List Rat) : List Int := ws.map Rat.floor
def frs (ws : List Rat) : List Rat := ws.map fr
theorem sum_split : ∀ (ws : List Rat), sumQ ws = sumQ (frs ws) + ((sumI (fls ws) : Int) : Rat) := by
  refine snoc_ind (Rat.add_zero 0).symm (fun l x h => ?_)
  unfold frs fls at *
  rw [List.map_append, List.map_append, List.map_singleton, List.map_singleton, sumQ_snoc, sumQ_snoc, sumI_snoc, h, Rat.intCast_add]
  unfold fr; grind
theorem floor_split (ws : List Rat) : (sumQ ws).floor = (sumQ (frs ws)).floor + sumI (fls ws) := by
  rw [sum_split, Rat.floor_add_intCast]
theorem sumQ_nn : ∀ (l : List Rat), (∀ x ∈ l, 0 ≤ x) → 0 ≤ sumQ l := by
  refine snoc_ind (fun _ => Rat.le_refl) (fun l x h hx => ?_)
  rw [sumQ_snoc]
  have h1 := h (fun y hy => hx y (List.mem_append_left _ hy))
  have h2 := hx x (List.mem_append_right _ (List.mem_singleton_self _))
  grind
theorem frs_le : ∀ (ws : List Rat), sumQ (frs ws) ≤ ((ws.length : Int) : Rat) := by
  refine snoc_ind Rat.le_refl (fun l x h => ?_)
  unfold frs at *
  rw [List.map_append, List.map_singleton, sumQ_snoc, List.length_append, List.length_singleton, Int.natCast_add, Rat.intCast_add]
  have := fr_lt x
  have e : (((1 : Nat) : Int) : Rat) = 1 := rfl
  grind
/-- How many get one more. -/
def manyQ (ws : List Rat) : Nat := (sumQ (frs ws)).floor.toNat
theorem frs_nn (ws : List Rat) : 0 ≤ sumQ (frs ws) := sumQ_nn _ (fun x hx => by
  unfold frs at hx; obtain ⟨y, _, rfl⟩ := List.mem_map.1 hx; exact fr_nn y)
theorem manyQ_eq (ws : List Rat) : ((manyQ ws : Nat) : Int) = (sumQ (frs ws)).floor := by
  unfold manyQ; have := floor_nn (frs_nn ws); omega
theorem manyQ_le (ws : List Rat) : manyQ ws ≤ ws.length := by
  have h1 := Rat.floor_monotone (frs_le ws)
  rw [Rat.floor_intCast] at h1
  have := manyQ_eq ws; omega
theorem sumQ_sz {K : Nat} : ∀ (l : List Rat), (∀ x ∈ l, Sz K x) → Sz (l.length * (K + 1) + 1) (sumQ l) := by
  refine snoc_ind (fun _ => sz_0 _ (by omega)) (fun l x h hx => ?_)
  rw [sumQ_snoc, List.length_append, List.length_singleton]
  have h1 := sz_add (h (fun y hy => hx y (List.mem_append_left _ hy))) (hx x (List.mem_append_right _ (List.mem_singleton_self _)))
  exact h1.mono (by rw [Nat.add_mul]; omega)
/-! ### One more -/
def bump (F : List (List Int)) (k : Nat) : List (List Int) := F.set k (natL (val (F.getD k []) + 1))
def bumps (F : List (List Int)) (ks : List Nat) : List (List Int) := ks.foldl bump F
theorem bumps_snoc (F : List (List Int)) (ks : List Nat) (k : Nat) : bumps F (ks ++ [k]) = bump (bumps F ks) k := by unfold bumps; rw [List.foldl_append]; rfl
theorem bump_len (F : List (List Int)) (k : Nat) : (bump F k).length = F.length := List.length_set
theorem bumps_len (F : List (List Int)) (ks : List Nat) : (bumps F ks).length = F.length := by
  unfold bumps
  induction ks generalizing F with
  | nil => rfl
  | cons k r ih => rw [List.foldl_cons, ih, bump_len]
theorem bump_get (F : List (List Int)) (k i : Nat) : (bump F k)[i]? = if k = i then (F[i]?).map (fun f => natL (val f + 1)) else F[i]? := by
  unfold bump
  rw [List.getElem?_set]
  by_cases h : k = i
  · subst h
    rw [if_pos rfl, if_pos rfl]
    by_cases hk : k < F.length
    · rw [if_pos hk, List.getD_eq_getElem?_getD, List.getElem?_eq_getElem hk]; rfl
    · rw [if_neg hk, List.getElem?_eq_none (by omega)]; rfl
  · rw [if_neg h, if_neg h]
theorem bumps_get (F : List (List Int)) : ∀ (ks : List Nat), ks.Nodup → ∀ (i : Nat), (bumps F ks)[i]? = if i ∈ ks then (F[i]?).map (fun f => natL (val f + 1)) else F[i]? := by
  refine snoc_ind (fun _ i => by simp [bumps]) (fun ks k h hn i => ?_)
  have hn' := List.nodup_append.1 hn
  rw [bumps_snoc, bump_get, h hn'.1]
  by_cases hk : k = i
  · subst hk
    have hni : k ∉ ks := fun e => hn'.2.2 k e k (List.mem_singleton_self _) rfl
    rw [if_pos rfl, if_neg hni, if_pos (List.mem_append_right _ (List.mem_singleton_self _))]
  · rw [if_neg hk]
    by_cases hi : i ∈ ks
    · rw [if_pos hi, if_pos (List.mem_append_left _ hi)]
    · rw [if_neg hi, if_neg (fun e => by rcases List.mem_append.1 e with e | e; exact hi e; exact hk (List.mem_singleton.1 e).symm)]
def flL (ws : List Rat) : List (List Int) := ws.map fun x => natL x.floor
/-- What weights come to, as naturals. -/
def wholeQ (ws : List Rat) (o : List Nat) : List (List Int) := bumps (flL ws) (o.take (manyQ ws))
theorem wholeQ_len (ws : List Rat) (o : List Nat) : (wholeQ ws o).length = ws.length := by unfold wholeQ; rw [bumps_len]; simp [flL]
theorem ord_ex {m : Nat} (hm : m ≤ 200) (ws : List Rat) (hz : ∀ x ∈ ws, Sz m x) : ∃ o, Ord ws o := by
  refine ⟨_, sorted_ord hm (os := (List.range ws.length).map fun (i : Nat) => ⟨(i : Int), qn (fr (qAt ws i)), qd (fr (qAt ws i)), z0⟩) ⟨by simp, fun i o ho => ?_⟩ hz⟩
  rw [List.getElem?_map] at ho
  obtain ⟨j, hj, rfl⟩ := Option.map_eq_some_iff.1 ho
  have : j = i := by
    have := (List.getElem?_eq_some_iff.1 hj)
    obtain ⟨h1, h2⟩ := this
    rw [List.getElem_range] at h2; exact h2.symm
  subst this
  exact ⟨rfl, rfl, rfl⟩
end Go.Proofs.Wk
/- What layer 2 and its reference answer, of rational numbers. -/
namespace Go.Proofs.Wk
open Go.RowKit
set_option maxRecDepth 100000
set_option linter.unusedVariables false
set_option linter.unusedSimpArgs false
abbrev qt (x : Rat) (z : Z2) : Value := rt (qn x) (qd x) z
abbrev QW (x : Rat) (z : Z2) (W : World) : Prop := R2 (qn x) (qd x) z W
theorem ofN_1 : ofN 1 = [1] := by rw [ofN_natL (by omega) (by omega), natL_one]
section
variable {x y : Rat} {m n : Nat} (hx : Sz m x) (hy : Sz n y) (u v : Z2)
include hx hy
theorem qAdd_ct (h : m + n < 400) : Ct Try.prog 21 #[qt x u, qt y v] (fun W => QW x u W ∧ QW y v W) (fun z : Z2 => .tuple #[qt (x + y) z, .int .i64 0]) Tt (fun z => QW (x + y) z) := by
  have h1 := hx.ln; have h2 := hx.ld; have h3 := hy.ln; have h4 := hy.ld
  have hc := rat_Add_ct (qn x) (qd x) (qn y) (qd y) u v (qn_lm x) (qd_lm x) (qn_lm y) (qd_lm y) (by omega) (by omega) (by omega) (by omega)
  rwa [q_add hx hy h] at hc
theorem qSub_ct (h : m + n ≤ 400) (hle : y ≤ x) : Ct Try.prog 37 #[qt x u, qt y v] (fun W => QW x u W ∧ QW y v W) (fun z : Z2 => .tuple #[qt (x - y) z, .int .i64 0]) Tt (fun z => QW (x - y) z) := by
  have h1 := hx.ln; have h2 := hx.ld; have h3 := hy.ln; have h4 := hy.ld
  have hc := rat_Sub_ct (qn x) (qd x) (qn y) (qd y) u v (qn_lm x) (qd_lm x) (qn_lm y) (qd_lm y) (by omega) (by omega) (by omega) (by omega)
  rwa [q_sub hx hy h, if_neg (Rat.not_lt.2 hle)] at hc
end
theorem qFloor_ct {x : Rat} {n : Nat} (hx : Sz n x) (u : Z2) (h : n ≤ 400) : Ct Try.prog 23 #[qt x u] (QW x u) (fun z : Option Addr × Nat => .tuple #[sl (natL x.floor) z, .int .i64 0]) Tt (fun z => S1 (natL x.floor) z) := by
  have h1 := hx.ln; have h2 := hx.ld
  have hc := rat_Floor_ct (qn x) (qd x) u (qn_lm x) (qd_lm x) (by omega) (by omega)
  rwa [q_floor hx h] at hc
theorem qOf_ct {n : Int} (h : 0 ≤ n) (h' : n ≤ 18446744073709551615) : Ct Try.prog 18 #[.int .u64 n, .int .u64 1] (fun _ => True) (fun z : Z2 => .tuple #[qt (n : Rat) z, .int .i64 0]) Tt (fun z => QW (n : Rat) z) := by
  have hc := rat_Of_ct n 1
  rwa [q_of1 h h'] at hc
theorem qAddN_ct {a b : Int} (u v : Option Addr × Nat) (ha : 0 ≤ a) (hb : 0 ≤ b) {m : Nat} (la : a < pw m) (lb : b < pw m) (hm : m < 400) : Ct Try.prog 22 #[sl (natL a) u, sl (natL b) v] (fun W => S1 (natL a) u W ∧ S1 (natL b) v W) (fun z : Option Addr × Nat => .tuple #[sl (natL (a + b)) z, .int .i64 0]) Tt (fun z => S1 (natL (a + b)) z) := by
  have l1 := natL_len_le ha la; have l2 := natL_len_le hb lb
  have l3 := natL_len_le (show 0 ≤ a + b by omega) (add_lt_pw la lb)
  have hc := Add_ct (natL a) (natL b) u v (natL_fm a).1 (natL_fm b).1 (by omega) (by omega)
  rw [addS_bd (fmB_natL (by omega)) (fmB_natL (by omega)), val_natL ha, val_natL hb, bd_ok (by omega)] at hc
  exact hc
/-- A weight that is formed is a number's fraction. -/
def rq (s : Rt) : Rat := rv s.a s.b
theorem formed_ex {s : Rt} {K : Nat} (hw : RtW s) (hf : formedR s.a s.b = true) (ha : s.a.length ≤ K) (hb : s.b.length ≤ K) : ∃ (y : Rat) (z : Z2), s = ⟨qn y, qd y, z⟩ ∧ Sz K y ∧ rq s = y := by
  obtain ⟨h1, h2, _⟩ := formed_q hw.a hw.b hf
  refine ⟨rq s, s.z, ?_, formed_sz hw.a hw.b hf ha hb, rfl⟩
  obtain ⟨a, b, z⟩ := s
  dsimp only [rq] at h1 h2 ⊢
  rw [← h1, ← h2]
end Go.Proofs.Wk
/- Weights made whole: whole.Round walked. -/
namespace Go.Proofs.Wk
open Go.RowKit
set_option maxRecDepth 100000
set_option maxHeartbeats 4000000
attribute [local irreducible] Pw OpG
set_option linter.unusedVariables false
set_option linter.unusedSimpArgs false
theorem insNil_ct :
    Ct Try.prog 95 #[.slice none 0 0, .int .i64 0, .int .i64 0, .func (.func 39) #[] #[]] (fun _ => True) (fun _ : Unit => .tuple #[]) Tt (fun _ _ => True) := by
  refine Ct.start Try.func95 rfl rfl (slots_of rfl slots4) (fun D w0 => ?_)
  repeat (first | (with_reducible first | refine Pw.seq ?_ | refine Pw.region ?_ | refine Pw.nil ?_ | refine Pw.then_ ?_ | refine Pw.skip ?_ | refine Pw.block ?_ | refine Pw.exit ?_ | refine Pw.inX ?_ | refine Pw.inN ?_ | refine Pw.inR ?_ | refine Pw.thenX ?_ | refine Pw.thenR ?_ | refine Pw.ret ?_) | refine Pw.list (Pw.pure rfl rfl rfl ?_) | refine Pw.inY rfl ?_ | refine Pw.list (Pw.off rfl rfl ?_) | refine Pw.condT rfl ?_ | refine Pw.condF rfl ?_ | refine Pw.list (Pw.box rfl rfl rfl rfl (fun _ => ?_)) | refine Pw.list (Pw.alloc rfl rfl rfl rfl rfl (fun _ => ?_)) | refine Pw.list (Pw.build rfl rfl rfl rfl ?_) | refine Pw.list (Pw.ld rfl inferInstance rfl rfl rfl ?_) | refine Pw.list (Pw.sto rfl rfl inferInstance rfl rfl rfl rfl rfl inferInstance rfl ?_))
  refine Pw.re (d := 8) (v' := .int .i64 1) rfl (congrArg (Value.int .i64) (wi64 (by omega) (by omega))) ?_
  refine Pw.rounds 2 (Pw.round ?_)
  repeat (first | (with_reducible first | refine Pw.seq ?_ | refine Pw.region ?_ | refine Pw.nil ?_ | refine Pw.then_ ?_ | refine Pw.skip ?_ | refine Pw.block ?_ | refine Pw.exit ?_ | refine Pw.inX ?_ | refine Pw.inN ?_ | refine Pw.inR ?_ | refine Pw.thenX ?_ | refine Pw.thenR ?_ | refine Pw.ret ?_) | refine Pw.list (Pw.pure rfl rfl rfl ?_) | refine Pw.inY rfl ?_ | refine Pw.list (Pw.off rfl rfl ?_) | refine Pw.condT rfl ?_ | refine Pw.condF rfl ?_ | refine Pw.list (Pw.box rfl rfl rfl rfl (fun _ => ?_)) | refine Pw.list (Pw.alloc rfl rfl rfl rfl rfl (fun _ => ?_)) | refine Pw.list (Pw.build rfl rfl rfl rfl ?_) | refine Pw.list (Pw.ld rfl inferInstance rfl rfl rfl ?_) | refine Pw.list (Pw.sto rfl rfl inferInstance rfl rfl rfl rfl rfl inferInstance rfl ?_))
  exact Pw.retN (x := ()) .nil rfl trivial (fun w h => by trivial)
theorem stableNil_ct :
    Ct Try.prog 74 #[.slice none 0 0, .int .i64 0, .func (.func 39) #[] #[]] (fun _ => True) (fun _ : Unit => .tuple #[]) Tt (fun _ _ => True) := by
  refine Ct.start Try.func74 rfl rfl (slots_of rfl slots3) (fun D w0 => ?_)
  repeat (first | (with_reducible first | refine Pw.seq ?_ | refine Pw.region ?_ | refine Pw.nil ?_ | refine Pw.then_ ?_ | refine Pw.skip ?_ | refine Pw.block ?_ | refine Pw.exit ?_ | refine Pw.inX ?_ | refine Pw.inN ?_ | refine Pw.inR ?_ | refine Pw.thenX ?_ | refine Pw.thenR ?_ | refine Pw.ret ?_) | refine Pw.list (Pw.pure rfl rfl rfl ?_) | refine Pw.inY rfl ?_ | refine Pw.list (Pw.off rfl rfl ?_) | refine Pw.condT rfl ?_ | refine Pw.condF rfl ?_ | refine Pw.list (Pw.box rfl rfl rfl rfl (fun _ => ?_)) | refine Pw.list (Pw.alloc rfl rfl rfl rfl rfl (fun _ => ?_)) | refine Pw.list (Pw.build rfl rfl rfl rfl ?_) | refine Pw.list (Pw.ld rfl inferInstance rfl rfl rfl ?_) | refine Pw.list (Pw.sto rfl rfl inferInstance rfl rfl rfl rfl rfl inferInstance rfl ?_))
  refine Pw.rounds 3 (Pw.round ?_)
  repeat (first | (with_reducible first | refine Pw.seq ?_ | refine Pw.region ?_ | refine Pw.nil ?_ | refine Pw.then_ ?_ | refine Pw.skip ?_ | refine Pw.block ?_ | refine Pw.exit ?_ | refine Pw.inX ?_ | refine Pw.inN ?_ | refine Pw.inR ?_ | refine Pw.thenX ?_ | refine Pw.thenR ?_ | refine Pw.ret ?_) | refine Pw.list (Pw.pure rfl rfl rfl ?_) | refine Pw.inY rfl ?_ | refine Pw.list (Pw.off rfl rfl ?_) | refine Pw.condT rfl ?_ | refine Pw.condF rfl ?_ | refine Pw.list (Pw.box rfl rfl rfl rfl (fun _ => ?_)) | refine Pw.list (Pw.alloc rfl rfl rfl rfl rfl (fun _ => ?_)) | refine Pw.list (Pw.build rfl rfl rfl rfl ?_) | refine Pw.list (Pw.ld rfl inferInstance rfl rfl rfl ?_) | refine Pw.list (Pw.sto rfl rfl inferInstance rfl rfl rfl rfl rfl inferInstance rfl ?_))
  refine Pw.list (Pw.call insNil_ct rfl rfl rfl (by kernel_rfl) rfl rfl (fun w h => trivial) ?_)
  intro _ _
  repeat (first | (with_reducible first | refine Pw.seq ?_ | refine Pw.region ?_ | refine Pw.nil ?_ | refine Pw.then_ ?_ | refine Pw.skip ?_ | refine Pw.block ?_ | refine Pw.exit ?_ | refine Pw.inX ?_ | refine Pw.inN ?_ | refine Pw.inR ?_ | refine Pw.thenX ?_ | refine Pw.thenR ?_ | refine Pw.ret ?_) | refine Pw.list (Pw.pure rfl rfl rfl ?_) | refine Pw.inY rfl ?_ | refine Pw.list (Pw.off rfl rfl ?_) | refine Pw.condT rfl ?_ | refine Pw.condF rfl ?_ | refine Pw.list (Pw.box rfl rfl rfl rfl (fun _ => ?_)) | refine Pw.list (Pw.alloc rfl rfl rfl rfl rfl (fun _ => ?_)) | refine Pw.list (Pw.build rfl rfl rfl rfl ?_) | refine Pw.list (Pw.ld rfl inferInstance rfl rfl rfl ?_) | refine Pw.list (Pw.sto rfl rfl inferInstance rfl rfl rfl rfl rfl inferInstance rfl ?_))
  refine Pw.rounds 2 (Pw.round ?_)
  repeat (first | (with_reducible first | refine Pw.seq ?_ | refine Pw.region ?_ | refine Pw.nil ?_ | refine Pw.then_ ?_ | refine Pw.skip ?_ | refine Pw.block ?_ | refine Pw.exit ?_ | refine Pw.inX ?_ | refine Pw.inN ?_ | refine Pw.inR ?_ | refine Pw.thenX ?_ | refine Pw.thenR ?_ | refine Pw.ret ?_) | refine Pw.list (Pw.pure rfl rfl rfl ?_) | refine Pw.inY rfl ?_ | refine Pw.list (Pw.off rfl rfl ?_) | refine Pw.condT rfl ?_ | refine Pw.condF rfl ?_ | refine Pw.list (Pw.box rfl rfl rfl rfl (fun _ => ?_)) | refine Pw.list (Pw.alloc rfl rfl rfl rfl rfl (fun _ => ?_)) | refine Pw.list (Pw.build rfl rfl rfl rfl ?_) | refine Pw.list (Pw.ld rfl inferInstance rfl rfl rfl ?_) | refine Pw.list (Pw.sto rfl rfl inferInstance rfl rfl rfl rfl rfl inferInstance rfl ?_))
  exact Pw.retN (x := ()) .nil rfl trivial (fun w h => by trivial)
theorem SortNil_ct :
    Ct Try.prog 38 #[.slice none 0 0, .func (.func 39) #[] #[]] (fun _ => True) (fun _ : Unit => .tuple #[]) Tt (fun _ _ => True) := by
  refine Ct.start Try.func38 rfl rfl (slots_of rfl slots2) (fun D w0 => ?_)
  repeat (first | (with_reducible first | refine Pw.seq ?_ | refine Pw.region ?_ | refine Pw.nil ?_ | refine Pw.then_ ?_ | refine Pw.skip ?_ | refine Pw.block ?_ | refine Pw.exit ?_ | refine Pw.inX ?_ | refine Pw.inN ?_ | refine Pw.inR ?_ | refine Pw.thenX ?_ | refine Pw.thenR ?_ | refine Pw.ret ?_) | refine Pw.list (Pw.pure rfl rfl rfl ?_) | refine Pw.inY rfl ?_ | refine Pw.list (Pw.off rfl rfl ?_) | refine Pw.condT rfl ?_ | refine Pw.condF rfl ?_ | refine Pw.list (Pw.box rfl rfl rfl rfl (fun _ => ?_)) | refine Pw.list (Pw.alloc rfl rfl rfl rfl rfl (fun _ => ?_)) | refine Pw.list (Pw.build rfl rfl rfl rfl ?_) | refine Pw.list (Pw.ld rfl inferInstance rfl rfl rfl ?_) | refine Pw.list (Pw.sto rfl rfl inferInstance rfl rfl rfl rfl rfl inferInstance rfl ?_))
  refine Pw.list (Pw.call stableNil_ct rfl rfl rfl (by kernel_rfl) rfl rfl (fun w h => trivial) ?_)
  intro _ _
  repeat (first | (with_reducible first | refine Pw.seq ?_ | refine Pw.region ?_ | refine Pw.nil ?_ | refine Pw.then_ ?_ | refine Pw.skip ?_ | refine Pw.block ?_ | refine Pw.exit ?_ | refine Pw.inX ?_ | refine Pw.inN ?_ | refine Pw.inR ?_ | refine Pw.thenX ?_ | refine Pw.thenR ?_ | refine Pw.ret ?_) | refine Pw.list (Pw.pure rfl rfl rfl ?_) | refine Pw.inY rfl ?_ | refine Pw.list (Pw.off rfl rfl ?_) | refine Pw.condT rfl ?_ | refine Pw.condF rfl ?_ | refine Pw.list (Pw.box rfl rfl rfl rfl (fun _ => ?_)) | refine Pw.list (Pw.alloc rfl rfl rfl rfl rfl (fun _ => ?_)) | refine Pw.list (Pw.build rfl rfl rfl rfl ?_) | refine Pw.list (Pw.ld rfl inferInstance rfl rfl rfl ?_) | refine Pw.list (Pw.sto rfl rfl inferInstance rfl rfl rfl rfl rfl inferInstance rfl ?_))
  exact Pw.retN (x := ()) .nil rfl trivial (fun w h => by trivial)
end Go.Proofs.Wk
