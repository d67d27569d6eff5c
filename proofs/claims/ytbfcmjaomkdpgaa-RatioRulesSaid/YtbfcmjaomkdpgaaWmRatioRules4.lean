/- Walks and their mathematics, merged. No conditions beyond those written. -/
import Derived.Test.YtbfcmjaomkdpgaaWmRatioRules3
/- Walks of layer 2: adding, subtracting, the lesser one. -/
namespace Go.Proofs.Wk
open Go.RowKit
set_option maxRecDepth 100000
attribute [local irreducible] Pw OpG
set_option linter.unusedVariables false
set_option linter.unusedSimpArgs false
def err3 (x y z : Int) : Int := if (if x = 0 then y else x) = 0 then z else (if x = 0 then y else x)
def joinS (S : List Int → List Int → List Int × Int) (a b c d : List Int) : List Int × List Int × Int := if (formedR a b && formedR c d) = true then endS (err3 (mulS a d).2 (mulS c b).2 (mulS b d).2) (S (mulS a d).1 (mulS c b).1).2 (S (mulS a d).1 (mulS c b).1).1 (mulS b d).1 else ([], [], 1)
theorem join_ct (S : List Int → List Int → List Int × Int) (f : FuncId) (hS : ∀ u v x y, Lm u → Lm v → u.length < 1048576 → v.length < 1048576 → Ct Try.prog f #[sl u x, sl v y] (fun W => S1 u x W ∧ S1 v y W) (fun z : Option Addr × Nat => .tuple #[sl (S u v).1 z, .int .i64 (S u v).2]) Tt (fun z => S1 (S u v).1 z)) (hf : callB Try.prog f = true) (hlm : ∀ u v, Lm u → Lm v → Fm (S u v).1 ∧ (u.length ≤ 400 → v.length ≤ 400 → (S u v).1.length < 1048576))
    (a b c d : List Int) (y z : Z2) (ha : Lm a) (hb : Lm b) (hc : Lm c) (hd : Lm d) (la : a.length < 1048576) (lb : b.length < 1048576) (lc : c.length < 1048576) (ld : d.length < 1048576) :
    Ct Try.prog 80 #[rt a b y, rt c d z, .func (.func f) #[] #[]] (fun W => R2 a b y W ∧ R2 c d z W) (fun x : Z2 => .tuple #[rt (joinS S a b c d).1 (joinS S a b c d).2.1 x, .int .i64 (joinS S a b c d).2.2]) Tt (fun x => R2 (joinS S a b c d).1 (joinS S a b c d).2.1 x) := by
  refine Ct.start Try.func80 rfl rfl (slots_of rfl slots3) (fun D w0 => Pw.facts two2 ?_)
  unfold joinS
  repeat (first | (with_reducible first | refine Pw.seq ?_ | refine Pw.region ?_ | refine Pw.nil ?_ | refine Pw.then_ ?_ | refine Pw.skip ?_ | refine Pw.block ?_ | refine Pw.exit ?_ | refine Pw.inX ?_ | refine Pw.inN ?_ | refine Pw.inR ?_ | refine Pw.thenX ?_ | refine Pw.thenR ?_ | refine Pw.ret ?_) | refine Pw.list (Pw.pure rfl rfl rfl ?_) | refine Pw.inY rfl ?_ | refine Pw.list (Pw.off rfl rfl ?_) | refine Pw.condT rfl ?_ | refine Pw.condF rfl ?_ | refine Pw.list (Pw.box rfl rfl rfl rfl (fun _ => freeHead ?_)) | refine Pw.list (Pw.alloc rfl rfl rfl rfl rfl (fun _ => ?_)) | refine Pw.list (Pw.build rfl rfl rfl rfl ?_) | refine Pw.list (Pw.ld rfl inferInstance rfl rfl rfl ?_) | refine Pw.list (Pw.sto rfl rfl inferInstance rfl rfl rfl rfl rfl inferInstance rfl ?_))
  refine Pw.list (Pw.call (rat_formed_ct a b c d y z ha hb hc hd la lb lc ld) rfl rfl rfl (by kernel_rfl) rfl rfl (fun w h => ⟨(hv w h), (hv w h)⟩) ?_)
  intro _ _
  generalize (formedR a b && formedR c d) = t
  cases t
  · rw [if_neg (by simp)]
    repeat (first | (with_reducible first | refine Pw.seq ?_ | refine Pw.region ?_ | refine Pw.nil ?_ | refine Pw.then_ ?_ | refine Pw.skip ?_ | refine Pw.block ?_ | refine Pw.exit ?_ | refine Pw.inX ?_ | refine Pw.inN ?_ | refine Pw.inR ?_ | refine Pw.thenX ?_ | refine Pw.thenR ?_ | refine Pw.ret ?_) | refine Pw.list (Pw.pure rfl rfl rfl ?_) | refine Pw.inY rfl ?_ | refine Pw.list (Pw.off rfl rfl ?_) | refine Pw.condT rfl ?_ | refine Pw.condF rfl ?_ | refine Pw.list (Pw.box rfl rfl rfl rfl (fun _ => ?_)) | refine Pw.list (Pw.alloc rfl rfl rfl rfl rfl (fun _ => ?_)) | refine Pw.list (Pw.build rfl rfl rfl rfl ?_) | refine Pw.list (Pw.ld rfl inferInstance rfl rfl rfl ?_) | refine Pw.list (Pw.sto rfl rfl inferInstance rfl rfl rfl rfl rfl inferInstance rfl ?_))
    exact Pw.ret_ (x := z0) (.cell rfl (fun w hs => hs.own _ (.head _)) rfl (.tmp rfl .nil)) rfl trivial (fun w h => R2.nil w)
  rw [if_pos rfl]
  have m1 := @mulS_lm a d
  have m2 := @mulS_lm c b
  have m3 := @mulS_lm b d
  repeat (first | (with_reducible first | refine Pw.seq ?_ | refine Pw.region ?_ | refine Pw.nil ?_ | refine Pw.then_ ?_ | refine Pw.skip ?_ | refine Pw.block ?_ | refine Pw.exit ?_ | refine Pw.inX ?_ | refine Pw.inN ?_ | refine Pw.inR ?_ | refine Pw.thenX ?_ | refine Pw.thenR ?_ | refine Pw.ret ?_) | refine Pw.list (Pw.pure rfl rfl rfl ?_) | refine Pw.inY rfl ?_ | refine Pw.list (Pw.off rfl rfl ?_) | refine Pw.condT rfl ?_ | refine Pw.condF rfl ?_ | refine Pw.list (Pw.box rfl rfl rfl rfl (fun _ => ?_)) | refine Pw.list (Pw.alloc rfl rfl rfl rfl rfl (fun _ => ?_)) | refine Pw.list (Pw.build rfl rfl rfl rfl ?_) | refine Pw.list (Pw.ld rfl inferInstance rfl rfl rfl ?_) | refine Pw.list (Pw.sto rfl rfl inferInstance rfl rfl rfl rfl rfl inferInstance rfl ?_))
  refine Pw.drawnG mixed rfl rfl ?_
  refine Pw.takeP 0 (nb 21 1) rfl rfl rfl rfl (by kernel_rfl) np sf ?_
  refine Pw.takeP 1 (nb 21 3) rfl rfl rfl rfl (by kernel_rfl) np sf ?_
  refine Pw.takeF 2 (nb 21 7) rfl rfl inferInstance rfl rfl rfl (by kernel_rfl) np sf ?_
  refine Pw.takeP 3 (nb 21 15) rfl rfl rfl rfl (by kernel_rfl) np sf ?_
  refine Pw.takeF 4 (nb 21 31) rfl rfl inferInstance rfl rfl rfl (by kernel_rfl) np sf ?_
  refine Pw.takeP 6 (nb 21 95) rfl rfl rfl rfl (by kernel_rfl) np sf ?_
  refine Pw.takeP 7 (nb 21 223) rfl rfl rfl rfl (by kernel_rfl) np sf ?_
  refine Pw.takeF 8 (nb 21 479) rfl rfl inferInstance rfl rfl rfl (by kernel_rfl) np sf ?_
  refine Pw.takeP 9 (nb 21 991) rfl rfl rfl rfl (by kernel_rfl) np sf ?_
  refine Pw.takeF 10 (nb 21 2015) rfl rfl inferInstance rfl rfl rfl (by kernel_rfl) np sf ?_
  refine Pw.takeP 12 (nb 21 6111) rfl rfl rfl rfl (by kernel_rfl) np sf ?_
  refine Pw.takeP 13 (nb 21 14303) rfl rfl rfl rfl (by kernel_rfl) np sf ?_
  refine Pw.takeF 14 (nb 21 30687) rfl rfl inferInstance rfl rfl rfl (by kernel_rfl) np sf ?_
  refine Pw.takeP 15 (nb 21 63455) rfl rfl rfl rfl (by kernel_rfl) np sf ?_
  refine Pw.takeF 16 (nb 21 128991) rfl rfl inferInstance rfl rfl rfl (by kernel_rfl) np sf ?_
  refine Pw.one 5 (nb 21 129023) rfl (by kernel_rfl) ?_
  -- call Op.call { callee := Callee.value (Operand.func 74), args := #[Operand.tmp 21, Operand.tmp 23, Operand.tmp 25], argTypes := #[108, 41, 41] }
  refine Pw.call1 (mk_mul0_ct a d y.1 z.2 _ ha hd la ld) rfl rfl rfl (by kernel_rfl) rfl rfl (fun w h => ⟨(hv w h), (hv w h)⟩) (.head _) (fun _ => .head) ?_
  intro x1 _
  refine Pw.held sf ?_
  refine Pw.one 11 (nb 21 131071) rfl (by kernel_rfl) ?_
  -- call Op.call { callee := Callee.value (Operand.func 74), args := #[Operand.tmp 27, Operand.tmp 29, Operand.tmp 31], argTypes := #[108, 41, 41] }
  refine Pw.call1 (mk_mul_ct c b z.1 y.2 _ _ hc hb lc lb) rfl rfl rfl (by kernel_rfl) rfl rfl (fun w h => ⟨(hv w h), (hv w h)⟩) (.head _) (fun _ => .head) ?_
  intro x2 _
  refine Pw.held sf ?_
  refine Pw.one 17 (nb 21 262143) rfl (by kernel_rfl) ?_
  -- call Op.call { callee := Callee.value (Operand.func 74), args := #[Operand.tmp 33, Operand.tmp 35, Operand.tmp 37], argTypes := #[108, 41, 41] }
  refine Pw.call1 (mk_mul_ct b d y.2 z.2 _ _ hb hd lb ld) rfl rfl rfl (by kernel_rfl) rfl rfl (fun w h => ⟨(hv w h), (hv w h)⟩) (.head _) (fun _ => .head) ?_
  intro x3 _
  refine Pw.held sf ?_
  refine Pw.takeP 18 (nb 21 524287) rfl rfl rfl rfl (by kernel_rfl) np sf ?_
  refine Pw.takeP 19 (nb 21 1048575) rfl rfl rfl rfl (by kernel_rfl) np sf ?_
  refine Pw.takeP 20 (nb 21 2097151) rfl rfl rfl rfl (by kernel_rfl) np sf ?_
  refine Pw.done (by kernel_rfl) ?_
  repeat (first | (with_reducible first | refine Pw.seq ?_ | refine Pw.region ?_ | refine Pw.nil ?_ | refine Pw.then_ ?_ | refine Pw.skip ?_ | refine Pw.block ?_ | refine Pw.exit ?_ | refine Pw.inX ?_ | refine Pw.inN ?_ | refine Pw.inR ?_ | refine Pw.thenX ?_ | refine Pw.thenR ?_ | refine Pw.ret ?_) | refine Pw.list (Pw.pure rfl rfl rfl ?_) | refine Pw.inY rfl ?_ | refine Pw.list (Pw.off rfl rfl ?_) | refine Pw.condT rfl ?_ | refine Pw.condF rfl ?_ | refine Pw.list (Pw.box rfl rfl rfl rfl (fun _ => ?_)) | refine Pw.list (Pw.alloc rfl rfl rfl rfl rfl (fun _ => ?_)) | refine Pw.list (Pw.build rfl rfl rfl rfl ?_) | refine Pw.list (Pw.ld rfl inferInstance rfl rfl rfl ?_) | refine Pw.list (Pw.sto rfl rfl inferInstance rfl rfl rfl rfl rfl inferInstance rfl ?_))
  refine Pw.list (Pw.call (hS (mulS a d).1 (mulS c b).1 x1 x2 m1.1.1 m2.1.1 (by omega) (by omega)) rfl rfl rfl hf rfl rfl (fun w h => ⟨(hv w h), (hv w h)⟩) ?_)
  intro x4 _
  obtain ⟨n1, n2⟩ := hlm (mulS a d).1 (mulS c b).1 m1.1.1 m2.1.1
  repeat (first | (with_reducible first | refine Pw.seq ?_ | refine Pw.region ?_ | refine Pw.nil ?_ | refine Pw.then_ ?_ | refine Pw.skip ?_ | refine Pw.block ?_ | refine Pw.exit ?_ | refine Pw.inX ?_ | refine Pw.inN ?_ | refine Pw.inR ?_ | refine Pw.thenX ?_ | refine Pw.thenR ?_ | refine Pw.ret ?_) | refine Pw.list (Pw.pure rfl rfl rfl ?_) | refine Pw.inY rfl ?_ | refine Pw.list (Pw.off rfl rfl ?_) | refine Pw.condT rfl ?_ | refine Pw.condF rfl ?_ | refine Pw.list (Pw.box rfl rfl rfl rfl (fun _ => ?_)) | refine Pw.list (Pw.alloc rfl rfl rfl rfl rfl (fun _ => ?_)) | refine Pw.list (Pw.build rfl rfl rfl rfl ?_) | refine Pw.list (Pw.ld rfl inferInstance rfl rfl rfl ?_) | refine Pw.list (Pw.sto rfl rfl inferInstance rfl rfl rfl rfl rfl inferInstance rfl ?_))
  refine freeHead ?_
  refine Pw.list (Pw.call (mk_end_ct (S (mulS a d).1 (mulS c b).1).1 (mulS b d).1 x4 x3 _ _ (S (mulS a d).1 (mulS c b).1).2 n1.1 m3.1.1 (n2 m1.2 m2.2) (by omega)) rfl rfl rfl (by kernel_rfl) rfl rfl (fun w h => ⟨fact0 h, (hv w h), (hv w h)⟩) ?_)
  intro x5 _
  repeat (first | (with_reducible first | refine Pw.seq ?_ | refine Pw.region ?_ | refine Pw.nil ?_ | refine Pw.then_ ?_ | refine Pw.skip ?_ | refine Pw.block ?_ | refine Pw.exit ?_ | refine Pw.inX ?_ | refine Pw.inN ?_ | refine Pw.inR ?_ | refine Pw.thenX ?_ | refine Pw.thenR ?_ | refine Pw.ret ?_) | refine Pw.list (Pw.pure rfl rfl rfl ?_) | refine Pw.inY rfl ?_ | refine Pw.list (Pw.off rfl rfl ?_) | refine Pw.condT rfl ?_ | refine Pw.condF rfl ?_ | refine Pw.list (Pw.box rfl rfl rfl rfl (fun _ => ?_)) | refine Pw.list (Pw.alloc rfl rfl rfl rfl rfl (fun _ => ?_)) | refine Pw.list (Pw.build rfl rfl rfl rfl ?_) | refine Pw.list (Pw.ld rfl inferInstance rfl rfl rfl ?_) | refine Pw.list (Pw.sto rfl rfl inferInstance rfl rfl rfl rfl rfl inferInstance rfl ?_))
  exact Pw.ret_ (x := x5) (.cell rfl (fun w hs => hs.own _ (.head _)) rfl (.tmp rfl .nil)) rfl trivial (fun w h => fact0 h)
theorem fm_nil : Fm [] := by rw [← natL_zero]; exact natL_fm 0
theorem addS_lm (a b : List Int) (ha : Lm a) (hb : Lm b) : Fm (addS a b).1 ∧ (a.length ≤ 400 → b.length ≤ 400 → (addS a b).1.length < 1048576) := by
  unfold addS
  split
  · unfold fitN
    split
    next h => exact ⟨natL_fm _, fun _ _ => by show (natL _).length < _; omega⟩
    next h => exact ⟨fm_nil, fun _ _ => by simp⟩
  · exact ⟨fm_nil, fun _ _ => by simp⟩
theorem subS_lm (a b : List Int) (ha : Lm a) (hb : Lm b) : Fm (subS a b).1 ∧ (a.length ≤ 400 → b.length ≤ 400 → (subS a b).1.length < 1048576) := by
  unfold subS
  split
  next h =>
    split
    next h1 => exact ⟨fm_nil, fun _ _ => by simp⟩
    next h1 =>
      refine ⟨natL_fm _, fun h2 h3 => ?_⟩
      show (natL _).length < _
      have v1 := val_lt_pw ha
      have v2 := val_nonneg hb
      have := natL_len_le (n := a.length) (show 0 ≤ val a - val b by omega) (by omega)
      omega
  · exact ⟨fm_nil, fun _ _ => by simp⟩
theorem rat_Add_ct (a b c d : List Int) (y z : Z2) (ha : Lm a) (hb : Lm b) (hc : Lm c) (hd : Lm d) (la : a.length < 1048576) (lb : b.length < 1048576) (lc : c.length < 1048576) (ld : d.length < 1048576) :
    Ct Try.prog 38 #[rt a b y, rt c d z] (fun W => R2 a b y W ∧ R2 c d z W) (fun x : Z2 => .tuple #[rt (joinS addS a b c d).1 (joinS addS a b c d).2.1 x, .int .i64 (joinS addS a b c d).2.2]) Tt (fun x => R2 (joinS addS a b c d).1 (joinS addS a b c d).2.1 x) := by
  refine Ct.start Try.func38 rfl rfl (slots_of rfl slots2) (fun D w0 => Pw.facts two2 ?_)
  repeat (first | (with_reducible first | refine Pw.seq ?_ | refine Pw.region ?_ | refine Pw.nil ?_ | refine Pw.then_ ?_ | refine Pw.skip ?_ | refine Pw.block ?_ | refine Pw.exit ?_ | refine Pw.inX ?_ | refine Pw.inN ?_ | refine Pw.inR ?_ | refine Pw.thenX ?_ | refine Pw.thenR ?_ | refine Pw.ret ?_) | refine Pw.list (Pw.pure rfl rfl rfl ?_) | refine Pw.inY rfl ?_ | refine Pw.list (Pw.off rfl rfl ?_) | refine Pw.condT rfl ?_ | refine Pw.condF rfl ?_ | refine Pw.list (Pw.box rfl rfl rfl rfl (fun _ => freeHead ?_)) | refine Pw.list (Pw.alloc rfl rfl rfl rfl rfl (fun _ => ?_)) | refine Pw.list (Pw.build rfl rfl rfl rfl ?_) | refine Pw.list (Pw.ld rfl inferInstance rfl rfl rfl ?_) | refine Pw.list (Pw.sto rfl rfl inferInstance rfl rfl rfl rfl rfl inferInstance rfl ?_))
  refine Pw.list (Pw.call (join_ct addS 81 (fun u v x y hu hv lu lv => Add_ct u v x y hu hv lu lv) (by kernel_rfl) addS_lm a b c d y z ha hb hc hd la lb lc ld) rfl rfl rfl (by kernel_rfl) rfl rfl (fun w h => ⟨(hv w h), (hv w h)⟩) ?_)
  intro x _
  repeat (first | (with_reducible first | refine Pw.seq ?_ | refine Pw.region ?_ | refine Pw.nil ?_ | refine Pw.then_ ?_ | refine Pw.skip ?_ | refine Pw.block ?_ | refine Pw.exit ?_ | refine Pw.inX ?_ | refine Pw.inN ?_ | refine Pw.inR ?_ | refine Pw.thenX ?_ | refine Pw.thenR ?_ | refine Pw.ret ?_) | refine Pw.list (Pw.pure rfl rfl rfl ?_) | refine Pw.inY rfl ?_ | refine Pw.list (Pw.off rfl rfl ?_) | refine Pw.condT rfl ?_ | refine Pw.condF rfl ?_ | refine Pw.list (Pw.box rfl rfl rfl rfl (fun _ => ?_)) | refine Pw.list (Pw.alloc rfl rfl rfl rfl rfl (fun _ => ?_)) | refine Pw.list (Pw.build rfl rfl rfl rfl ?_) | refine Pw.list (Pw.ld rfl inferInstance rfl rfl rfl ?_) | refine Pw.list (Pw.sto rfl rfl inferInstance rfl rfl rfl rfl rfl inferInstance rfl ?_))
  exact Pw.ret_ (x := x) (.cell rfl (fun w hs => hs.own _ (.head _)) rfl (.tmp rfl .nil)) rfl trivial (fun w h => fact0 h)
theorem rat_Sub_ct (a b c d : List Int) (y z : Z2) (ha : Lm a) (hb : Lm b) (hc : Lm c) (hd : Lm d) (la : a.length < 1048576) (lb : b.length < 1048576) (lc : c.length < 1048576) (ld : d.length < 1048576) :
    Ct Try.prog 41 #[rt a b y, rt c d z] (fun W => R2 a b y W ∧ R2 c d z W) (fun x : Z2 => .tuple #[rt (joinS subS a b c d).1 (joinS subS a b c d).2.1 x, .int .i64 (joinS subS a b c d).2.2]) Tt (fun x => R2 (joinS subS a b c d).1 (joinS subS a b c d).2.1 x) := by
  refine Ct.start Try.func41 rfl rfl (slots_of rfl slots2) (fun D w0 => Pw.facts two2 ?_)
  repeat (first | (with_reducible first | refine Pw.seq ?_ | refine Pw.region ?_ | refine Pw.nil ?_ | refine Pw.then_ ?_ | refine Pw.skip ?_ | refine Pw.block ?_ | refine Pw.exit ?_ | refine Pw.inX ?_ | refine Pw.inN ?_ | refine Pw.inR ?_ | refine Pw.thenX ?_ | refine Pw.thenR ?_ | refine Pw.ret ?_) | refine Pw.list (Pw.pure rfl rfl rfl ?_) | refine Pw.inY rfl ?_ | refine Pw.list (Pw.off rfl rfl ?_) | refine Pw.condT rfl ?_ | refine Pw.condF rfl ?_ | refine Pw.list (Pw.box rfl rfl rfl rfl (fun _ => freeHead ?_)) | refine Pw.list (Pw.alloc rfl rfl rfl rfl rfl (fun _ => ?_)) | refine Pw.list (Pw.build rfl rfl rfl rfl ?_) | refine Pw.list (Pw.ld rfl inferInstance rfl rfl rfl ?_) | refine Pw.list (Pw.sto rfl rfl inferInstance rfl rfl rfl rfl rfl inferInstance rfl ?_))
  refine Pw.list (Pw.call (join_ct subS 85 (fun u v x y hu hv lu lv => Sub_ct u v x y hu hv lu lv) (by kernel_rfl) subS_lm a b c d y z ha hb hc hd la lb lc ld) rfl rfl rfl (by kernel_rfl) rfl rfl (fun w h => ⟨(hv w h), (hv w h)⟩) ?_)
  intro x _
  repeat (first | (with_reducible first | refine Pw.seq ?_ | refine Pw.region ?_ | refine Pw.nil ?_ | refine Pw.then_ ?_ | refine Pw.skip ?_ | refine Pw.block ?_ | refine Pw.exit ?_ | refine Pw.inX ?_ | refine Pw.inN ?_ | refine Pw.inR ?_ | refine Pw.thenX ?_ | refine Pw.thenR ?_ | refine Pw.ret ?_) | refine Pw.list (Pw.pure rfl rfl rfl ?_) | refine Pw.inY rfl ?_ | refine Pw.list (Pw.off rfl rfl ?_) | refine Pw.condT rfl ?_ | refine Pw.condF rfl ?_ | refine Pw.list (Pw.box rfl rfl rfl rfl (fun _ => ?_)) | refine Pw.list (Pw.alloc rfl rfl rfl rfl rfl (fun _ => ?_)) | refine Pw.list (Pw.build rfl rfl rfl rfl ?_) | refine Pw.list (Pw.ld rfl inferInstance rfl rfl rfl ?_) | refine Pw.list (Pw.sto rfl rfl inferInstance rfl rfl rfl rfl rfl inferInstance rfl ?_))
  exact Pw.ret_ (x := x) (.cell rfl (fun w hs => hs.own _ (.head _)) rfl (.tmp rfl .nil)) rfl trivial (fun w h => fact0 h)
def rminS (a b c d : List Int) : List Int × List Int × Int := if (formedR a b && formedR c d) = true then (if rcmpS c d a b < 0 then (c, d, 0) else (a, b, 0)) else ([], [], 1)
theorem rat_Min_ct (a b c d : List Int) (y z : Z2) (ha : Lm a) (hb : Lm b) (hc : Lm c) (hd : Lm d) (la : a.length < 1048576) (lb : b.length < 1048576) (lc : c.length < 1048576) (ld : d.length < 1048576) :
    Ct Try.prog 43 #[rt a b y, rt c d z] (fun W => R2 a b y W ∧ R2 c d z W) (fun x : Z2 => .tuple #[rt (rminS a b c d).1 (rminS a b c d).2.1 x, .int .i64 (rminS a b c d).2.2]) Tt (fun x => R2 (rminS a b c d).1 (rminS a b c d).2.1 x) := by
  refine Ct.start Try.func43 rfl rfl (slots_of rfl slots2) (fun D w0 => Pw.facts two2 ?_)
  unfold rminS
  repeat (first | (with_reducible first | refine Pw.seq ?_ | refine Pw.region ?_ | refine Pw.nil ?_ | refine Pw.then_ ?_ | refine Pw.skip ?_ | refine Pw.block ?_ | refine Pw.exit ?_ | refine Pw.inX ?_ | refine Pw.inN ?_ | refine Pw.inR ?_ | refine Pw.thenX ?_ | refine Pw.thenR ?_ | refine Pw.ret ?_) | refine Pw.list (Pw.pure rfl rfl rfl ?_) | refine Pw.inY rfl ?_ | refine Pw.list (Pw.off rfl rfl ?_) | refine Pw.condT rfl ?_ | refine Pw.condF rfl ?_ | refine Pw.list (Pw.box rfl rfl rfl rfl (fun _ => ?_)) | refine Pw.list (Pw.alloc rfl rfl rfl rfl rfl (fun _ => ?_)) | refine Pw.list (Pw.build rfl rfl rfl rfl ?_) | refine Pw.list (Pw.ld rfl inferInstance rfl rfl rfl ?_) | refine Pw.list (Pw.sto rfl rfl inferInstance rfl rfl rfl rfl rfl inferInstance rfl ?_))
  refine Pw.list (Pw.call (rat_formed_ct a b c d y z ha hb hc hd la lb lc ld) rfl rfl rfl (by kernel_rfl) rfl rfl (fun w h => ⟨(hv w h), (hv w h)⟩) ?_)
  intro _ _
  generalize (formedR a b && formedR c d) = t
  cases t
  · rw [if_neg (by simp)]
    repeat (first | (with_reducible first | refine Pw.seq ?_ | refine Pw.region ?_ | refine Pw.nil ?_ | refine Pw.then_ ?_ | refine Pw.skip ?_ | refine Pw.block ?_ | refine Pw.exit ?_ | refine Pw.inX ?_ | refine Pw.inN ?_ | refine Pw.inR ?_ | refine Pw.thenX ?_ | refine Pw.thenR ?_ | refine Pw.ret ?_) | refine Pw.list (Pw.pure rfl rfl rfl ?_) | refine Pw.inY rfl ?_ | refine Pw.list (Pw.off rfl rfl ?_) | refine Pw.condT rfl ?_ | refine Pw.condF rfl ?_ | refine Pw.list (Pw.box rfl rfl rfl rfl (fun _ => ?_)) | refine Pw.list (Pw.alloc rfl rfl rfl rfl rfl (fun _ => ?_)) | refine Pw.list (Pw.build rfl rfl rfl rfl ?_) | refine Pw.list (Pw.ld rfl inferInstance rfl rfl rfl ?_) | refine Pw.list (Pw.sto rfl rfl inferInstance rfl rfl rfl rfl rfl inferInstance rfl ?_))
    exact Pw.ret_ (x := z0) (.cell rfl (fun w hs => hs.own _ (.head _)) rfl (.tmp rfl .nil)) rfl trivial (fun w h => R2.nil w)
  rw [if_pos rfl]
  repeat (first | (with_reducible first | refine Pw.seq ?_ | refine Pw.region ?_ | refine Pw.nil ?_ | refine Pw.then_ ?_ | refine Pw.skip ?_ | refine Pw.block ?_ | refine Pw.exit ?_ | refine Pw.inX ?_ | refine Pw.inN ?_ | refine Pw.inR ?_ | refine Pw.thenX ?_ | refine Pw.thenR ?_ | refine Pw.ret ?_) | refine Pw.list (Pw.pure rfl rfl rfl ?_) | refine Pw.inY rfl ?_ | refine Pw.list (Pw.off rfl rfl ?_) | refine Pw.condT rfl ?_ | refine Pw.condF rfl ?_ | refine Pw.list (Pw.box rfl rfl rfl rfl (fun _ => ?_)) | refine Pw.list (Pw.alloc rfl rfl rfl rfl rfl (fun _ => ?_)) | refine Pw.list (Pw.build rfl rfl rfl rfl ?_) | refine Pw.list (Pw.ld rfl inferInstance rfl rfl rfl ?_) | refine Pw.list (Pw.sto rfl rfl inferInstance rfl rfl rfl rfl rfl inferInstance rfl ?_))
  refine Pw.list (Pw.call (rat_Cmp_ct c d a b z y hc hd ha hb lc ld la lb) rfl rfl rfl (by kernel_rfl) rfl rfl (fun w h => ⟨(hv w h), (hv w h)⟩) ?_)
  intro _ _
  repeat (first | (with_reducible first | refine Pw.seq ?_ | refine Pw.region ?_ | refine Pw.nil ?_ | refine Pw.then_ ?_ | refine Pw.skip ?_ | refine Pw.block ?_ | refine Pw.exit ?_ | refine Pw.inX ?_ | refine Pw.inN ?_ | refine Pw.inR ?_ | refine Pw.thenX ?_ | refine Pw.thenR ?_ | refine Pw.ret ?_) | refine Pw.list (Pw.pure rfl rfl rfl ?_) | refine Pw.inY rfl ?_ | refine Pw.list (Pw.off rfl rfl ?_) | refine Pw.condT rfl ?_ | refine Pw.condF rfl ?_ | refine Pw.list (Pw.box rfl rfl rfl rfl (fun _ => ?_)) | refine Pw.list (Pw.alloc rfl rfl rfl rfl rfl (fun _ => ?_)) | refine Pw.list (Pw.build rfl rfl rfl rfl ?_) | refine Pw.list (Pw.ld rfl inferInstance rfl rfl rfl ?_) | refine Pw.list (Pw.sto rfl rfl inferInstance rfl rfl rfl rfl rfl inferInstance rfl ?_))
  refine Pw.condD rfl (fun c1 => ?_) (fun c1 => ?_)
  · rw [if_pos c1]
    repeat (first | (with_reducible first | refine Pw.seq ?_ | refine Pw.region ?_ | refine Pw.nil ?_ | refine Pw.then_ ?_ | refine Pw.skip ?_ | refine Pw.block ?_ | refine Pw.exit ?_ | refine Pw.inX ?_ | refine Pw.inN ?_ | refine Pw.inR ?_ | refine Pw.thenX ?_ | refine Pw.thenR ?_ | refine Pw.ret ?_) | refine Pw.list (Pw.pure rfl rfl rfl ?_) | refine Pw.inY rfl ?_ | refine Pw.list (Pw.off rfl rfl ?_) | refine Pw.condT rfl ?_ | refine Pw.condF rfl ?_ | refine Pw.list (Pw.box rfl rfl rfl rfl (fun _ => ?_)) | refine Pw.list (Pw.alloc rfl rfl rfl rfl rfl (fun _ => ?_)) | refine Pw.list (Pw.build rfl rfl rfl rfl ?_) | refine Pw.list (Pw.ld rfl inferInstance rfl rfl rfl ?_) | refine Pw.list (Pw.sto rfl rfl inferInstance rfl rfl rfl rfl rfl inferInstance rfl ?_))
    refine Pw.free (.swap ..) (Pw.free (.swap ..) ?_)
    refine Pw.drawnG mixed rfl rfl ?_
    refine Pw.takeP 0 (nb 9 1) rfl rfl rfl rfl (by kernel_rfl) np sf ?_
    refine Pw.takeF 1 (nb 9 3) rfl rfl inferInstance rfl rfl rfl (by kernel_rfl) np sf ?_
    refine Pw.takeP 3 (nb 9 11) rfl rfl rfl rfl (by kernel_rfl) np sf ?_
    refine Pw.takeF 4 (nb 9 27) rfl rfl inferInstance rfl rfl rfl (by kernel_rfl) np sf ?_
    refine Pw.one 2 (nb 9 31) rfl (by kernel_rfl) ?_
    -- call Op.call { callee := Callee.value (Operand.func 87), args := #[Operand.tmp 17], argTypes := #[41] }
    refine Pw.call (Clone_ct c z.1 (by omega)) rfl rfl rfl (by kernel_rfl) rfl rfl (fun w h => (hv w h)) ?_
    intro x1 _
    refine Pw.held sf ?_
    refine Pw.one 5 (nb 9 63) rfl (by kernel_rfl) ?_
    -- call Op.call { callee := Callee.value (Operand.func 87), args := #[Operand.tmp 20], argTypes := #[41] }
    refine Pw.call (Clone_ct d z.2 (by omega)) rfl rfl rfl (by kernel_rfl) rfl rfl (fun w h => (hv w h)) ?_
    intro x2 _
    refine Pw.held sf ?_
    refine Pw.takeBuild 6 (nb 9 127) rfl rfl rfl rfl rfl (by kernel_rfl) np sf ?_
    refine Pw.one 7 (nb 9 255) rfl (by kernel_rfl) ?_
    -- eff Op.store 43 (Operand.tmp 4) (Operand.tmp 22)
    refine Pw.storeB rfl rfl .head rfl rfl rfl rfl rfl rfl (Pw.held sf ?_)
    refine Pw.takeP 8 (nb 9 511) rfl rfl rfl rfl (by kernel_rfl) np sf ?_
    refine Pw.done (by kernel_rfl) ?_
    repeat (first | (with_reducible first | refine Pw.seq ?_ | refine Pw.region ?_ | refine Pw.nil ?_ | refine Pw.then_ ?_ | refine Pw.skip ?_ | refine Pw.block ?_ | refine Pw.exit ?_ | refine Pw.inX ?_ | refine Pw.inN ?_ | refine Pw.inR ?_ | refine Pw.thenX ?_ | refine Pw.thenR ?_ | refine Pw.ret ?_) | refine Pw.list (Pw.pure rfl rfl rfl ?_) | refine Pw.inY rfl ?_ | refine Pw.list (Pw.off rfl rfl ?_) | refine Pw.condT rfl ?_ | refine Pw.condF rfl ?_)
    exact Pw.ret_ (x := (x1, x2)) (.cell rfl (fun w hs => hs.own _ (.head _)) rfl (.tmp rfl .nil)) rfl trivial (fun w h => ⟨fact1 h, fact0 h⟩)
  · rw [if_neg c1]
    repeat (first | (with_reducible first | refine Pw.seq ?_ | refine Pw.region ?_ | refine Pw.nil ?_ | refine Pw.then_ ?_ | refine Pw.skip ?_ | refine Pw.block ?_ | refine Pw.exit ?_ | refine Pw.inX ?_ | refine Pw.inN ?_ | refine Pw.inR ?_ | refine Pw.thenX ?_ | refine Pw.thenR ?_ | refine Pw.ret ?_) | refine Pw.list (Pw.pure rfl rfl rfl ?_) | refine Pw.inY rfl ?_ | refine Pw.list (Pw.off rfl rfl ?_) | refine Pw.condT rfl ?_ | refine Pw.condF rfl ?_ | refine Pw.list (Pw.box rfl rfl rfl rfl (fun _ => ?_)) | refine Pw.list (Pw.alloc rfl rfl rfl rfl rfl (fun _ => ?_)) | refine Pw.list (Pw.build rfl rfl rfl rfl ?_) | refine Pw.list (Pw.ld rfl inferInstance rfl rfl rfl ?_) | refine Pw.list (Pw.sto rfl rfl inferInstance rfl rfl rfl rfl rfl inferInstance rfl ?_))
    refine Pw.free (.swap ..) (Pw.free (.swap ..) ?_)
    refine Pw.drawnG mixed rfl rfl ?_
    refine Pw.takeP 0 (nb 9 1) rfl rfl rfl rfl (by kernel_rfl) np sf ?_
    refine Pw.takeF 1 (nb 9 3) rfl rfl inferInstance rfl rfl rfl (by kernel_rfl) np sf ?_
    refine Pw.takeP 3 (nb 9 11) rfl rfl rfl rfl (by kernel_rfl) np sf ?_
    refine Pw.takeF 4 (nb 9 27) rfl rfl inferInstance rfl rfl rfl (by kernel_rfl) np sf ?_
    refine Pw.one 2 (nb 9 31) rfl (by kernel_rfl) ?_
    -- call Op.call { callee := Callee.value (Operand.func 87), args := #[Operand.tmp 17], argTypes := #[41] }
    refine Pw.call (Clone_ct a y.1 (by omega)) rfl rfl rfl (by kernel_rfl) rfl rfl (fun w h => (hv w h)) ?_
    intro x1 _
    refine Pw.held sf ?_
    refine Pw.one 5 (nb 9 63) rfl (by kernel_rfl) ?_
    -- call Op.call { callee := Callee.value (Operand.func 87), args := #[Operand.tmp 20], argTypes := #[41] }
    refine Pw.call (Clone_ct b y.2 (by omega)) rfl rfl rfl (by kernel_rfl) rfl rfl (fun w h => (hv w h)) ?_
    intro x2 _
    refine Pw.held sf ?_
    refine Pw.takeBuild 6 (nb 9 127) rfl rfl rfl rfl rfl (by kernel_rfl) np sf ?_
    refine Pw.one 7 (nb 9 255) rfl (by kernel_rfl) ?_
    -- eff Op.store 43 (Operand.tmp 4) (Operand.tmp 22)
    refine Pw.storeB rfl rfl .head rfl rfl rfl rfl rfl rfl (Pw.held sf ?_)
    refine Pw.takeP 8 (nb 9 511) rfl rfl rfl rfl (by kernel_rfl) np sf ?_
    refine Pw.done (by kernel_rfl) ?_
    repeat (first | (with_reducible first | refine Pw.seq ?_ | refine Pw.region ?_ | refine Pw.nil ?_ | refine Pw.then_ ?_ | refine Pw.skip ?_ | refine Pw.block ?_ | refine Pw.exit ?_ | refine Pw.inX ?_ | refine Pw.inN ?_ | refine Pw.inR ?_ | refine Pw.thenX ?_ | refine Pw.thenR ?_ | refine Pw.ret ?_) | refine Pw.list (Pw.pure rfl rfl rfl ?_) | refine Pw.inY rfl ?_ | refine Pw.list (Pw.off rfl rfl ?_) | refine Pw.condT rfl ?_ | refine Pw.condF rfl ?_)
    exact Pw.ret_ (x := (x1, x2)) (.cell rfl (fun w hs => hs.own _ (.head _)) rfl (.tmp rfl .nil)) rfl trivial (fun w h => ⟨fact1 h, fact0 h⟩)
end Go.Proofs.Wk
/- Walks of the reference's fractions. -/
namespace Go.Proofs.Wk
open Go.RowKit
set_option maxRecDepth 100000
attribute [local irreducible] Pw OpG
set_option linter.unusedVariables false
set_option linter.unusedSimpArgs false
theorem lowest_ct (a b : List Int) (x y : Option Addr × Nat) (ha : Fm a) (hb : Fm b) (hb0 : b.length ≠ 0) (hl : a.length < 1048576) (hl' : b.length < 1048576) :
    Ct Try.prog 66 #[sl a x, sl b y] (fun W => S1 a x W ∧ S1 b y W) (fun z : Z2 => rt (lowS a b).1 (lowS a b).2 z) Tt (fun z => R2 (lowS a b).1 (lowS a b).2 z) := by
  refine Ct.start Try.func66 rfl rfl (slots_of rfl slots2) (fun D w0 => Pw.facts two2 ?_)
  have hbp := val_pos_of hb hb0
  have g0 := gcdI_pos (x := val a) hbp
  have gl := gcdI_le (x := val a) hbp
  have hg := rgcd_ct a b x y ha hb hl hl'
  unfold lowS
  obtain ⟨G, hG⟩ : ∃ g, g = gcdI (val a) (val b) := ⟨_, rfl⟩
  rw [← hG] at g0 gl hg ⊢
  have pb := val_lt_pw hb.1
  have lg := natL_len_le (n := b.length) (show 0 ≤ G by omega) (by omega)
  have hz : (natL G).length ≠ 0 := fun e => by have := (natL_len_zero (show 0 ≤ G by omega)).1 e; omega
  repeat (first | (with_reducible first | refine Pw.seq ?_ | refine Pw.region ?_ | refine Pw.nil ?_ | refine Pw.then_ ?_ | refine Pw.skip ?_ | refine Pw.block ?_ | refine Pw.exit ?_ | refine Pw.inX ?_ | refine Pw.inN ?_ | refine Pw.inR ?_ | refine Pw.thenX ?_ | refine Pw.thenR ?_ | refine Pw.ret ?_) | refine Pw.list (Pw.pure rfl rfl rfl ?_) | refine Pw.inY rfl ?_ | refine Pw.list (Pw.off rfl rfl ?_) | refine Pw.condT rfl ?_ | refine Pw.condF rfl ?_ | refine Pw.list (Pw.box rfl rfl rfl rfl (fun _ => freeHead ?_)) | refine Pw.list (Pw.alloc rfl rfl rfl rfl rfl (fun _ => ?_)) | refine Pw.list (Pw.build rfl rfl rfl rfl ?_) | refine Pw.list (Pw.ld rfl inferInstance rfl rfl rfl ?_) | refine Pw.list (Pw.sto rfl rfl inferInstance rfl rfl rfl rfl rfl inferInstance rfl ?_))
  refine Pw.list (Pw.call hg rfl rfl rfl (by kernel_rfl) rfl rfl (fun w h => ⟨(hv w h), (hv w h)⟩) ?_)
  intro zg _
  have d1 := rdivMod_ct a (natL G) x zg ha (natL_fm G) hz hl (by omega)
  have d2 := rdivMod_ct b (natL G) y zg hb (natL_fm G) hz hl' (by omega)
  rw [val_natL (by omega)] at d1 d2
  repeat (first | (with_reducible first | refine Pw.seq ?_ | refine Pw.region ?_ | refine Pw.nil ?_ | refine Pw.then_ ?_ | refine Pw.skip ?_ | refine Pw.block ?_ | refine Pw.exit ?_ | refine Pw.inX ?_ | refine Pw.inN ?_ | refine Pw.inR ?_ | refine Pw.thenX ?_ | refine Pw.thenR ?_ | refine Pw.ret ?_) | refine Pw.list (Pw.pure rfl rfl rfl ?_) | refine Pw.inY rfl ?_ | refine Pw.list (Pw.off rfl rfl ?_) | refine Pw.condT rfl ?_ | refine Pw.condF rfl ?_ | refine Pw.list (Pw.box rfl rfl rfl rfl (fun _ => freeHead ?_)) | refine Pw.list (Pw.alloc rfl rfl rfl rfl rfl (fun _ => ?_)) | refine Pw.list (Pw.build rfl rfl rfl rfl ?_) | refine Pw.list (Pw.ld rfl inferInstance rfl rfl rfl ?_) | refine Pw.list (Pw.sto rfl rfl inferInstance rfl rfl rfl rfl rfl inferInstance rfl ?_))
  refine Pw.list (Pw.call d1 rfl rfl rfl (by kernel_rfl) rfl rfl (fun w h => ⟨(hv w h), (hv w h)⟩) ?_)
  intro z1 _
  repeat (first | (with_reducible first | refine Pw.seq ?_ | refine Pw.region ?_ | refine Pw.nil ?_ | refine Pw.then_ ?_ | refine Pw.skip ?_ | refine Pw.block ?_ | refine Pw.exit ?_ | refine Pw.inX ?_ | refine Pw.inN ?_ | refine Pw.inR ?_ | refine Pw.thenX ?_ | refine Pw.thenR ?_ | refine Pw.ret ?_) | refine Pw.list (Pw.pure rfl rfl rfl ?_) | refine Pw.inY rfl ?_ | refine Pw.list (Pw.off rfl rfl ?_) | refine Pw.condT rfl ?_ | refine Pw.condF rfl ?_ | refine Pw.list (Pw.box rfl rfl rfl rfl (fun _ => freeHead ?_)) | refine Pw.list (Pw.alloc rfl rfl rfl rfl rfl (fun _ => ?_)) | refine Pw.list (Pw.build rfl rfl rfl rfl ?_) | refine Pw.list (Pw.ld rfl inferInstance rfl rfl rfl ?_) | refine Pw.list (Pw.sto rfl rfl inferInstance rfl rfl rfl rfl rfl inferInstance rfl ?_))
  refine Pw.list (Pw.call d2 rfl rfl rfl (by kernel_rfl) rfl rfl (fun w h => ⟨(hv w h), (hv w h)⟩) ?_)
  intro z2 _
  repeat (first | (with_reducible first | refine Pw.seq ?_ | refine Pw.region ?_ | refine Pw.nil ?_ | refine Pw.then_ ?_ | refine Pw.skip ?_ | refine Pw.block ?_ | refine Pw.exit ?_ | refine Pw.inX ?_ | refine Pw.inN ?_ | refine Pw.inR ?_ | refine Pw.thenX ?_ | refine Pw.thenR ?_ | refine Pw.ret ?_) | refine Pw.list (Pw.pure rfl rfl rfl ?_) | refine Pw.inY rfl ?_ | refine Pw.list (Pw.off rfl rfl ?_) | refine Pw.condT rfl ?_ | refine Pw.condF rfl ?_ | refine Pw.list (Pw.box rfl rfl rfl rfl (fun _ => freeHead ?_)) | refine Pw.list (Pw.alloc rfl rfl rfl rfl rfl (fun _ => ?_)) | refine Pw.list (Pw.build rfl rfl rfl rfl ?_) | refine Pw.list (Pw.ld rfl inferInstance rfl rfl rfl ?_) | refine Pw.list (Pw.sto rfl rfl inferInstance rfl rfl rfl rfl rfl inferInstance rfl ?_))
  exact Pw.ret_ (x := (z1.1, z2.1)) (.cell rfl (fun w hs => hs.own _ (.head _)) rfl .nil) rfl trivial (fun w h => ⟨(fact1 h).1, (fact0 h).1⟩)
theorem SameRatio_ct (a b c d : List Int) (y z : Z2) (ha : Fm a) (hb : Fm b) (hc : Fm c) (hd : Fm d) (la : a.length < 1048576) (lb : b.length < 1048576) (lc : c.length < 1048576) (ld : d.length < 1048576) :
    Ct Try.prog 67 #[rt a b y, rt c d z] (fun W => R2 a b y W ∧ R2 c d z W) (fun _ : Unit => .bool (decide (val a = val c) && decide (val b = val d))) Tt (fun _ _ => True) := by
  refine Ct.start Try.func67 rfl rfl (slots_of rfl slots2) (fun D w0 => Pw.facts two2 ?_)
  repeat (first | (with_reducible first | refine Pw.seq ?_ | refine Pw.region ?_ | refine Pw.nil ?_ | refine Pw.then_ ?_ | refine Pw.skip ?_ | refine Pw.block ?_ | refine Pw.exit ?_ | refine Pw.inX ?_ | refine Pw.inN ?_ | refine Pw.inR ?_ | refine Pw.thenX ?_ | refine Pw.thenR ?_ | refine Pw.ret ?_) | refine Pw.list (Pw.pure rfl rfl rfl ?_) | refine Pw.inY rfl ?_ | refine Pw.list (Pw.off rfl rfl ?_) | refine Pw.condT rfl ?_ | refine Pw.condF rfl ?_ | refine Pw.list (Pw.box rfl rfl rfl rfl (fun _ => freeHead ?_)) | refine Pw.list (Pw.alloc rfl rfl rfl rfl rfl (fun _ => ?_)) | refine Pw.list (Pw.build rfl rfl rfl rfl ?_) | refine Pw.list (Pw.ld rfl inferInstance rfl rfl rfl ?_) | refine Pw.list (Pw.sto rfl rfl inferInstance rfl rfl rfl rfl rfl inferInstance rfl ?_))
  refine Pw.list (Pw.call (rSame_ct a c y.1 z.1 ha hc (by omega) (by omega)) rfl rfl rfl (by kernel_rfl) rfl rfl (fun w h => ⟨(hv w h), (hv w h)⟩) ?_)
  intro _ _
  generalize decide (val a = val c) = t
  cases t
  · repeat (first | (with_reducible first | refine Pw.seq ?_ | refine Pw.region ?_ | refine Pw.nil ?_ | refine Pw.then_ ?_ | refine Pw.skip ?_ | refine Pw.block ?_ | refine Pw.exit ?_ | refine Pw.inX ?_ | refine Pw.inN ?_ | refine Pw.inR ?_ | refine Pw.thenX ?_ | refine Pw.thenR ?_ | refine Pw.ret ?_) | refine Pw.list (Pw.pure rfl rfl rfl ?_) | refine Pw.inY rfl ?_ | refine Pw.list (Pw.off rfl rfl ?_) | refine Pw.condT rfl ?_ | refine Pw.condF rfl ?_ | refine Pw.list (Pw.box rfl rfl rfl rfl (fun _ => freeHead ?_)) | refine Pw.list (Pw.alloc rfl rfl rfl rfl rfl (fun _ => ?_)) | refine Pw.list (Pw.build rfl rfl rfl rfl ?_) | refine Pw.list (Pw.ld rfl inferInstance rfl rfl rfl ?_) | refine Pw.list (Pw.sto rfl rfl inferInstance rfl rfl rfl rfl rfl inferInstance rfl ?_))
    exact Pw.ret_ (x := ()) (.tmp rfl .nil) rfl trivial (fun w h => by trivial)
  · repeat (first | (with_reducible first | refine Pw.seq ?_ | refine Pw.region ?_ | refine Pw.nil ?_ | refine Pw.then_ ?_ | refine Pw.skip ?_ | refine Pw.block ?_ | refine Pw.exit ?_ | refine Pw.inX ?_ | refine Pw.inN ?_ | refine Pw.inR ?_ | refine Pw.thenX ?_ | refine Pw.thenR ?_ | refine Pw.ret ?_) | refine Pw.list (Pw.pure rfl rfl rfl ?_) | refine Pw.inY rfl ?_ | refine Pw.list (Pw.off rfl rfl ?_) | refine Pw.condT rfl ?_ | refine Pw.condF rfl ?_ | refine Pw.list (Pw.box rfl rfl rfl rfl (fun _ => freeHead ?_)) | refine Pw.list (Pw.alloc rfl rfl rfl rfl rfl (fun _ => ?_)) | refine Pw.list (Pw.build rfl rfl rfl rfl ?_) | refine Pw.list (Pw.ld rfl inferInstance rfl rfl rfl ?_) | refine Pw.list (Pw.sto rfl rfl inferInstance rfl rfl rfl rfl rfl inferInstance rfl ?_))
    refine Pw.list (Pw.call (rSame_ct b d y.2 z.2 hb hd (by omega) (by omega)) rfl rfl rfl (by kernel_rfl) rfl rfl (fun w h => ⟨(hv w h), (hv w h)⟩) ?_)
    intro _ _
    repeat (first | (with_reducible first | refine Pw.seq ?_ | refine Pw.region ?_ | refine Pw.nil ?_ | refine Pw.then_ ?_ | refine Pw.skip ?_ | refine Pw.block ?_ | refine Pw.exit ?_ | refine Pw.inX ?_ | refine Pw.inN ?_ | refine Pw.inR ?_ | refine Pw.thenX ?_ | refine Pw.thenR ?_ | refine Pw.ret ?_) | refine Pw.list (Pw.pure rfl rfl rfl ?_) | refine Pw.inY rfl ?_ | refine Pw.list (Pw.off rfl rfl ?_) | refine Pw.condT rfl ?_ | refine Pw.condF rfl ?_ | refine Pw.list (Pw.box rfl rfl rfl rfl (fun _ => freeHead ?_)) | refine Pw.list (Pw.alloc rfl rfl rfl rfl rfl (fun _ => ?_)) | refine Pw.list (Pw.build rfl rfl rfl rfl ?_) | refine Pw.list (Pw.ld rfl inferInstance rfl rfl rfl ?_) | refine Pw.list (Pw.sto rfl rfl inferInstance rfl rfl rfl rfl rfl inferInstance rfl ?_))
    exact Pw.ret_ (x := ()) (.tmp rfl .nil) rfl trivial (fun w h => by trivial)
theorem FormedRatio_ct (a b : List Int) (z : Z2) (ha : Lm a) (hb : Lm b) (la : a.length < 1048576) (lb : b.length < 1048576) :
    Ct Try.prog 29 #[rt a b z] (R2 a b z) (fun _ : Unit => .bool (formedR a b)) Tt (fun _ _ => True) := by
  refine Ct.start Try.func29 rfl rfl (slots_of rfl slots1) (fun D w0 => ?_)
  unfold formedR
  repeat (first | (with_reducible first | refine Pw.seq ?_ | refine Pw.region ?_ | refine Pw.nil ?_ | refine Pw.then_ ?_ | refine Pw.skip ?_ | refine Pw.block ?_ | refine Pw.exit ?_ | refine Pw.inX ?_ | refine Pw.inN ?_ | refine Pw.inR ?_ | refine Pw.thenX ?_ | refine Pw.thenR ?_ | refine Pw.ret ?_) | refine Pw.list (Pw.pure rfl rfl rfl ?_) | refine Pw.inY rfl ?_ | refine Pw.list (Pw.off rfl rfl ?_) | refine Pw.condT rfl ?_ | refine Pw.condF rfl ?_ | refine Pw.list (Pw.box rfl rfl rfl rfl (fun _ => freeHead ?_)) | refine Pw.list (Pw.alloc rfl rfl rfl rfl rfl (fun _ => ?_)) | refine Pw.list (Pw.build rfl rfl rfl rfl ?_) | refine Pw.list (Pw.ld rfl inferInstance rfl rfl rfl ?_) | refine Pw.list (Pw.sto rfl rfl inferInstance rfl rfl rfl rfl rfl inferInstance rfl ?_))
  refine Pw.list (Pw.call (rFormed_ct a z.1 (by omega)) rfl rfl rfl (by kernel_rfl) rfl rfl (fun w h => (hv w h)) ?_)
  intro _ _
  cases e1 : fmB a
  · repeat (first | (with_reducible first | refine Pw.seq ?_ | refine Pw.region ?_ | refine Pw.nil ?_ | refine Pw.then_ ?_ | refine Pw.skip ?_ | refine Pw.block ?_ | refine Pw.exit ?_ | refine Pw.inX ?_ | refine Pw.inN ?_ | refine Pw.inR ?_ | refine Pw.thenX ?_ | refine Pw.thenR ?_ | refine Pw.ret ?_) | refine Pw.list (Pw.pure rfl rfl rfl ?_) | refine Pw.inY rfl ?_ | refine Pw.list (Pw.off rfl rfl ?_) | refine Pw.condT rfl ?_ | refine Pw.condF rfl ?_ | refine Pw.list (Pw.box rfl rfl rfl rfl (fun _ => freeHead ?_)) | refine Pw.list (Pw.alloc rfl rfl rfl rfl rfl (fun _ => ?_)) | refine Pw.list (Pw.build rfl rfl rfl rfl ?_) | refine Pw.list (Pw.ld rfl inferInstance rfl rfl rfl ?_) | refine Pw.list (Pw.sto rfl rfl inferInstance rfl rfl rfl rfl rfl inferInstance rfl ?_))
    exact Pw.ret_ (x := ()) (.tmp rfl .nil) rfl trivial (fun w h => by trivial)
  repeat (first | (with_reducible first | refine Pw.seq ?_ | refine Pw.region ?_ | refine Pw.nil ?_ | refine Pw.then_ ?_ | refine Pw.skip ?_ | refine Pw.block ?_ | refine Pw.exit ?_ | refine Pw.inX ?_ | refine Pw.inN ?_ | refine Pw.inR ?_ | refine Pw.thenX ?_ | refine Pw.thenR ?_ | refine Pw.ret ?_) | refine Pw.list (Pw.pure rfl rfl rfl ?_) | refine Pw.inY rfl ?_ | refine Pw.list (Pw.off rfl rfl ?_) | refine Pw.condT rfl ?_ | refine Pw.condF rfl ?_ | refine Pw.list (Pw.box rfl rfl rfl rfl (fun _ => freeHead ?_)) | refine Pw.list (Pw.alloc rfl rfl rfl rfl rfl (fun _ => ?_)) | refine Pw.list (Pw.build rfl rfl rfl rfl ?_) | refine Pw.list (Pw.ld rfl inferInstance rfl rfl rfl ?_) | refine Pw.list (Pw.sto rfl rfl inferInstance rfl rfl rfl rfl rfl inferInstance rfl ?_))
  refine Pw.list (Pw.call (rFormed_ct b z.2 (by omega)) rfl rfl rfl (by kernel_rfl) rfl rfl (fun w h => (hv w h)) ?_)
  intro _ _
  cases e2 : fmB b
  · repeat (first | (with_reducible first | refine Pw.seq ?_ | refine Pw.region ?_ | refine Pw.nil ?_ | refine Pw.then_ ?_ | refine Pw.skip ?_ | refine Pw.block ?_ | refine Pw.exit ?_ | refine Pw.inX ?_ | refine Pw.inN ?_ | refine Pw.inR ?_ | refine Pw.thenX ?_ | refine Pw.thenR ?_ | refine Pw.ret ?_) | refine Pw.list (Pw.pure rfl rfl rfl ?_) | refine Pw.inY rfl ?_ | refine Pw.list (Pw.off rfl rfl ?_) | refine Pw.condT rfl ?_ | refine Pw.condF rfl ?_ | refine Pw.list (Pw.box rfl rfl rfl rfl (fun _ => freeHead ?_)) | refine Pw.list (Pw.alloc rfl rfl rfl rfl rfl (fun _ => ?_)) | refine Pw.list (Pw.build rfl rfl rfl rfl ?_) | refine Pw.list (Pw.ld rfl inferInstance rfl rfl rfl ?_) | refine Pw.list (Pw.sto rfl rfl inferInstance rfl rfl rfl rfl rfl inferInstance rfl ?_))
    exact Pw.ret_ (x := ()) (.tmp rfl .nil) rfl trivial (fun w h => by trivial)
  repeat (first | (with_reducible first | refine Pw.seq ?_ | refine Pw.region ?_ | refine Pw.nil ?_ | refine Pw.then_ ?_ | refine Pw.skip ?_ | refine Pw.block ?_ | refine Pw.exit ?_ | refine Pw.inX ?_ | refine Pw.inN ?_ | refine Pw.inR ?_ | refine Pw.thenX ?_ | refine Pw.thenR ?_ | refine Pw.ret ?_) | refine Pw.list (Pw.pure rfl rfl rfl ?_) | refine Pw.inY rfl ?_ | refine Pw.list (Pw.off rfl rfl ?_) | refine Pw.condT rfl ?_ | refine Pw.condF rfl ?_ | refine Pw.list (Pw.box rfl rfl rfl rfl (fun _ => freeHead ?_)) | refine Pw.list (Pw.alloc rfl rfl rfl rfl rfl (fun _ => ?_)) | refine Pw.list (Pw.build rfl rfl rfl rfl ?_) | refine Pw.list (Pw.ld rfl inferInstance rfl rfl rfl ?_) | refine Pw.list (Pw.sto rfl rfl inferInstance rfl rfl rfl rfl rfl inferInstance rfl ?_))
  refine Pw.split 17 rfl (fun c1 => ?_) (fun c1 => ?_)
  · have h0 : 0 < b.length := by omega
    have hfb := ((fmB_iff hb).1 e2)
    have hbp := val_pos_of hfb.2 (by omega)
    have gl := gcdI_le (x := val a) hbp
    have g0 := gcdI_nonneg (val a) (val b)
    have lg := natL_len_le (n := b.length) g0 (by have := val_lt_pw hb; omega)
    rw [decide_eq_true h0]
    repeat (first | (with_reducible first | refine Pw.seq ?_ | refine Pw.region ?_ | refine Pw.nil ?_ | refine Pw.then_ ?_ | refine Pw.skip ?_ | refine Pw.block ?_ | refine Pw.exit ?_ | refine Pw.inX ?_ | refine Pw.inN ?_ | refine Pw.inR ?_ | refine Pw.thenX ?_ | refine Pw.thenR ?_ | refine Pw.ret ?_) | refine Pw.list (Pw.pure rfl rfl rfl ?_) | refine Pw.inY rfl ?_ | refine Pw.list (Pw.off rfl rfl ?_) | refine Pw.condT rfl ?_ | refine Pw.condF rfl ?_ | refine Pw.list (Pw.box rfl rfl rfl rfl (fun _ => freeHead ?_)) | refine Pw.list (Pw.alloc rfl rfl rfl rfl rfl (fun _ => ?_)) | refine Pw.list (Pw.build rfl rfl rfl rfl ?_) | refine Pw.list (Pw.ld rfl inferInstance rfl rfl rfl ?_) | refine Pw.list (Pw.sto rfl rfl inferInstance rfl rfl rfl rfl rfl inferInstance rfl ?_))
    refine Pw.list (Pw.call (rgcd_ct a b z.1 z.2 ((fmB_iff ha).1 e1).2 hfb.2 la lb) rfl rfl rfl (by kernel_rfl) rfl rfl (fun w h => ⟨(hv w h), (hv w h)⟩) ?_)
    intro zg _
    repeat (first | (with_reducible first | refine Pw.seq ?_ | refine Pw.region ?_ | refine Pw.nil ?_ | refine Pw.then_ ?_ | refine Pw.skip ?_ | refine Pw.block ?_ | refine Pw.exit ?_ | refine Pw.inX ?_ | refine Pw.inN ?_ | refine Pw.inR ?_ | refine Pw.thenX ?_ | refine Pw.thenR ?_ | refine Pw.ret ?_) | refine Pw.list (Pw.pure rfl rfl rfl ?_) | refine Pw.inY rfl ?_ | refine Pw.list (Pw.off rfl rfl ?_) | refine Pw.condT rfl ?_ | refine Pw.condF rfl ?_ | refine Pw.list (Pw.box rfl rfl rfl rfl (fun _ => freeHead ?_)) | refine Pw.list (Pw.alloc rfl rfl rfl rfl rfl (fun _ => ?_)) | refine Pw.list (Pw.build rfl rfl rfl rfl ?_) | refine Pw.list (Pw.ld rfl inferInstance rfl rfl rfl ?_) | refine Pw.list (Pw.sto rfl rfl inferInstance rfl rfl rfl rfl rfl inferInstance rfl ?_))
    refine Pw.list (Pw.lit1 rfl rfl rfl rfl rfl rfl rfl rfl rfl (fun g1 => freeHead ?_))
    have hs := rSame_ct (natL (gcdI (val a) (val b))) [1] zg (some ⟨g1, 0, none⟩, 1) (natL_fm _) (by rw [← natL_one]; exact natL_fm 1) (by omega) (by simp)
    rw [val_natL g0, show val [1] = 1 by simp [val]] at hs
    refine Pw.list (Pw.call hs rfl rfl rfl (by kernel_rfl) rfl rfl (fun w h => ⟨(hv w h), ints_of_row' (l := [1]) (fact0 h) (by simp) (by simp [maxLen])⟩) ?_)
    intro _ _
    repeat (first | (with_reducible first | refine Pw.seq ?_ | refine Pw.region ?_ | refine Pw.nil ?_ | refine Pw.then_ ?_ | refine Pw.skip ?_ | refine Pw.block ?_ | refine Pw.exit ?_ | refine Pw.inX ?_ | refine Pw.inN ?_ | refine Pw.inR ?_ | refine Pw.thenX ?_ | refine Pw.thenR ?_ | refine Pw.ret ?_) | refine Pw.list (Pw.pure rfl rfl rfl ?_) | refine Pw.inY rfl ?_ | refine Pw.list (Pw.off rfl rfl ?_) | refine Pw.condT rfl ?_ | refine Pw.condF rfl ?_ | refine Pw.list (Pw.box rfl rfl rfl rfl (fun _ => freeHead ?_)) | refine Pw.list (Pw.alloc rfl rfl rfl rfl rfl (fun _ => ?_)) | refine Pw.list (Pw.build rfl rfl rfl rfl ?_) | refine Pw.list (Pw.ld rfl inferInstance rfl rfl rfl ?_) | refine Pw.list (Pw.sto rfl rfl inferInstance rfl rfl rfl rfl rfl inferInstance rfl ?_))
    exact Pw.ret_ (x := ()) (.tmp rfl .nil) rfl trivial (fun w h => by trivial)
  · have h0 : ¬ 0 < b.length := by omega
    rw [decide_eq_false h0]
    repeat (first | (with_reducible first | refine Pw.seq ?_ | refine Pw.region ?_ | refine Pw.nil ?_ | refine Pw.then_ ?_ | refine Pw.skip ?_ | refine Pw.block ?_ | refine Pw.exit ?_ | refine Pw.inX ?_ | refine Pw.inN ?_ | refine Pw.inR ?_ | refine Pw.thenX ?_ | refine Pw.thenR ?_ | refine Pw.ret ?_) | refine Pw.list (Pw.pure rfl rfl rfl ?_) | refine Pw.inY rfl ?_ | refine Pw.list (Pw.off rfl rfl ?_) | refine Pw.condT rfl ?_ | refine Pw.condF rfl ?_ | refine Pw.list (Pw.box rfl rfl rfl rfl (fun _ => freeHead ?_)) | refine Pw.list (Pw.alloc rfl rfl rfl rfl rfl (fun _ => ?_)) | refine Pw.list (Pw.build rfl rfl rfl rfl ?_) | refine Pw.list (Pw.ld rfl inferInstance rfl rfl rfl ?_) | refine Pw.list (Pw.sto rfl rfl inferInstance rfl rfl rfl rfl rfl inferInstance rfl ?_))
    exact Pw.ret_ (x := ()) (.tmp rfl .nil) rfl trivial (fun w h => by trivial)
end Go.Proofs.Wk
/- What layer 2 answers, of formed fractions. -/
namespace Go.Proofs.Wk
set_option linter.unusedVariables false
set_option linter.unusedSimpArgs false

theorem mulS_bd {a b : List Int} (ha : fmB a = true) (hb : fmB b = true) : mulS a b = bdS (natL (val a * val b)) := by
  unfold mulS; rw [if_pos ⟨ha, hb⟩]; rfl
theorem addS_bd {a b : List Int} (ha : fmB a = true) (hb : fmB b = true) : addS a b = bdS (natL (val a + val b)) := by
  unfold addS; rw [if_pos ⟨ha, hb⟩]; rfl
theorem bd_ok {l : List Int} (h : l.length ≤ 400) : bdS l = (l, 0) := if_pos h
theorem bd_no {l : List Int} (h : ¬ l.length ≤ 400) : bdS l = ([], 4) := if_neg h
theorem makeS_natL {p q : Int} (hq : 0 < q) (h1 : (natL p).length ≤ 400) (h2 : (natL q).length ≤ 400) : makeS (natL p) (natL q) = ((lowS (natL p) (natL q)).1, (lowS (natL p) (natL q)).2, 0) := by
  unfold makeS
  rw [if_pos ⟨fmB_natL h1, fmB_natL h2⟩, if_neg (fun e => by have := (natL_len_zero (show 0 ≤ q by omega)).1 e; omega)]
theorem fm_pos {b : List Int} (hb : Lm b) (h : fmB b = true) (h0 : 0 < b.length) : 0 < val b := val_pos_of ((fmB_iff hb).1 h).2 (by omega)
section
variable {a b c d : List Int} (ha : Lm a) (hb : Lm b) (hc : Lm c) (hd : Lm d) (hf : formedR a b = true) (hg : formedR c d = true)
include ha hb hc hd hf hg
theorem rmulS_eq : rmulS a b c d = if (natL (val a * val c)).length ≤ 400 ∧ (natL (val b * val d)).length ≤ 400 then ((lowS (natL (val a * val c)) (natL (val b * val d))).1, (lowS (natL (val a * val c)) (natL (val b * val d))).2, 0) else ([], [], 4) := by
  obtain ⟨f1, f2, f3, _⟩ := formedR_spec ha hb hf
  obtain ⟨g1, g2, g3, _⟩ := formedR_spec hc hd hg
  have hq := Int.mul_pos (fm_pos hb f2 f3) (fm_pos hd g2 g3)
  unfold rmulS
  rw [if_pos (by simp [hf, hg]), mulS_bd f1 g1, mulS_bd f2 g2]
  by_cases h1 : (natL (val a * val c)).length ≤ 400 <;> by_cases h2 : (natL (val b * val d)).length ≤ 400
  · rw [bd_ok h1, bd_ok h2]; show endS 0 0 (natL _) (natL _) = _; rw [if_pos ⟨h1, h2⟩]; exact makeS_natL hq h1 h2
  · rw [bd_ok h1, bd_no h2]; show endS 4 0 (natL _) [] = _; rw [if_neg (fun h => h2 h.2)]; rfl
  · rw [bd_no h1, bd_ok h2]; show endS 4 0 [] (natL _) = _; rw [if_neg (fun h => h1 h.1)]; rfl
  · rw [bd_no h1, bd_no h2]; show endS 4 0 [] [] = _; rw [if_neg (fun h => h1 h.1)]; rfl
theorem rcmpS_eq : rcmpS a b c d = if (natL (val a * val d)).length ≤ 400 ∧ (natL (val c * val b)).length ≤ 400 then cmpS (val a * val d) (val c * val b) else 0 := by
  obtain ⟨f1, f2, f3, _⟩ := formedR_spec ha hb hf
  obtain ⟨g1, g2, g3, _⟩ := formedR_spec hc hd hg
  have p1 := Int.mul_nonneg (val_nonneg ha) (val_nonneg hd)
  have p2 := Int.mul_nonneg (val_nonneg hc) (val_nonneg hb)
  unfold rcmpS
  rw [if_pos (by simp [hf, hg]), mulS_bd f1 g2, mulS_bd g1 f2]
  by_cases h1 : (natL (val a * val d)).length ≤ 400 <;> by_cases h2 : (natL (val c * val b)).length ≤ 400
  · rw [bd_ok h1, bd_ok h2]
    show cmpF (natL _) (natL _) = _
    rw [if_pos ⟨h1, h2⟩]
    unfold cmpF
    rw [if_pos ⟨fmB_natL h1, fmB_natL h2⟩, val_natL p1, val_natL p2]
  · rw [bd_ok h1, bd_no h2]; show (0 : Int) = _; rw [if_neg (fun h => h2 h.2)]
  · rw [bd_no h1, bd_ok h2]; show (0 : Int) = _; rw [if_neg (fun h => h1 h.1)]
  · rw [bd_no h1, bd_no h2]; show (0 : Int) = _; rw [if_neg (fun h => h1 h.1)]
theorem raddS_eq : joinS addS a b c d = if (natL (val a * val d)).length ≤ 400 ∧ (natL (val c * val b)).length ≤ 400 ∧ (natL (val b * val d)).length ≤ 400 ∧ (natL (val a * val d + val c * val b)).length ≤ 400 then ((lowS (natL (val a * val d + val c * val b)) (natL (val b * val d))).1, (lowS (natL (val a * val d + val c * val b)) (natL (val b * val d))).2, 0) else ([], [], 4) := by
  obtain ⟨f1, f2, f3, _⟩ := formedR_spec ha hb hf
  obtain ⟨g1, g2, g3, _⟩ := formedR_spec hc hd hg
  have hq := Int.mul_pos (fm_pos hb f2 f3) (fm_pos hd g2 g3)
  have p1 := Int.mul_nonneg (val_nonneg ha) (val_nonneg hd)
  have p2 := Int.mul_nonneg (val_nonneg hc) (val_nonneg hb)
  unfold joinS
  rw [if_pos (by simp [hf, hg]), mulS_bd f1 g2, mulS_bd g1 f2, mulS_bd f2 g2]
  by_cases h1 : (natL (val a * val d)).length ≤ 400 <;> by_cases h2 : (natL (val c * val b)).length ≤ 400 <;> by_cases h3 : (natL (val b * val d)).length ≤ 400
  · rw [bd_ok h1, bd_ok h2, bd_ok h3]
    show endS 0 (addS (natL _) (natL _)).2 (addS (natL _) (natL _)).1 (natL _) = _
    rw [addS_bd (fmB_natL h1) (fmB_natL h2), val_natL p1, val_natL p2]
    by_cases h4 : (natL (val a * val d + val c * val b)).length ≤ 400
    · rw [bd_ok h4, if_pos ⟨h1, h2, h3, h4⟩]; exact makeS_natL hq h4 h3
    · rw [bd_no h4, if_neg (fun h => h4 h.2.2.2)]; rfl
  all_goals first
    | (rw [bd_ok h1, bd_ok h2, bd_no h3, if_neg (fun h => h3 h.2.2.1)]; rfl)
    | (rw [bd_ok h1, bd_no h2, bd_ok h3, if_neg (fun h => h2 h.2.1)]; rfl)
    | (rw [bd_ok h1, bd_no h2, bd_no h3, if_neg (fun h => h2 h.2.1)]; rfl)
    | (rw [bd_no h1, bd_ok h2, bd_ok h3, if_neg (fun h => h1 h.1)]; rfl)
    | (rw [bd_no h1, bd_ok h2, bd_no h3, if_neg (fun h => h1 h.1)]; rfl)
    | (rw [bd_no h1, bd_no h2, bd_ok h3, if_neg (fun h => h1 h.1)]; rfl)
    | (rw [bd_no h1, bd_no h2, bd_no h3, if_neg (fun h => h1 h.1)]; rfl)
theorem rsubS_eq : joinS subS a b c d = if (natL (val a * val d)).length ≤ 400 ∧ (natL (val c * val b)).length ≤ 400 ∧ (natL (val b * val d)).length ≤ 400 then (if val a * val d < val c * val b then ([], [], 3) else ((lowS (natL (val a * val d - val c * val b)) (natL (val b * val d))).1, (lowS (natL (val a * val d - val c * val b)) (natL (val b * val d))).2, 0)) else ([], [], 4) := by
  obtain ⟨f1, f2, f3, _⟩ := formedR_spec ha hb hf
  obtain ⟨g1, g2, g3, _⟩ := formedR_spec hc hd hg
  have hq := Int.mul_pos (fm_pos hb f2 f3) (fm_pos hd g2 g3)
  have p1 := Int.mul_nonneg (val_nonneg ha) (val_nonneg hd)
  have p2 := Int.mul_nonneg (val_nonneg hc) (val_nonneg hb)
  unfold joinS
  rw [if_pos (by simp [hf, hg]), mulS_bd f1 g2, mulS_bd g1 f2, mulS_bd f2 g2]
  by_cases h1 : (natL (val a * val d)).length ≤ 400 <;> by_cases h2 : (natL (val c * val b)).length ≤ 400 <;> by_cases h3 : (natL (val b * val d)).length ≤ 400
  · rw [bd_ok h1, bd_ok h2, bd_ok h3, if_pos ⟨h1, h2, h3⟩]
    show endS 0 (subS (natL _) (natL _)).2 (subS (natL _) (natL _)).1 (natL _) = _
    unfold subS
    rw [if_pos ⟨fmB_natL h1, fmB_natL h2⟩, val_natL p1, val_natL p2]
    by_cases h4 : val a * val d < val c * val b
    · rw [if_pos h4, if_pos h4]; rfl
    · rw [if_neg h4, if_neg h4]
      have l1 := val_lt_pw (natL_fm (val a * val d)).1
      rw [val_natL p1] at l1
      have l2 := natL_len_le (n := (natL (val a * val d)).length) (show 0 ≤ val a * val d - val c * val b by omega) (by omega)
      exact makeS_natL hq (by omega) h3
  all_goals first
    | (rw [bd_ok h1, bd_ok h2, bd_no h3, if_neg (fun h => h3 h.2.2)]; rfl)
    | (rw [bd_ok h1, bd_no h2, bd_ok h3, if_neg (fun h => h2 h.2.1)]; rfl)
    | (rw [bd_ok h1, bd_no h2, bd_no h3, if_neg (fun h => h2 h.2.1)]; rfl)
    | (rw [bd_no h1, bd_ok h2, bd_ok h3, if_neg (fun h => h1 h.1)]; rfl)
    | (rw [bd_no h1, bd_ok h2, bd_no h3, if_neg (fun h => h1 h.1)]; rfl)
    | (rw [bd_no h1, bd_no h2, bd_ok h3, if_neg (fun h => h1 h.1)]; rfl)
    | (rw [bd_no h1, bd_no h2, bd_no h3, if_neg (fun h => h1 h.1)]; rfl)
end
end Go.Proofs.Wk
/- Walks of the reference's fractions: reckoning. -/
namespace Go.Proofs.Wk
open Go.RowKit
set_option maxRecDepth 100000
attribute [local irreducible] Pw OpG
set_option linter.unusedVariables false
set_option linter.unusedSimpArgs false
def crossS (a b c d : List Int) : List Int × List Int × Int := if (natL (val a * val d)).length ≤ 400 ∧ (natL (val c * val b)).length ≤ 400 then (natL (val a * val d), natL (val c * val b), 0) else ([], [], 4)
theorem cross_ct (a b c d : List Int) (y z : Z2) (ha : Lm a) (hb : Lm b) (hc : Lm c) (hd : Lm d) (la : a.length < 1048576) (lb : b.length < 1048576) (lc : c.length < 1048576) (ld : d.length < 1048576) :
    Ct Try.prog 83 #[rt a b y, rt c d z] (fun W => R2 a b y W ∧ R2 c d z W) (fun x : Z2 => .tuple #[sl (crossS a b c d).1 x.1, sl (crossS a b c d).2.1 x.2, .int .i64 (crossS a b c d).2.2]) Tt (fun x => R2 (crossS a b c d).1 (crossS a b c d).2.1 x) := by
  refine Ct.start Try.func83 rfl rfl (slots_of rfl slots2) (fun D w0 => Pw.facts two2 ?_)
  unfold crossS
  repeat (first | (with_reducible first | refine Pw.seq ?_ | refine Pw.region ?_ | refine Pw.nil ?_ | refine Pw.then_ ?_ | refine Pw.skip ?_ | refine Pw.block ?_ | refine Pw.exit ?_ | refine Pw.inX ?_ | refine Pw.inN ?_ | refine Pw.inR ?_ | refine Pw.thenX ?_ | refine Pw.thenR ?_ | refine Pw.ret ?_) | refine Pw.list (Pw.pure rfl rfl rfl ?_) | refine Pw.inY rfl ?_ | refine Pw.list (Pw.off rfl rfl ?_) | refine Pw.condT rfl ?_ | refine Pw.condF rfl ?_ | refine Pw.list (Pw.box rfl rfl rfl rfl (fun _ => freeHead ?_)) | refine Pw.list (Pw.alloc rfl rfl rfl rfl rfl (fun _ => ?_)) | refine Pw.list (Pw.build rfl rfl rfl rfl ?_) | refine Pw.list (Pw.ld rfl inferInstance rfl rfl rfl ?_) | refine Pw.list (Pw.sto rfl rfl inferInstance rfl rfl rfl rfl rfl inferInstance rfl ?_))
  refine Pw.list (Pw.call (rmul_ct a d y.1 z.2 ha hd la ld) rfl rfl rfl (by kernel_rfl) rfl rfl (fun w h => ⟨(hv w h), (hv w h)⟩) ?_)
  intro z1 _
  repeat (first | (with_reducible first | refine Pw.seq ?_ | refine Pw.region ?_ | refine Pw.nil ?_ | refine Pw.then_ ?_ | refine Pw.skip ?_ | refine Pw.block ?_ | refine Pw.exit ?_ | refine Pw.inX ?_ | refine Pw.inN ?_ | refine Pw.inR ?_ | refine Pw.thenX ?_ | refine Pw.thenR ?_ | refine Pw.ret ?_) | refine Pw.list (Pw.pure rfl rfl rfl ?_) | refine Pw.inY rfl ?_ | refine Pw.list (Pw.off rfl rfl ?_) | refine Pw.condT rfl ?_ | refine Pw.condF rfl ?_ | refine Pw.list (Pw.box rfl rfl rfl rfl (fun _ => freeHead ?_)) | refine Pw.list (Pw.alloc rfl rfl rfl rfl rfl (fun _ => ?_)) | refine Pw.list (Pw.build rfl rfl rfl rfl ?_) | refine Pw.list (Pw.ld rfl inferInstance rfl rfl rfl ?_) | refine Pw.list (Pw.sto rfl rfl inferInstance rfl rfl rfl rfl rfl inferInstance rfl ?_))
  have hb1 := rbounded_ct (natL (val a * val d)) z1
  by_cases q1 : (natL (val a * val d)).length ≤ 400
  · rw [bd_ok q1] at hb1
    refine Pw.list (Pw.call hb1 rfl rfl rfl (by kernel_rfl) rfl rfl (fun w h => (hv w h)) ?_)
    intro z2 _
    repeat (first | (with_reducible first | refine Pw.seq ?_ | refine Pw.region ?_ | refine Pw.nil ?_ | refine Pw.then_ ?_ | refine Pw.skip ?_ | refine Pw.block ?_ | refine Pw.exit ?_ | refine Pw.inX ?_ | refine Pw.inN ?_ | refine Pw.inR ?_ | refine Pw.thenX ?_ | refine Pw.thenR ?_ | refine Pw.ret ?_) | refine Pw.list (Pw.pure rfl rfl rfl ?_) | refine Pw.inY rfl ?_ | refine Pw.list (Pw.off rfl rfl ?_) | refine Pw.condT rfl ?_ | refine Pw.condF rfl ?_ | refine Pw.list (Pw.box rfl rfl rfl rfl (fun _ => freeHead ?_)) | refine Pw.list (Pw.alloc rfl rfl rfl rfl rfl (fun _ => ?_)) | refine Pw.list (Pw.build rfl rfl rfl rfl ?_) | refine Pw.list (Pw.ld rfl inferInstance rfl rfl rfl ?_) | refine Pw.list (Pw.sto rfl rfl inferInstance rfl rfl rfl rfl rfl inferInstance rfl ?_))
    refine Pw.list (Pw.call (rmul_ct c b z.1 y.2 hc hb lc lb) rfl rfl rfl (by kernel_rfl) rfl rfl (fun w h => ⟨(hv w h), (hv w h)⟩) ?_)
    intro z3 _
    repeat (first | (with_reducible first | refine Pw.seq ?_ | refine Pw.region ?_ | refine Pw.nil ?_ | refine Pw.then_ ?_ | refine Pw.skip ?_ | refine Pw.block ?_ | refine Pw.exit ?_ | refine Pw.inX ?_ | refine Pw.inN ?_ | refine Pw.inR ?_ | refine Pw.thenX ?_ | refine Pw.thenR ?_ | refine Pw.ret ?_) | refine Pw.list (Pw.pure rfl rfl rfl ?_) | refine Pw.inY rfl ?_ | refine Pw.list (Pw.off rfl rfl ?_) | refine Pw.condT rfl ?_ | refine Pw.condF rfl ?_ | refine Pw.list (Pw.box rfl rfl rfl rfl (fun _ => freeHead ?_)) | refine Pw.list (Pw.alloc rfl rfl rfl rfl rfl (fun _ => ?_)) | refine Pw.list (Pw.build rfl rfl rfl rfl ?_) | refine Pw.list (Pw.ld rfl inferInstance rfl rfl rfl ?_) | refine Pw.list (Pw.sto rfl rfl inferInstance rfl rfl rfl rfl rfl inferInstance rfl ?_))
    have hb2 := rbounded_ct (natL (val c * val b)) z3
    by_cases q2 : (natL (val c * val b)).length ≤ 400
    · rw [bd_ok q2] at hb2
      rw [if_pos ⟨q1, q2⟩]
      refine Pw.list (Pw.call hb2 rfl rfl rfl (by kernel_rfl) rfl rfl (fun w h => (hv w h)) ?_)
      intro z4 _
      repeat (first | (with_reducible first | refine Pw.seq ?_ | refine Pw.region ?_ | refine Pw.nil ?_ | refine Pw.then_ ?_ | refine Pw.skip ?_ | refine Pw.block ?_ | refine Pw.exit ?_ | refine Pw.inX ?_ | refine Pw.inN ?_ | refine Pw.inR ?_ | refine Pw.thenX ?_ | refine Pw.thenR ?_ | refine Pw.ret ?_) | refine Pw.list (Pw.pure rfl rfl rfl ?_) | refine Pw.inY rfl ?_ | refine Pw.list (Pw.off rfl rfl ?_) | refine Pw.condT rfl ?_ | refine Pw.condF rfl ?_ | refine Pw.list (Pw.box rfl rfl rfl rfl (fun _ => freeHead ?_)) | refine Pw.list (Pw.alloc rfl rfl rfl rfl rfl (fun _ => ?_)) | refine Pw.list (Pw.build rfl rfl rfl rfl ?_) | refine Pw.list (Pw.ld rfl inferInstance rfl rfl rfl ?_) | refine Pw.list (Pw.sto rfl rfl inferInstance rfl rfl rfl rfl rfl inferInstance rfl ?_))
      exact Pw.ret_ (x := (z2, z4)) (.tmp rfl (.tmp rfl (.tmp rfl .nil))) rfl trivial (fun w h => ⟨(hv w h), (hv w h)⟩)
    · rw [bd_no q2] at hb2
      rw [if_neg (fun e => q2 e.2)]
      refine Pw.list (Pw.call hb2 rfl rfl rfl (by kernel_rfl) rfl rfl (fun w h => (hv w h)) ?_)
      intro z4 _
      repeat (first | (with_reducible first | refine Pw.seq ?_ | refine Pw.region ?_ | refine Pw.nil ?_ | refine Pw.then_ ?_ | refine Pw.skip ?_ | refine Pw.block ?_ | refine Pw.exit ?_ | refine Pw.inX ?_ | refine Pw.inN ?_ | refine Pw.inR ?_ | refine Pw.thenX ?_ | refine Pw.thenR ?_ | refine Pw.ret ?_) | refine Pw.list (Pw.pure rfl rfl rfl ?_) | refine Pw.inY rfl ?_ | refine Pw.list (Pw.off rfl rfl ?_) | refine Pw.condT rfl ?_ | refine Pw.condF rfl ?_ | refine Pw.list (Pw.box rfl rfl rfl rfl (fun _ => freeHead ?_)) | refine Pw.list (Pw.alloc rfl rfl rfl rfl rfl (fun _ => ?_)) | refine Pw.list (Pw.build rfl rfl rfl rfl ?_) | refine Pw.list (Pw.ld rfl inferInstance rfl rfl rfl ?_) | refine Pw.list (Pw.sto rfl rfl inferInstance rfl rfl rfl rfl rfl inferInstance rfl ?_))
      exact Pw.ret_ (x := z0) (.tmp rfl (.tmp rfl (.tmp rfl .nil))) rfl trivial (fun w h => R2.nil w)
  · rw [bd_no q1] at hb1
    rw [if_neg (fun e => q1 e.1)]
    refine Pw.list (Pw.call hb1 rfl rfl rfl (by kernel_rfl) rfl rfl (fun w h => (hv w h)) ?_)
    intro z2 _
    repeat (first | (with_reducible first | refine Pw.seq ?_ | refine Pw.region ?_ | refine Pw.nil ?_ | refine Pw.then_ ?_ | refine Pw.skip ?_ | refine Pw.block ?_ | refine Pw.exit ?_ | refine Pw.inX ?_ | refine Pw.inN ?_ | refine Pw.inR ?_ | refine Pw.thenX ?_ | refine Pw.thenR ?_ | refine Pw.ret ?_) | refine Pw.list (Pw.pure rfl rfl rfl ?_) | refine Pw.inY rfl ?_ | refine Pw.list (Pw.off rfl rfl ?_) | refine Pw.condT rfl ?_ | refine Pw.condF rfl ?_ | refine Pw.list (Pw.box rfl rfl rfl rfl (fun _ => freeHead ?_)) | refine Pw.list (Pw.alloc rfl rfl rfl rfl rfl (fun _ => ?_)) | refine Pw.list (Pw.build rfl rfl rfl rfl ?_) | refine Pw.list (Pw.ld rfl inferInstance rfl rfl rfl ?_) | refine Pw.list (Pw.sto rfl rfl inferInstance rfl rfl rfl rfl rfl inferInstance rfl ?_))
    refine Pw.list (Pw.call (rmul_ct c b z.1 y.2 hc hb lc lb) rfl rfl rfl (by kernel_rfl) rfl rfl (fun w h => ⟨(hv w h), (hv w h)⟩) ?_)
    intro z3 _
    repeat (first | (with_reducible first | refine Pw.seq ?_ | refine Pw.region ?_ | refine Pw.nil ?_ | refine Pw.then_ ?_ | refine Pw.skip ?_ | refine Pw.block ?_ | refine Pw.exit ?_ | refine Pw.inX ?_ | refine Pw.inN ?_ | refine Pw.inR ?_ | refine Pw.thenX ?_ | refine Pw.thenR ?_ | refine Pw.ret ?_) | refine Pw.list (Pw.pure rfl rfl rfl ?_) | refine Pw.inY rfl ?_ | refine Pw.list (Pw.off rfl rfl ?_) | refine Pw.condT rfl ?_ | refine Pw.condF rfl ?_ | refine Pw.list (Pw.box rfl rfl rfl rfl (fun _ => freeHead ?_)) | refine Pw.list (Pw.alloc rfl rfl rfl rfl rfl (fun _ => ?_)) | refine Pw.list (Pw.build rfl rfl rfl rfl ?_) | refine Pw.list (Pw.ld rfl inferInstance rfl rfl rfl ?_) | refine Pw.list (Pw.sto rfl rfl inferInstance rfl rfl rfl rfl rfl inferInstance rfl ?_))
    refine Pw.list (Pw.call (rbounded_ct (natL (val c * val b)) z3) rfl rfl rfl (by kernel_rfl) rfl rfl (fun w h => (hv w h)) ?_)
    intro z4 _
    repeat (first | (with_reducible first | refine Pw.seq ?_ | refine Pw.region ?_ | refine Pw.nil ?_ | refine Pw.then_ ?_ | refine Pw.skip ?_ | refine Pw.block ?_ | refine Pw.exit ?_ | refine Pw.inX ?_ | refine Pw.inN ?_ | refine Pw.inR ?_ | refine Pw.thenX ?_ | refine Pw.thenR ?_ | refine Pw.ret ?_) | refine Pw.list (Pw.pure rfl rfl rfl ?_) | refine Pw.inY rfl ?_ | refine Pw.list (Pw.off rfl rfl ?_) | refine Pw.condT rfl ?_ | refine Pw.condF rfl ?_ | refine Pw.list (Pw.box rfl rfl rfl rfl (fun _ => freeHead ?_)) | refine Pw.list (Pw.alloc rfl rfl rfl rfl rfl (fun _ => ?_)) | refine Pw.list (Pw.build rfl rfl rfl rfl ?_) | refine Pw.list (Pw.ld rfl inferInstance rfl rfl rfl ?_) | refine Pw.list (Pw.sto rfl rfl inferInstance rfl rfl rfl rfl rfl inferInstance rfl ?_))
    exact Pw.ret_ (x := z0) (.tmp rfl (.tmp rfl (.tmp rfl .nil))) rfl trivial (fun w h => R2.nil w)
theorem low_len {p q : Int} (hq : 0 < q) (h2 : (natL q).length ≤ 400) : (natL q).length ≠ 0 ∧ (natL q).length < 1048576 := ⟨fun e => by have := (natL_len_zero (show 0 ≤ q by omega)).1 e; omega, by omega⟩
theorem MulRatio_ct (a b c d : List Int) (y z : Z2) (ha : Lm a) (hb : Lm b) (hc : Lm c) (hd : Lm d) (la : a.length < 1048576) (lb : b.length < 1048576) (lc : c.length < 1048576) (ld : d.length < 1048576) :
    Ct Try.prog 31 #[rt a b y, rt c d z] (fun W => R2 a b y W ∧ R2 c d z W) (fun x : Z2 => .tuple #[rt (rmulS a b c d).1 (rmulS a b c d).2.1 x, .int .i64 (rmulS a b c d).2.2]) Tt (fun x => R2 (rmulS a b c d).1 (rmulS a b c d).2.1 x) := by
  refine Ct.start Try.func31 rfl rfl (slots_of rfl slots2) (fun D w0 => Pw.facts two2 ?_)
  have key := @rmulS_eq a b c d ha hb hc hd
  repeat (first | (with_reducible first | refine Pw.seq ?_ | refine Pw.region ?_ | refine Pw.nil ?_ | refine Pw.then_ ?_ | refine Pw.skip ?_ | refine Pw.block ?_ | refine Pw.exit ?_ | refine Pw.inX ?_ | refine Pw.inN ?_ | refine Pw.inR ?_ | refine Pw.thenX ?_ | refine Pw.thenR ?_ | refine Pw.ret ?_) | refine Pw.list (Pw.pure rfl rfl rfl ?_) | refine Pw.inY rfl ?_ | refine Pw.list (Pw.off rfl rfl ?_) | refine Pw.condT rfl ?_ | refine Pw.condF rfl ?_ | refine Pw.list (Pw.box rfl rfl rfl rfl (fun _ => freeHead ?_)) | refine Pw.list (Pw.alloc rfl rfl rfl rfl rfl (fun _ => ?_)) | refine Pw.list (Pw.build rfl rfl rfl rfl ?_) | refine Pw.list (Pw.ld rfl inferInstance rfl rfl rfl ?_) | refine Pw.list (Pw.sto rfl rfl inferInstance rfl rfl rfl rfl rfl inferInstance rfl ?_))
  refine Pw.list (Pw.call (FormedRatio_ct a b y ha hb la lb) rfl rfl rfl (by kernel_rfl) rfl rfl (fun w h => (hv w h)) ?_)
  intro _ _
  cases hf : formedR a b
  · rw [show rmulS a b c d = ([], [], 1) by unfold rmulS; rw [if_neg (by simp [hf])]]
    repeat (first | (with_reducible first | refine Pw.seq ?_ | refine Pw.region ?_ | refine Pw.nil ?_ | refine Pw.then_ ?_ | refine Pw.skip ?_ | refine Pw.block ?_ | refine Pw.exit ?_ | refine Pw.inX ?_ | refine Pw.inN ?_ | refine Pw.inR ?_ | refine Pw.thenX ?_ | refine Pw.thenR ?_ | refine Pw.ret ?_) | refine Pw.list (Pw.pure rfl rfl rfl ?_) | refine Pw.inY rfl ?_ | refine Pw.list (Pw.off rfl rfl ?_) | refine Pw.condT rfl ?_ | refine Pw.condF rfl ?_ | refine Pw.list (Pw.box rfl rfl rfl rfl (fun _ => freeHead ?_)) | refine Pw.list (Pw.alloc rfl rfl rfl rfl rfl (fun _ => ?_)) | refine Pw.list (Pw.build rfl rfl rfl rfl ?_) | refine Pw.list (Pw.ld rfl inferInstance rfl rfl rfl ?_) | refine Pw.list (Pw.sto rfl rfl inferInstance rfl rfl rfl rfl rfl inferInstance rfl ?_))
    exact Pw.ret_ (x := z0) (.cell rfl (fun w hs => hs.own _ (.head _)) rfl (.tmp rfl .nil)) rfl trivial (fun w h => R2.nil w)
  repeat (first | (with_reducible first | refine Pw.seq ?_ | refine Pw.region ?_ | refine Pw.nil ?_ | refine Pw.then_ ?_ | refine Pw.skip ?_ | refine Pw.block ?_ | refine Pw.exit ?_ | refine Pw.inX ?_ | refine Pw.inN ?_ | refine Pw.inR ?_ | refine Pw.thenX ?_ | refine Pw.thenR ?_ | refine Pw.ret ?_) | refine Pw.list (Pw.pure rfl rfl rfl ?_) | refine Pw.inY rfl ?_ | refine Pw.list (Pw.off rfl rfl ?_) | refine Pw.condT rfl ?_ | refine Pw.condF rfl ?_ | refine Pw.list (Pw.box rfl rfl rfl rfl (fun _ => freeHead ?_)) | refine Pw.list (Pw.alloc rfl rfl rfl rfl rfl (fun _ => ?_)) | refine Pw.list (Pw.build rfl rfl rfl rfl ?_) | refine Pw.list (Pw.ld rfl inferInstance rfl rfl rfl ?_) | refine Pw.list (Pw.sto rfl rfl inferInstance rfl rfl rfl rfl rfl inferInstance rfl ?_))
  refine Pw.list (Pw.call (FormedRatio_ct c d z hc hd lc ld) rfl rfl rfl (by kernel_rfl) rfl rfl (fun w h => (hv w h)) ?_)
  intro _ _
  cases hg : formedR c d
  · rw [show rmulS a b c d = ([], [], 1) by unfold rmulS; rw [if_neg (by simp [hg])]]
    repeat (first | (with_reducible first | refine Pw.seq ?_ | refine Pw.region ?_ | refine Pw.nil ?_ | refine Pw.then_ ?_ | refine Pw.skip ?_ | refine Pw.block ?_ | refine Pw.exit ?_ | refine Pw.inX ?_ | refine Pw.inN ?_ | refine Pw.inR ?_ | refine Pw.thenX ?_ | refine Pw.thenR ?_ | refine Pw.ret ?_) | refine Pw.list (Pw.pure rfl rfl rfl ?_) | refine Pw.inY rfl ?_ | refine Pw.list (Pw.off rfl rfl ?_) | refine Pw.condT rfl ?_ | refine Pw.condF rfl ?_ | refine Pw.list (Pw.box rfl rfl rfl rfl (fun _ => freeHead ?_)) | refine Pw.list (Pw.alloc rfl rfl rfl rfl rfl (fun _ => ?_)) | refine Pw.list (Pw.build rfl rfl rfl rfl ?_) | refine Pw.list (Pw.ld rfl inferInstance rfl rfl rfl ?_) | refine Pw.list (Pw.sto rfl rfl inferInstance rfl rfl rfl rfl rfl inferInstance rfl ?_))
    exact Pw.ret_ (x := z0) (.cell rfl (fun w hs => hs.own _ (.head _)) rfl (.tmp rfl .nil)) rfl trivial (fun w h => R2.nil w)
  rw [key hf hg]
  obtain ⟨f1, f2, f3, _⟩ := formedR_spec ha hb hf
  obtain ⟨g1, g2, g3, _⟩ := formedR_spec hc hd hg
  have hq := Int.mul_pos (fm_pos hb f2 f3) (fm_pos hd g2 g3)
  repeat (first | (with_reducible first | refine Pw.seq ?_ | refine Pw.region ?_ | refine Pw.nil ?_ | refine Pw.then_ ?_ | refine Pw.skip ?_ | refine Pw.block ?_ | refine Pw.exit ?_ | refine Pw.inX ?_ | refine Pw.inN ?_ | refine Pw.inR ?_ | refine Pw.thenX ?_ | refine Pw.thenR ?_ | refine Pw.ret ?_) | refine Pw.list (Pw.pure rfl rfl rfl ?_) | refine Pw.inY rfl ?_ | refine Pw.list (Pw.off rfl rfl ?_) | refine Pw.condT rfl ?_ | refine Pw.condF rfl ?_ | refine Pw.list (Pw.box rfl rfl rfl rfl (fun _ => freeHead ?_)) | refine Pw.list (Pw.alloc rfl rfl rfl rfl rfl (fun _ => ?_)) | refine Pw.list (Pw.build rfl rfl rfl rfl ?_) | refine Pw.list (Pw.ld rfl inferInstance rfl rfl rfl ?_) | refine Pw.list (Pw.sto rfl rfl inferInstance rfl rfl rfl rfl rfl inferInstance rfl ?_))
  refine Pw.list (Pw.call (rmul_ct a c y.1 z.1 ha hc la lc) rfl rfl rfl (by kernel_rfl) rfl rfl (fun w h => ⟨(hv w h), (hv w h)⟩) ?_)
  intro z1 _
  repeat (first | (with_reducible first | refine Pw.seq ?_ | refine Pw.region ?_ | refine Pw.nil ?_ | refine Pw.then_ ?_ | refine Pw.skip ?_ | refine Pw.block ?_ | refine Pw.exit ?_ | refine Pw.inX ?_ | refine Pw.inN ?_ | refine Pw.inR ?_ | refine Pw.thenX ?_ | refine Pw.thenR ?_ | refine Pw.ret ?_) | refine Pw.list (Pw.pure rfl rfl rfl ?_) | refine Pw.inY rfl ?_ | refine Pw.list (Pw.off rfl rfl ?_) | refine Pw.condT rfl ?_ | refine Pw.condF rfl ?_ | refine Pw.list (Pw.box rfl rfl rfl rfl (fun _ => freeHead ?_)) | refine Pw.list (Pw.alloc rfl rfl rfl rfl rfl (fun _ => ?_)) | refine Pw.list (Pw.build rfl rfl rfl rfl ?_) | refine Pw.list (Pw.ld rfl inferInstance rfl rfl rfl ?_) | refine Pw.list (Pw.sto rfl rfl inferInstance rfl rfl rfl rfl rfl inferInstance rfl ?_))
  have hb1 := rbounded_ct (natL (val a * val c)) z1
  by_cases q1 : (natL (val a * val c)).length ≤ 400
  · rw [bd_ok q1] at hb1
    refine Pw.list (Pw.call hb1 rfl rfl rfl (by kernel_rfl) rfl rfl (fun w h => (hv w h)) ?_)
    intro z2 _
    repeat (first | (with_reducible first | refine Pw.seq ?_ | refine Pw.region ?_ | refine Pw.nil ?_ | refine Pw.then_ ?_ | refine Pw.skip ?_ | refine Pw.block ?_ | refine Pw.exit ?_ | refine Pw.inX ?_ | refine Pw.inN ?_ | refine Pw.inR ?_ | refine Pw.thenX ?_ | refine Pw.thenR ?_ | refine Pw.ret ?_) | refine Pw.list (Pw.pure rfl rfl rfl ?_) | refine Pw.inY rfl ?_ | refine Pw.list (Pw.off rfl rfl ?_) | refine Pw.condT rfl ?_ | refine Pw.condF rfl ?_ | refine Pw.list (Pw.box rfl rfl rfl rfl (fun _ => freeHead ?_)) | refine Pw.list (Pw.alloc rfl rfl rfl rfl rfl (fun _ => ?_)) | refine Pw.list (Pw.build rfl rfl rfl rfl ?_) | refine Pw.list (Pw.ld rfl inferInstance rfl rfl rfl ?_) | refine Pw.list (Pw.sto rfl rfl inferInstance rfl rfl rfl rfl rfl inferInstance rfl ?_))
    refine Pw.list (Pw.call (rmul_ct b d y.2 z.2 hb hd lb ld) rfl rfl rfl (by kernel_rfl) rfl rfl (fun w h => ⟨(hv w h), (hv w h)⟩) ?_)
    intro z3 _
    repeat (first | (with_reducible first | refine Pw.seq ?_ | refine Pw.region ?_ | refine Pw.nil ?_ | refine Pw.then_ ?_ | refine Pw.skip ?_ | refine Pw.block ?_ | refine Pw.exit ?_ | refine Pw.inX ?_ | refine Pw.inN ?_ | refine Pw.inR ?_ | refine Pw.thenX ?_ | refine Pw.thenR ?_ | refine Pw.ret ?_) | refine Pw.list (Pw.pure rfl rfl rfl ?_) | refine Pw.inY rfl ?_ | refine Pw.list (Pw.off rfl rfl ?_) | refine Pw.condT rfl ?_ | refine Pw.condF rfl ?_ | refine Pw.list (Pw.box rfl rfl rfl rfl (fun _ => freeHead ?_)) | refine Pw.list (Pw.alloc rfl rfl rfl rfl rfl (fun _ => ?_)) | refine Pw.list (Pw.build rfl rfl rfl rfl ?_) | refine Pw.list (Pw.ld rfl inferInstance rfl rfl rfl ?_) | refine Pw.list (Pw.sto rfl rfl inferInstance rfl rfl rfl rfl rfl inferInstance rfl ?_))
    have hb2 := rbounded_ct (natL (val b * val d)) z3
    by_cases q2 : (natL (val b * val d)).length ≤ 400
    · rw [bd_ok q2] at hb2
      rw [if_pos ⟨q1, q2⟩]
      have hl := low_len (p := 0) hq q2
      refine Pw.list (Pw.call hb2 rfl rfl rfl (by kernel_rfl) rfl rfl (fun w h => (hv w h)) ?_)
      intro z4 _
      repeat (first | (with_reducible first | refine Pw.seq ?_ | refine Pw.region ?_ | refine Pw.nil ?_ | refine Pw.then_ ?_ | refine Pw.skip ?_ | refine Pw.block ?_ | refine Pw.exit ?_ | refine Pw.inX ?_ | refine Pw.inN ?_ | refine Pw.inR ?_ | refine Pw.thenX ?_ | refine Pw.thenR ?_ | refine Pw.ret ?_) | refine Pw.list (Pw.pure rfl rfl rfl ?_) | refine Pw.inY rfl ?_ | refine Pw.list (Pw.off rfl rfl ?_) | refine Pw.condT rfl ?_ | refine Pw.condF rfl ?_ | refine Pw.list (Pw.box rfl rfl rfl rfl (fun _ => freeHead ?_)) | refine Pw.list (Pw.alloc rfl rfl rfl rfl rfl (fun _ => ?_)) | refine Pw.list (Pw.build rfl rfl rfl rfl ?_) | refine Pw.list (Pw.ld rfl inferInstance rfl rfl rfl ?_) | refine Pw.list (Pw.sto rfl rfl inferInstance rfl rfl rfl rfl rfl inferInstance rfl ?_))
      refine Pw.list (Pw.call (lowest_ct (natL (val a * val c)) (natL (val b * val d)) z2 z4 (natL_fm _) (natL_fm _) hl.1 (by omega) hl.2) rfl rfl rfl (by kernel_rfl) rfl rfl (fun w h => ⟨(hv w h), (hv w h)⟩) ?_)
      intro z5 _
      repeat (first | (with_reducible first | refine Pw.seq ?_ | refine Pw.region ?_ | refine Pw.nil ?_ | refine Pw.then_ ?_ | refine Pw.skip ?_ | refine Pw.block ?_ | refine Pw.exit ?_ | refine Pw.inX ?_ | refine Pw.inN ?_ | refine Pw.inR ?_ | refine Pw.thenX ?_ | refine Pw.thenR ?_ | refine Pw.ret ?_) | refine Pw.list (Pw.pure rfl rfl rfl ?_) | refine Pw.inY rfl ?_ | refine Pw.list (Pw.off rfl rfl ?_) | refine Pw.condT rfl ?_ | refine Pw.condF rfl ?_ | refine Pw.list (Pw.box rfl rfl rfl rfl (fun _ => freeHead ?_)) | refine Pw.list (Pw.alloc rfl rfl rfl rfl rfl (fun _ => ?_)) | refine Pw.list (Pw.build rfl rfl rfl rfl ?_) | refine Pw.list (Pw.ld rfl inferInstance rfl rfl rfl ?_) | refine Pw.list (Pw.sto rfl rfl inferInstance rfl rfl rfl rfl rfl inferInstance rfl ?_))
      exact Pw.ret_ (x := z5) (.cell rfl (fun w hs => hs.own _ (.head _)) rfl (.tmp rfl .nil)) rfl trivial (fun w h => fact0 h)
    · rw [bd_no q2] at hb2
      rw [if_neg (fun e => q2 e.2)]
      refine Pw.list (Pw.call hb2 rfl rfl rfl (by kernel_rfl) rfl rfl (fun w h => (hv w h)) ?_)
      intro z4 _
      repeat (first | (with_reducible first | refine Pw.seq ?_ | refine Pw.region ?_ | refine Pw.nil ?_ | refine Pw.then_ ?_ | refine Pw.skip ?_ | refine Pw.block ?_ | refine Pw.exit ?_ | refine Pw.inX ?_ | refine Pw.inN ?_ | refine Pw.inR ?_ | refine Pw.thenX ?_ | refine Pw.thenR ?_ | refine Pw.ret ?_) | refine Pw.list (Pw.pure rfl rfl rfl ?_) | refine Pw.inY rfl ?_ | refine Pw.list (Pw.off rfl rfl ?_) | refine Pw.condT rfl ?_ | refine Pw.condF rfl ?_ | refine Pw.list (Pw.box rfl rfl rfl rfl (fun _ => freeHead ?_)) | refine Pw.list (Pw.alloc rfl rfl rfl rfl rfl (fun _ => ?_)) | refine Pw.list (Pw.build rfl rfl rfl rfl ?_) | refine Pw.list (Pw.ld rfl inferInstance rfl rfl rfl ?_) | refine Pw.list (Pw.sto rfl rfl inferInstance rfl rfl rfl rfl rfl inferInstance rfl ?_))
      exact Pw.ret_ (x := z0) (.cell rfl (fun w hs => hs.own _ (.head _)) rfl (.tmp rfl .nil)) rfl trivial (fun w h => R2.nil w)
  · rw [bd_no q1] at hb1
    rw [if_neg (fun e => q1 e.1)]
    refine Pw.list (Pw.call hb1 rfl rfl rfl (by kernel_rfl) rfl rfl (fun w h => (hv w h)) ?_)
    intro z2 _
    repeat (first | (with_reducible first | refine Pw.seq ?_ | refine Pw.region ?_ | refine Pw.nil ?_ | refine Pw.then_ ?_ | refine Pw.skip ?_ | refine Pw.block ?_ | refine Pw.exit ?_ | refine Pw.inX ?_ | refine Pw.inN ?_ | refine Pw.inR ?_ | refine Pw.thenX ?_ | refine Pw.thenR ?_ | refine Pw.ret ?_) | refine Pw.list (Pw.pure rfl rfl rfl ?_) | refine Pw.inY rfl ?_ | refine Pw.list (Pw.off rfl rfl ?_) | refine Pw.condT rfl ?_ | refine Pw.condF rfl ?_ | refine Pw.list (Pw.box rfl rfl rfl rfl (fun _ => freeHead ?_)) | refine Pw.list (Pw.alloc rfl rfl rfl rfl rfl (fun _ => ?_)) | refine Pw.list (Pw.build rfl rfl rfl rfl ?_) | refine Pw.list (Pw.ld rfl inferInstance rfl rfl rfl ?_) | refine Pw.list (Pw.sto rfl rfl inferInstance rfl rfl rfl rfl rfl inferInstance rfl ?_))
    refine Pw.list (Pw.call (rmul_ct b d y.2 z.2 hb hd lb ld) rfl rfl rfl (by kernel_rfl) rfl rfl (fun w h => ⟨(hv w h), (hv w h)⟩) ?_)
    intro z3 _
    repeat (first | (with_reducible first | refine Pw.seq ?_ | refine Pw.region ?_ | refine Pw.nil ?_ | refine Pw.then_ ?_ | refine Pw.skip ?_ | refine Pw.block ?_ | refine Pw.exit ?_ | refine Pw.inX ?_ | refine Pw.inN ?_ | refine Pw.inR ?_ | refine Pw.thenX ?_ | refine Pw.thenR ?_ | refine Pw.ret ?_) | refine Pw.list (Pw.pure rfl rfl rfl ?_) | refine Pw.inY rfl ?_ | refine Pw.list (Pw.off rfl rfl ?_) | refine Pw.condT rfl ?_ | refine Pw.condF rfl ?_ | refine Pw.list (Pw.box rfl rfl rfl rfl (fun _ => freeHead ?_)) | refine Pw.list (Pw.alloc rfl rfl rfl rfl rfl (fun _ => ?_)) | refine Pw.list (Pw.build rfl rfl rfl rfl ?_) | refine Pw.list (Pw.ld rfl inferInstance rfl rfl rfl ?_) | refine Pw.list (Pw.sto rfl rfl inferInstance rfl rfl rfl rfl rfl inferInstance rfl ?_))
    refine Pw.list (Pw.call (rbounded_ct (natL (val b * val d)) z3) rfl rfl rfl (by kernel_rfl) rfl rfl (fun w h => (hv w h)) ?_)
    intro z4 _
    repeat (first | (with_reducible first | refine Pw.seq ?_ | refine Pw.region ?_ | refine Pw.nil ?_ | refine Pw.then_ ?_ | refine Pw.skip ?_ | refine Pw.block ?_ | refine Pw.exit ?_ | refine Pw.inX ?_ | refine Pw.inN ?_ | refine Pw.inR ?_ | refine Pw.thenX ?_ | refine Pw.thenR ?_ | refine Pw.ret ?_) | refine Pw.list (Pw.pure rfl rfl rfl ?_) | refine Pw.inY rfl ?_ | refine Pw.list (Pw.off rfl rfl ?_) | refine Pw.condT rfl ?_ | refine Pw.condF rfl ?_ | refine Pw.list (Pw.box rfl rfl rfl rfl (fun _ => freeHead ?_)) | refine Pw.list (Pw.alloc rfl rfl rfl rfl rfl (fun _ => ?_)) | refine Pw.list (Pw.build rfl rfl rfl rfl ?_) | refine Pw.list (Pw.ld rfl inferInstance rfl rfl rfl ?_) | refine Pw.list (Pw.sto rfl rfl inferInstance rfl rfl rfl rfl rfl inferInstance rfl ?_))
    exact Pw.ret_ (x := z0) (.cell rfl (fun w hs => hs.own _ (.head _)) rfl (.tmp rfl .nil)) rfl trivial (fun w h => R2.nil w)
theorem rDivRatio_ct (a b c d : List Int) (y z : Z2) (ha : Lm a) (hb : Lm b) (hc : Lm c) (hd : Lm d) (la : a.length < 1048576) (lb : b.length < 1048576) (lc : c.length < 1048576) (ld : d.length < 1048576) :
    Ct Try.prog 33 #[rt a b y, rt c d z] (fun W => R2 a b y W ∧ R2 c d z W) (fun x : Z2 => .tuple #[rt (rdivS a b c d).1 (rdivS a b c d).2.1 x, .int .i64 (rdivS a b c d).2.2]) Tt (fun x => R2 (rdivS a b c d).1 (rdivS a b c d).2.1 x) := by
  refine Ct.start Try.func33 rfl rfl (slots_of rfl slots2) (fun D w0 => Pw.facts two2 ?_)
  unfold rdivS
  repeat (first | (with_reducible first | refine Pw.seq ?_ | refine Pw.region ?_ | refine Pw.nil ?_ | refine Pw.then_ ?_ | refine Pw.skip ?_ | refine Pw.block ?_ | refine Pw.exit ?_ | refine Pw.inX ?_ | refine Pw.inN ?_ | refine Pw.inR ?_ | refine Pw.thenX ?_ | refine Pw.thenR ?_ | refine Pw.ret ?_) | refine Pw.list (Pw.pure rfl rfl rfl ?_) | refine Pw.inY rfl ?_ | refine Pw.list (Pw.off rfl rfl ?_) | refine Pw.condT rfl ?_ | refine Pw.condF rfl ?_ | refine Pw.list (Pw.box rfl rfl rfl rfl (fun _ => freeHead ?_)) | refine Pw.list (Pw.alloc rfl rfl rfl rfl rfl (fun _ => ?_)) | refine Pw.list (Pw.build rfl rfl rfl rfl ?_) | refine Pw.list (Pw.ld rfl inferInstance rfl rfl rfl ?_) | refine Pw.list (Pw.sto rfl rfl inferInstance rfl rfl rfl rfl rfl inferInstance rfl ?_))
  refine Pw.list (Pw.call (FormedRatio_ct a b y ha hb la lb) rfl rfl rfl (by kernel_rfl) rfl rfl (fun w h => (hv w h)) ?_)
  intro _ _
  cases hf : formedR a b
  · rw [if_neg (by simp [hf])]
    repeat (first | (with_reducible first | refine Pw.seq ?_ | refine Pw.region ?_ | refine Pw.nil ?_ | refine Pw.then_ ?_ | refine Pw.skip ?_ | refine Pw.block ?_ | refine Pw.exit ?_ | refine Pw.inX ?_ | refine Pw.inN ?_ | refine Pw.inR ?_ | refine Pw.thenX ?_ | refine Pw.thenR ?_ | refine Pw.ret ?_) | refine Pw.list (Pw.pure rfl rfl rfl ?_) | refine Pw.inY rfl ?_ | refine Pw.list (Pw.off rfl rfl ?_) | refine Pw.condT rfl ?_ | refine Pw.condF rfl ?_ | refine Pw.list (Pw.box rfl rfl rfl rfl (fun _ => freeHead ?_)) | refine Pw.list (Pw.alloc rfl rfl rfl rfl rfl (fun _ => ?_)) | refine Pw.list (Pw.build rfl rfl rfl rfl ?_) | refine Pw.list (Pw.ld rfl inferInstance rfl rfl rfl ?_) | refine Pw.list (Pw.sto rfl rfl inferInstance rfl rfl rfl rfl rfl inferInstance rfl ?_))
    exact Pw.ret_ (x := z0) (.cell rfl (fun w hs => hs.own _ (.head _)) rfl (.tmp rfl .nil)) rfl trivial (fun w h => R2.nil w)
  repeat (first | (with_reducible first | refine Pw.seq ?_ | refine Pw.region ?_ | refine Pw.nil ?_ | refine Pw.then_ ?_ | refine Pw.skip ?_ | refine Pw.block ?_ | refine Pw.exit ?_ | refine Pw.inX ?_ | refine Pw.inN ?_ | refine Pw.inR ?_ | refine Pw.thenX ?_ | refine Pw.thenR ?_ | refine Pw.ret ?_) | refine Pw.list (Pw.pure rfl rfl rfl ?_) | refine Pw.inY rfl ?_ | refine Pw.list (Pw.off rfl rfl ?_) | refine Pw.condT rfl ?_ | refine Pw.condF rfl ?_ | refine Pw.list (Pw.box rfl rfl rfl rfl (fun _ => freeHead ?_)) | refine Pw.list (Pw.alloc rfl rfl rfl rfl rfl (fun _ => ?_)) | refine Pw.list (Pw.build rfl rfl rfl rfl ?_) | refine Pw.list (Pw.ld rfl inferInstance rfl rfl rfl ?_) | refine Pw.list (Pw.sto rfl rfl inferInstance rfl rfl rfl rfl rfl inferInstance rfl ?_))
  refine Pw.list (Pw.call (FormedRatio_ct c d z hc hd lc ld) rfl rfl rfl (by kernel_rfl) rfl rfl (fun w h => (hv w h)) ?_)
  intro _ _
  cases hg : formedR c d
  · rw [if_neg (by simp [hg])]
    repeat (first | (with_reducible first | refine Pw.seq ?_ | refine Pw.region ?_ | refine Pw.nil ?_ | refine Pw.then_ ?_ | refine Pw.skip ?_ | refine Pw.block ?_ | refine Pw.exit ?_ | refine Pw.inX ?_ | refine Pw.inN ?_ | refine Pw.inR ?_ | refine Pw.thenX ?_ | refine Pw.thenR ?_ | refine Pw.ret ?_) | refine Pw.list (Pw.pure rfl rfl rfl ?_) | refine Pw.inY rfl ?_ | refine Pw.list (Pw.off rfl rfl ?_) | refine Pw.condT rfl ?_ | refine Pw.condF rfl ?_ | refine Pw.list (Pw.box rfl rfl rfl rfl (fun _ => freeHead ?_)) | refine Pw.list (Pw.alloc rfl rfl rfl rfl rfl (fun _ => ?_)) | refine Pw.list (Pw.build rfl rfl rfl rfl ?_) | refine Pw.list (Pw.ld rfl inferInstance rfl rfl rfl ?_) | refine Pw.list (Pw.sto rfl rfl inferInstance rfl rfl rfl rfl rfl inferInstance rfl ?_))
    exact Pw.ret_ (x := z0) (.cell rfl (fun w hs => hs.own _ (.head _)) rfl (.tmp rfl .nil)) rfl trivial (fun w h => R2.nil w)
  rw [if_pos (by simp [hf, hg])]
  repeat (first | (with_reducible first | refine Pw.seq ?_ | refine Pw.region ?_ | refine Pw.nil ?_ | refine Pw.then_ ?_ | refine Pw.skip ?_ | refine Pw.block ?_ | refine Pw.exit ?_ | refine Pw.inX ?_ | refine Pw.inN ?_ | refine Pw.inR ?_ | refine Pw.thenX ?_ | refine Pw.thenR ?_ | refine Pw.ret ?_) | refine Pw.list (Pw.pure rfl rfl rfl ?_) | refine Pw.inY rfl ?_ | refine Pw.list (Pw.off rfl rfl ?_) | refine Pw.condT rfl ?_ | refine Pw.condF rfl ?_ | refine Pw.list (Pw.box rfl rfl rfl rfl (fun _ => freeHead ?_)) | refine Pw.list (Pw.alloc rfl rfl rfl rfl rfl (fun _ => ?_)) | refine Pw.list (Pw.build rfl rfl rfl rfl ?_) | refine Pw.list (Pw.ld rfl inferInstance rfl rfl rfl ?_) | refine Pw.list (Pw.sto rfl rfl inferInstance rfl rfl rfl rfl rfl inferInstance rfl ?_))
  refine Pw.condD rfl (fun c1 => ?_) (fun c1 => ?_)
  · rw [if_pos (by omega)]
    repeat (first | (with_reducible first | refine Pw.seq ?_ | refine Pw.region ?_ | refine Pw.nil ?_ | refine Pw.then_ ?_ | refine Pw.skip ?_ | refine Pw.block ?_ | refine Pw.exit ?_ | refine Pw.inX ?_ | refine Pw.inN ?_ | refine Pw.inR ?_ | refine Pw.thenX ?_ | refine Pw.thenR ?_ | refine Pw.ret ?_) | refine Pw.list (Pw.pure rfl rfl rfl ?_) | refine Pw.inY rfl ?_ | refine Pw.list (Pw.off rfl rfl ?_) | refine Pw.condT rfl ?_ | refine Pw.condF rfl ?_ | refine Pw.list (Pw.box rfl rfl rfl rfl (fun _ => freeHead ?_)) | refine Pw.list (Pw.alloc rfl rfl rfl rfl rfl (fun _ => ?_)) | refine Pw.list (Pw.build rfl rfl rfl rfl ?_) | refine Pw.list (Pw.ld rfl inferInstance rfl rfl rfl ?_) | refine Pw.list (Pw.sto rfl rfl inferInstance rfl rfl rfl rfl rfl inferInstance rfl ?_))
    exact Pw.ret_ (x := z0) (.cell rfl (fun w hs => hs.own _ (.head _)) rfl (.tmp rfl .nil)) rfl trivial (fun w h => R2.nil w)
  · rw [if_neg (by omega)]
    repeat (first | (with_reducible first | refine Pw.seq ?_ | refine Pw.region ?_ | refine Pw.nil ?_ | refine Pw.then_ ?_ | refine Pw.skip ?_ | refine Pw.block ?_ | refine Pw.exit ?_ | refine Pw.inX ?_ | refine Pw.inN ?_ | refine Pw.inR ?_ | refine Pw.thenX ?_ | refine Pw.thenR ?_ | refine Pw.ret ?_) | refine Pw.list (Pw.pure rfl rfl rfl ?_) | refine Pw.inY rfl ?_ | refine Pw.list (Pw.off rfl rfl ?_) | refine Pw.condT rfl ?_ | refine Pw.condF rfl ?_ | refine Pw.list (Pw.box rfl rfl rfl rfl (fun _ => freeHead ?_)) | refine Pw.list (Pw.alloc rfl rfl rfl rfl rfl (fun _ => ?_)) | refine Pw.list (Pw.build rfl rfl rfl rfl ?_) | refine Pw.list (Pw.ld rfl inferInstance rfl rfl rfl ?_) | refine Pw.list (Pw.sto rfl rfl inferInstance rfl rfl rfl rfl rfl inferInstance rfl ?_))
    refine Pw.list (Pw.call (MulRatio_ct a b d c y (z.2, z.1) ha hb hd hc la lb ld lc) rfl rfl rfl (by kernel_rfl) rfl rfl (fun w h => ⟨(hv w h), (And.intro (hv w h) (hv w h) : R2 d c (z.2, z.1) w)⟩) ?_)
    intro x _
    repeat (first | (with_reducible first | refine Pw.seq ?_ | refine Pw.region ?_ | refine Pw.nil ?_ | refine Pw.then_ ?_ | refine Pw.skip ?_ | refine Pw.block ?_ | refine Pw.exit ?_ | refine Pw.inX ?_ | refine Pw.inN ?_ | refine Pw.inR ?_ | refine Pw.thenX ?_ | refine Pw.thenR ?_ | refine Pw.ret ?_) | refine Pw.list (Pw.pure rfl rfl rfl ?_) | refine Pw.inY rfl ?_ | refine Pw.list (Pw.off rfl rfl ?_) | refine Pw.condT rfl ?_ | refine Pw.condF rfl ?_ | refine Pw.list (Pw.box rfl rfl rfl rfl (fun _ => freeHead ?_)) | refine Pw.list (Pw.alloc rfl rfl rfl rfl rfl (fun _ => ?_)) | refine Pw.list (Pw.build rfl rfl rfl rfl ?_) | refine Pw.list (Pw.ld rfl inferInstance rfl rfl rfl ?_) | refine Pw.list (Pw.sto rfl rfl inferInstance rfl rfl rfl rfl rfl inferInstance rfl ?_))
    exact Pw.ret_ (x := x) (.cell rfl (fun w hs => hs.own _ (.head _)) rfl (.tmp rfl .nil)) rfl trivial (fun w h => fact0 h)
theorem rFloor_ct (a b : List Int) (z : Z2) (ha : Lm a) (hb : Lm b) (la : a.length < 1048576) (lb : b.length < 1048576) :
    Ct Try.prog 35 #[rt a b z] (R2 a b z) (fun x : Option Addr × Nat => .tuple #[sl (rfloorS a b).1 x, .int .i64 (rfloorS a b).2]) Tt (fun x => S1 (rfloorS a b).1 x) := by
  refine Ct.start Try.func35 rfl rfl (slots_of rfl slots1) (fun D w0 => ?_)
  unfold rfloorS
  repeat (first | (with_reducible first | refine Pw.seq ?_ | refine Pw.region ?_ | refine Pw.nil ?_ | refine Pw.then_ ?_ | refine Pw.skip ?_ | refine Pw.block ?_ | refine Pw.exit ?_ | refine Pw.inX ?_ | refine Pw.inN ?_ | refine Pw.inR ?_ | refine Pw.thenX ?_ | refine Pw.thenR ?_ | refine Pw.ret ?_) | refine Pw.list (Pw.pure rfl rfl rfl ?_) | refine Pw.inY rfl ?_ | refine Pw.list (Pw.off rfl rfl ?_) | refine Pw.condT rfl ?_ | refine Pw.condF rfl ?_ | refine Pw.list (Pw.box rfl rfl rfl rfl (fun _ => freeHead ?_)) | refine Pw.list (Pw.alloc rfl rfl rfl rfl rfl (fun _ => ?_)) | refine Pw.list (Pw.build rfl rfl rfl rfl ?_) | refine Pw.list (Pw.ld rfl inferInstance rfl rfl rfl ?_) | refine Pw.list (Pw.sto rfl rfl inferInstance rfl rfl rfl rfl rfl inferInstance rfl ?_))
  refine Pw.list (Pw.call (FormedRatio_ct a b z ha hb la lb) rfl rfl rfl (by kernel_rfl) rfl rfl (fun w h => (hv w h)) ?_)
  intro _ _
  cases e : formedR a b
  · rw [if_neg (by simp)]
    repeat (first | (with_reducible first | refine Pw.seq ?_ | refine Pw.region ?_ | refine Pw.nil ?_ | refine Pw.then_ ?_ | refine Pw.skip ?_ | refine Pw.block ?_ | refine Pw.exit ?_ | refine Pw.inX ?_ | refine Pw.inN ?_ | refine Pw.inR ?_ | refine Pw.thenX ?_ | refine Pw.thenR ?_ | refine Pw.ret ?_) | refine Pw.list (Pw.pure rfl rfl rfl ?_) | refine Pw.inY rfl ?_ | refine Pw.list (Pw.off rfl rfl ?_) | refine Pw.condT rfl ?_ | refine Pw.condF rfl ?_ | refine Pw.list (Pw.box rfl rfl rfl rfl (fun _ => freeHead ?_)) | refine Pw.list (Pw.alloc rfl rfl rfl rfl rfl (fun _ => ?_)) | refine Pw.list (Pw.build rfl rfl rfl rfl ?_) | refine Pw.list (Pw.ld rfl inferInstance rfl rfl rfl ?_) | refine Pw.list (Pw.sto rfl rfl inferInstance rfl rfl rfl rfl rfl inferInstance rfl ?_))
    exact Pw.ret_ (x := (none, 0)) (.tmp rfl (.tmp rfl .nil)) rfl trivial (fun w h => Rows.nil _ _ _ _ _)
  rw [if_pos rfl]
  obtain ⟨h1, h2, h3, _⟩ := formedR_spec ha hb e
  repeat (first | (with_reducible first | refine Pw.seq ?_ | refine Pw.region ?_ | refine Pw.nil ?_ | refine Pw.then_ ?_ | refine Pw.skip ?_ | refine Pw.block ?_ | refine Pw.exit ?_ | refine Pw.inX ?_ | refine Pw.inN ?_ | refine Pw.inR ?_ | refine Pw.thenX ?_ | refine Pw.thenR ?_ | refine Pw.ret ?_) | refine Pw.list (Pw.pure rfl rfl rfl ?_) | refine Pw.inY rfl ?_ | refine Pw.list (Pw.off rfl rfl ?_) | refine Pw.condT rfl ?_ | refine Pw.condF rfl ?_ | refine Pw.list (Pw.box rfl rfl rfl rfl (fun _ => freeHead ?_)) | refine Pw.list (Pw.alloc rfl rfl rfl rfl rfl (fun _ => ?_)) | refine Pw.list (Pw.build rfl rfl rfl rfl ?_) | refine Pw.list (Pw.ld rfl inferInstance rfl rfl rfl ?_) | refine Pw.list (Pw.sto rfl rfl inferInstance rfl rfl rfl rfl rfl inferInstance rfl ?_))
  refine Pw.list (Pw.call (rdivMod_ct a b z.1 z.2 ((fmB_iff ha).1 h1).2 ((fmB_iff hb).1 h2).2 (by omega) la lb) rfl rfl rfl (by kernel_rfl) rfl rfl (fun w h => ⟨(hv w h), (hv w h)⟩) ?_)
  intro z1 _
  repeat (first | (with_reducible first | refine Pw.seq ?_ | refine Pw.region ?_ | refine Pw.nil ?_ | refine Pw.then_ ?_ | refine Pw.skip ?_ | refine Pw.block ?_ | refine Pw.exit ?_ | refine Pw.inX ?_ | refine Pw.inN ?_ | refine Pw.inR ?_ | refine Pw.thenX ?_ | refine Pw.thenR ?_ | refine Pw.ret ?_) | refine Pw.list (Pw.pure rfl rfl rfl ?_) | refine Pw.inY rfl ?_ | refine Pw.list (Pw.off rfl rfl ?_) | refine Pw.condT rfl ?_ | refine Pw.condF rfl ?_ | refine Pw.list (Pw.box rfl rfl rfl rfl (fun _ => freeHead ?_)) | refine Pw.list (Pw.alloc rfl rfl rfl rfl rfl (fun _ => ?_)) | refine Pw.list (Pw.build rfl rfl rfl rfl ?_) | refine Pw.list (Pw.ld rfl inferInstance rfl rfl rfl ?_) | refine Pw.list (Pw.sto rfl rfl inferInstance rfl rfl rfl rfl rfl inferInstance rfl ?_))
  exact Pw.ret_ (x := z1.1) (.tmp rfl (.tmp rfl .nil)) rfl trivial (fun w h => (fact0 h).1)
end Go.Proofs.Wk
/- Walks of the laws of layer 2: their helpers. -/
namespace Go.Proofs.Wk
open Go.RowKit
set_option maxRecDepth 100000
attribute [local irreducible] Pw OpG
set_option linter.unusedVariables false
set_option linter.unusedSimpArgs false
theorem natL_3 : natL 3 = [3] := by rw [natL_cons (by omega), show (3 : Int) / 4294967296 = 0 by decide, natL_zero]; rfl
theorem natL_2 : natL 2 = [2] := by rw [natL_cons (by omega), show (2 : Int) / 4294967296 = 0 by decide, natL_zero]; rfl
theorem make64 : makeS (ofN 6) (ofN 4) = ([3], [2], 0) := by
  rw [makeS_of (by omega) (by omega), if_neg (by decide)]
  unfold lowS
  rw [ofN_val (by omega) (by omega), ofN_val (by omega) (by omega), show gcdI 6 4 = 2 by decide, show (6 : Int) / 2 = 3 by decide, show (4 : Int) / 2 = 2 by decide, natL_3, natL_2]
theorem awake_ct : Ct Try.prog 20 #[] (fun _ => True) (fun _ : Unit => .bool true) Tt (fun _ _ => True) := by
  have hc := rat_Of_ct 6 4
  rw [make64] at hc
  refine Ct.start Try.func20 rfl rfl (slots_of rfl slots0) (fun D w0 => ?_)
  repeat (first | (with_reducible first | refine Pw.seq ?_ | refine Pw.region ?_ | refine Pw.nil ?_ | refine Pw.then_ ?_ | refine Pw.skip ?_ | refine Pw.block ?_ | refine Pw.exit ?_ | refine Pw.inX ?_ | refine Pw.inN ?_ | refine Pw.inR ?_ | refine Pw.thenX ?_ | refine Pw.thenR ?_ | refine Pw.ret ?_) | refine Pw.list (Pw.pure rfl rfl rfl ?_) | refine Pw.inY rfl ?_ | refine Pw.list (Pw.off rfl rfl ?_) | refine Pw.condT rfl ?_ | refine Pw.condF rfl ?_ | refine Pw.list (Pw.box rfl rfl rfl rfl (fun _ => ?_)) | refine Pw.list (Pw.alloc rfl rfl rfl rfl rfl (fun _ => ?_)) | refine Pw.list (Pw.build rfl rfl rfl rfl ?_) | refine Pw.list (Pw.ld rfl inferInstance rfl rfl rfl ?_) | refine Pw.list (Pw.sto rfl rfl inferInstance rfl rfl rfl rfl rfl inferInstance rfl ?_))
  refine Pw.list (Pw.call hc rfl rfl rfl (by kernel_rfl) rfl rfl (fun w h => trivial) ?_)
  rintro ⟨⟨A, c⟩, z2⟩ _
  refine Pw.use (p := A.isSome = true) (fun w h => (fact0 h).1.has (i := 0) (by omega) (by simp)) (fun hA => ?_)
  obtain ⟨ad, rfl⟩ := some_of hA
  repeat (first | (with_reducible first | refine Pw.seq ?_ | refine Pw.region ?_ | refine Pw.nil ?_ | refine Pw.then_ ?_ | refine Pw.skip ?_ | refine Pw.block ?_ | refine Pw.exit ?_ | refine Pw.inX ?_ | refine Pw.inN ?_ | refine Pw.inR ?_ | refine Pw.thenX ?_ | refine Pw.thenR ?_ | refine Pw.ret ?_) | refine Pw.list (Pw.pure rfl rfl rfl ?_) | refine Pw.inY rfl ?_ | refine Pw.list (Pw.off rfl rfl ?_) | refine Pw.condT rfl ?_ | refine Pw.condF rfl ?_ | refine Pw.list (Pw.box rfl rfl rfl rfl (fun _ => ?_)) | refine Pw.list (Pw.alloc rfl rfl rfl rfl rfl (fun _ => ?_)) | refine Pw.list (Pw.build rfl rfl rfl rfl ?_) | refine Pw.list (Pw.ld rfl inferInstance rfl rfl rfl ?_) | refine Pw.list (Pw.sto rfl rfl inferInstance rfl rfl rfl rfl rfl inferInstance rfl ?_))
  refine Pw.list (Pw.indexS rfl rfl rfl rfl (Int.le_refl 0) (by show (0 : Int) < 1; omega) rfl rfl ?_)
  refine Pw.list (Pw.load1 rfl rfl (fun w hs => (fact0 hs.all).1.cell (i := 0) (Int.le_refl 0) (by show (0 : Int) < 1; omega)) rfl rfl ?_)
  repeat (first | (with_reducible first | refine Pw.seq ?_ | refine Pw.region ?_ | refine Pw.nil ?_ | refine Pw.then_ ?_ | refine Pw.skip ?_ | refine Pw.block ?_ | refine Pw.exit ?_ | refine Pw.inX ?_ | refine Pw.inN ?_ | refine Pw.inR ?_ | refine Pw.thenX ?_ | refine Pw.thenR ?_ | refine Pw.ret ?_) | refine Pw.list (Pw.pure rfl rfl rfl ?_) | refine Pw.inY rfl ?_ | refine Pw.list (Pw.off rfl rfl ?_) | refine Pw.condT rfl ?_ | refine Pw.condF rfl ?_ | refine Pw.list (Pw.box rfl rfl rfl rfl (fun _ => ?_)) | refine Pw.list (Pw.alloc rfl rfl rfl rfl rfl (fun _ => ?_)) | refine Pw.list (Pw.build rfl rfl rfl rfl ?_) | refine Pw.list (Pw.ld rfl inferInstance rfl rfl rfl ?_) | refine Pw.list (Pw.sto rfl rfl inferInstance rfl rfl rfl rfl rfl inferInstance rfl ?_))
  exact Pw.ret_ (x := ()) (.tmp rfl .nil) rfl trivial (fun w h => by trivial)
theorem Theirs_ct (a b : List Int) (z : Z2) : Ct Try.prog 28 #[rt a b z] (fun _ => True) (fun _ : Unit => rt a b z) Tt (fun _ _ => True) := by
  refine Ct.start Try.func28 rfl rfl (slots_of rfl slots1) (fun D w0 => ?_)
  repeat (first | (with_reducible first | refine Pw.seq ?_ | refine Pw.region ?_ | refine Pw.nil ?_ | refine Pw.then_ ?_ | refine Pw.skip ?_ | refine Pw.block ?_ | refine Pw.exit ?_ | refine Pw.inX ?_ | refine Pw.inN ?_ | refine Pw.inR ?_ | refine Pw.thenX ?_ | refine Pw.thenR ?_ | refine Pw.ret ?_) | refine Pw.list (Pw.pure rfl rfl rfl ?_) | refine Pw.inY rfl ?_ | refine Pw.list (Pw.off rfl rfl ?_) | refine Pw.condT rfl ?_ | refine Pw.condF rfl ?_ | refine Pw.list (Pw.box rfl rfl rfl rfl (fun _ => freeHead ?_)) | refine Pw.list (Pw.alloc rfl rfl rfl rfl rfl (fun _ => ?_)) | refine Pw.list (Pw.build rfl rfl rfl rfl ?_) | refine Pw.list (Pw.ld rfl inferInstance rfl rfl rfl ?_) | refine Pw.list (Pw.sto rfl rfl inferInstance rfl rfl rfl rfl rfl inferInstance rfl ?_))
  exact Pw.ret_ (x := ()) (.cell rfl (fun w hs => hs.own _ (.head _)) rfl .nil) rfl trivial (fun w h => by trivial)
theorem Ours_ct (a b : List Int) (z : Z2) : Ct Try.prog 68 #[rt a b z] (fun _ => True) (fun _ : Unit => rt a b z) Tt (fun _ _ => True) := by
  refine Ct.start Try.func68 rfl rfl (slots_of rfl slots1) (fun D w0 => ?_)
  repeat (first | (with_reducible first | refine Pw.seq ?_ | refine Pw.region ?_ | refine Pw.nil ?_ | refine Pw.then_ ?_ | refine Pw.skip ?_ | refine Pw.block ?_ | refine Pw.exit ?_ | refine Pw.inX ?_ | refine Pw.inN ?_ | refine Pw.inR ?_ | refine Pw.thenX ?_ | refine Pw.thenR ?_ | refine Pw.ret ?_) | refine Pw.list (Pw.pure rfl rfl rfl ?_) | refine Pw.inY rfl ?_ | refine Pw.list (Pw.off rfl rfl ?_) | refine Pw.condT rfl ?_ | refine Pw.condF rfl ?_ | refine Pw.list (Pw.box rfl rfl rfl rfl (fun _ => freeHead ?_)) | refine Pw.list (Pw.alloc rfl rfl rfl rfl rfl (fun _ => ?_)) | refine Pw.list (Pw.build rfl rfl rfl rfl ?_) | refine Pw.list (Pw.ld rfl inferInstance rfl rfl rfl ?_) | refine Pw.list (Pw.sto rfl rfl inferInstance rfl rfl rfl rfl rfl inferInstance rfl ?_))
  exact Pw.ret_ (x := ()) (.cell rfl (fun w hs => hs.own _ (.head _)) rfl .nil) rfl trivial (fun w h => by trivial)
theorem rat_Same_ct (a b : List Int) (y z : Z2) (ha : Fm a) (hb : Fm b) (la : a.length < 1048576) (lb : b.length < 1048576) :
    Ct Try.prog 25 #[rt a b y, rt a b z] (fun W => R2 a b y W ∧ R2 a b z W) (fun _ : Unit => .bool true) Tt (fun _ _ => True) := by
  refine Ct.start Try.func25 rfl rfl (slots_of rfl slots2) (fun D w0 => Pw.facts two2 ?_)
  repeat (first | (with_reducible first | refine Pw.seq ?_ | refine Pw.region ?_ | refine Pw.nil ?_ | refine Pw.then_ ?_ | refine Pw.skip ?_ | refine Pw.block ?_ | refine Pw.exit ?_ | refine Pw.inX ?_ | refine Pw.inN ?_ | refine Pw.inR ?_ | refine Pw.thenX ?_ | refine Pw.thenR ?_ | refine Pw.ret ?_) | refine Pw.list (Pw.pure rfl rfl rfl ?_) | refine Pw.inY rfl ?_ | refine Pw.list (Pw.off rfl rfl ?_) | refine Pw.condT rfl ?_ | refine Pw.condF rfl ?_ | refine Pw.list (Pw.box rfl rfl rfl rfl (fun _ => freeHead ?_)) | refine Pw.list (Pw.alloc rfl rfl rfl rfl rfl (fun _ => ?_)) | refine Pw.list (Pw.build rfl rfl rfl rfl ?_) | refine Pw.list (Pw.ld rfl inferInstance rfl rfl rfl ?_) | refine Pw.list (Pw.sto rfl rfl inferInstance rfl rfl rfl rfl rfl inferInstance rfl ?_))
  have hs := SameRatio_ct a b a b y z ha hb ha hb la lb la lb
  rw [decide_eq_true rfl, decide_eq_true rfl] at hs
  refine Pw.drawnG mixed rfl rfl ?_
  refine Pw.takeF 0 (nb 5 1) rfl rfl inferInstance rfl rfl rfl (by kernel_rfl) np sf ?_
  refine Pw.takeF 2 (nb 5 5) rfl rfl inferInstance rfl rfl rfl (by kernel_rfl) np sf ?_
  refine Pw.one 1 (nb 5 7) rfl (by kernel_rfl) ?_
  refine Pw.call (Ours_ct a b y) rfl rfl rfl (by kernel_rfl) rfl rfl (fun w h => trivial) ?_
  intro _ _
  refine Pw.held sf ?_
  refine Pw.one 3 (nb 5 15) rfl (by kernel_rfl) ?_
  refine Pw.call hs rfl rfl rfl (by kernel_rfl) rfl rfl (fun w h => ⟨(by first | exact fact3 h | exact fact3 (allTail h) | exact fact2 h), (by first | exact fact3 (allTail h) | exact fact3 h)⟩) ?_
  intro _ _
  refine Pw.held sf ?_
  refine Pw.takeP 4 (nb 5 31) rfl rfl rfl rfl (by kernel_rfl) np sf ?_
  refine Pw.done (by kernel_rfl) ?_
  skip
  repeat (first | (with_reducible first | refine Pw.seq ?_ | refine Pw.region ?_ | refine Pw.nil ?_ | refine Pw.then_ ?_ | refine Pw.skip ?_ | refine Pw.block ?_ | refine Pw.exit ?_ | refine Pw.inX ?_ | refine Pw.inN ?_ | refine Pw.inR ?_ | refine Pw.thenX ?_ | refine Pw.thenR ?_ | refine Pw.ret ?_) | refine Pw.list (Pw.pure rfl rfl rfl ?_) | refine Pw.inY rfl ?_ | refine Pw.list (Pw.off rfl rfl ?_) | refine Pw.condT rfl ?_ | refine Pw.condF rfl ?_)
  exact Pw.ret_ (x := ()) (.tmp rfl .nil) rfl trivial (fun w h => by trivial)
theorem Few_ct (a b c d : List Int) (y z : Z2) (g : Nat) : Ct Try.prog 21 #[.slice (some ⟨g, 0, none⟩) 2 2] (fun W => W.heap[g]? = some (row [sl a y.1, sl b y.2, sl c z.1, sl d z.2] 39)) (fun r : Bool => .bool r) (fun r => r = true → a.length ≤ 24 ∧ b.length ≤ 24 ∧ c.length ≤ 24 ∧ d.length ≤ 24) (fun _ _ => True) := by
  refine Ct.start Try.func21 rfl rfl (slots_of rfl slots1) (fun D w0 => ?_)
  repeat (first | (with_reducible first | refine Pw.seq ?_ | refine Pw.region ?_ | refine Pw.nil ?_ | refine Pw.then_ ?_ | refine Pw.skip ?_ | refine Pw.block ?_ | refine Pw.exit ?_ | refine Pw.inX ?_ | refine Pw.inN ?_ | refine Pw.inR ?_ | refine Pw.thenX ?_ | refine Pw.thenR ?_ | refine Pw.ret ?_) | refine Pw.list (Pw.pure rfl rfl rfl ?_) | refine Pw.inY rfl ?_ | refine Pw.list (Pw.off rfl rfl ?_) | refine Pw.condT rfl ?_ | refine Pw.condF rfl ?_ | refine Pw.list (Pw.box rfl rfl rfl rfl (fun _ => ?_)) | refine Pw.list (Pw.alloc rfl rfl rfl rfl rfl (fun _ => ?_)) | refine Pw.list (Pw.build rfl rfl rfl rfl ?_) | refine Pw.list (Pw.ld rfl inferInstance rfl rfl rfl ?_) | refine Pw.list (Pw.sto rfl rfl inferInstance rfl rfl rfl rfl rfl inferInstance rfl ?_))
  refine Pw.rounds 3 (Pw.round ?_)
  repeat (first | (with_reducible first | refine Pw.seq ?_ | refine Pw.region ?_ | refine Pw.nil ?_ | refine Pw.then_ ?_ | refine Pw.skip ?_ | refine Pw.block ?_ | refine Pw.exit ?_ | refine Pw.inX ?_ | refine Pw.inN ?_ | refine Pw.inR ?_ | refine Pw.thenX ?_ | refine Pw.thenR ?_ | refine Pw.ret ?_) | refine Pw.list (Pw.pure rfl rfl rfl ?_) | refine Pw.inY rfl ?_ | refine Pw.list (Pw.off rfl rfl ?_) | refine Pw.condT rfl ?_ | refine Pw.condF rfl ?_ | refine Pw.list (Pw.box rfl rfl rfl rfl (fun _ => ?_)) | refine Pw.list (Pw.alloc rfl rfl rfl rfl rfl (fun _ => ?_)) | refine Pw.list (Pw.build rfl rfl rfl rfl ?_) | refine Pw.list (Pw.ld rfl inferInstance rfl rfl rfl ?_) | refine Pw.list (Pw.sto rfl rfl inferInstance rfl rfl rfl rfl rfl inferInstance rfl ?_))
  refine Pw.list (Pw.indexO rfl rfl rfl rfl (Int.le_refl 0) (by show (0 : Int) < 2; omega) rfl rfl ?_)
  repeat (first | (with_reducible first | refine Pw.seq ?_ | refine Pw.region ?_ | refine Pw.nil ?_ | refine Pw.then_ ?_ | refine Pw.skip ?_ | refine Pw.block ?_ | refine Pw.exit ?_ | refine Pw.inX ?_ | refine Pw.inN ?_ | refine Pw.inR ?_ | refine Pw.thenX ?_ | refine Pw.thenR ?_ | refine Pw.ret ?_) | refine Pw.list (Pw.pure rfl rfl rfl ?_) | refine Pw.inY rfl ?_ | refine Pw.list (Pw.off rfl rfl ?_) | refine Pw.condT rfl ?_ | refine Pw.condF rfl ?_ | refine Pw.list (Pw.box rfl rfl rfl rfl (fun _ => ?_)) | refine Pw.list (Pw.alloc rfl rfl rfl rfl rfl (fun _ => ?_)) | refine Pw.list (Pw.build rfl rfl rfl rfl ?_) | refine Pw.list (Pw.ld rfl inferInstance rfl rfl rfl ?_) | refine Pw.list (Pw.sto rfl rfl inferInstance rfl rfl rfl rfl rfl inferInstance rfl ?_))
  refine Pw.split 16 rfl (fun c1 => ?_) (fun c1 => ?_)
  · repeat (first | (with_reducible first | refine Pw.seq ?_ | refine Pw.region ?_ | refine Pw.nil ?_ | refine Pw.then_ ?_ | refine Pw.skip ?_ | refine Pw.block ?_ | refine Pw.exit ?_ | refine Pw.inX ?_ | refine Pw.inN ?_ | refine Pw.inR ?_ | refine Pw.thenX ?_ | refine Pw.thenR ?_ | refine Pw.ret ?_) | refine Pw.list (Pw.pure rfl rfl rfl ?_) | refine Pw.inY rfl ?_ | refine Pw.list (Pw.off rfl rfl ?_) | refine Pw.condT rfl ?_ | refine Pw.condF rfl ?_ | refine Pw.list (Pw.box rfl rfl rfl rfl (fun _ => ?_)) | refine Pw.list (Pw.alloc rfl rfl rfl rfl rfl (fun _ => ?_)) | refine Pw.list (Pw.build rfl rfl rfl rfl ?_) | refine Pw.list (Pw.ld rfl inferInstance rfl rfl rfl ?_) | refine Pw.list (Pw.sto rfl rfl inferInstance rfl rfl rfl rfl rfl inferInstance rfl ?_))
    exact Pw.ret_ (x := false) (.tmp rfl .nil) rfl (fun e => by cases e) (fun w h => by trivial)
  repeat (first | (with_reducible first | refine Pw.seq ?_ | refine Pw.region ?_ | refine Pw.nil ?_ | refine Pw.then_ ?_ | refine Pw.skip ?_ | refine Pw.block ?_ | refine Pw.exit ?_ | refine Pw.inX ?_ | refine Pw.inN ?_ | refine Pw.inR ?_ | refine Pw.thenX ?_ | refine Pw.thenR ?_ | refine Pw.ret ?_) | refine Pw.list (Pw.pure rfl rfl rfl ?_) | refine Pw.inY rfl ?_ | refine Pw.list (Pw.off rfl rfl ?_) | refine Pw.condT rfl ?_ | refine Pw.condF rfl ?_ | refine Pw.list (Pw.box rfl rfl rfl rfl (fun _ => ?_)) | refine Pw.list (Pw.alloc rfl rfl rfl rfl rfl (fun _ => ?_)) | refine Pw.list (Pw.build rfl rfl rfl rfl ?_) | refine Pw.list (Pw.ld rfl inferInstance rfl rfl rfl ?_) | refine Pw.list (Pw.sto rfl rfl inferInstance rfl rfl rfl rfl rfl inferInstance rfl ?_))
  refine Pw.list (Pw.indexO rfl rfl rfl rfl (Int.le_refl 0) (by show (0 : Int) < 2; omega) rfl rfl ?_)
  repeat (first | (with_reducible first | refine Pw.seq ?_ | refine Pw.region ?_ | refine Pw.nil ?_ | refine Pw.then_ ?_ | refine Pw.skip ?_ | refine Pw.block ?_ | refine Pw.exit ?_ | refine Pw.inX ?_ | refine Pw.inN ?_ | refine Pw.inR ?_ | refine Pw.thenX ?_ | refine Pw.thenR ?_ | refine Pw.ret ?_) | refine Pw.list (Pw.pure rfl rfl rfl ?_) | refine Pw.inY rfl ?_ | refine Pw.list (Pw.off rfl rfl ?_) | refine Pw.condT rfl ?_ | refine Pw.condF rfl ?_ | refine Pw.list (Pw.box rfl rfl rfl rfl (fun _ => ?_)) | refine Pw.list (Pw.alloc rfl rfl rfl rfl rfl (fun _ => ?_)) | refine Pw.list (Pw.build rfl rfl rfl rfl ?_) | refine Pw.list (Pw.ld rfl inferInstance rfl rfl rfl ?_) | refine Pw.list (Pw.sto rfl rfl inferInstance rfl rfl rfl rfl rfl inferInstance rfl ?_))
  refine Pw.condD rfl (fun c2 => ?_) (fun c2 => ?_)
  · repeat (first | (with_reducible first | refine Pw.seq ?_ | refine Pw.region ?_ | refine Pw.nil ?_ | refine Pw.then_ ?_ | refine Pw.skip ?_ | refine Pw.block ?_ | refine Pw.exit ?_ | refine Pw.inX ?_ | refine Pw.inN ?_ | refine Pw.inR ?_ | refine Pw.thenX ?_ | refine Pw.thenR ?_ | refine Pw.ret ?_) | refine Pw.list (Pw.pure rfl rfl rfl ?_) | refine Pw.inY rfl ?_ | refine Pw.list (Pw.off rfl rfl ?_) | refine Pw.condT rfl ?_ | refine Pw.condF rfl ?_ | refine Pw.list (Pw.box rfl rfl rfl rfl (fun _ => ?_)) | refine Pw.list (Pw.alloc rfl rfl rfl rfl rfl (fun _ => ?_)) | refine Pw.list (Pw.build rfl rfl rfl rfl ?_) | refine Pw.list (Pw.ld rfl inferInstance rfl rfl rfl ?_) | refine Pw.list (Pw.sto rfl rfl inferInstance rfl rfl rfl rfl rfl inferInstance rfl ?_))
    exact Pw.ret_ (x := false) (.tmp rfl .nil) rfl (fun e => by cases e) (fun w h => by trivial)
  repeat (first | (with_reducible first | refine Pw.seq ?_ | refine Pw.region ?_ | refine Pw.nil ?_ | refine Pw.then_ ?_ | refine Pw.skip ?_ | refine Pw.block ?_ | refine Pw.exit ?_ | refine Pw.inX ?_ | refine Pw.inN ?_ | refine Pw.inR ?_ | refine Pw.thenX ?_ | refine Pw.thenR ?_ | refine Pw.ret ?_) | refine Pw.list (Pw.pure rfl rfl rfl ?_) | refine Pw.inY rfl ?_ | refine Pw.list (Pw.off rfl rfl ?_) | refine Pw.condT rfl ?_ | refine Pw.condF rfl ?_ | refine Pw.list (Pw.box rfl rfl rfl rfl (fun _ => ?_)) | refine Pw.list (Pw.alloc rfl rfl rfl rfl rfl (fun _ => ?_)) | refine Pw.list (Pw.build rfl rfl rfl rfl ?_) | refine Pw.list (Pw.ld rfl inferInstance rfl rfl rfl ?_) | refine Pw.list (Pw.sto rfl rfl inferInstance rfl rfl rfl rfl rfl inferInstance rfl ?_))
  refine Pw.re (d := 6) (v' := .int .i64 1) rfl (congrArg (Value.int .i64) (wi64 (by omega) (by omega))) ?_
  refine Pw.round ?_
  repeat (first | (with_reducible first | refine Pw.seq ?_ | refine Pw.region ?_ | refine Pw.nil ?_ | refine Pw.then_ ?_ | refine Pw.skip ?_ | refine Pw.block ?_ | refine Pw.exit ?_ | refine Pw.inX ?_ | refine Pw.inN ?_ | refine Pw.inR ?_ | refine Pw.thenX ?_ | refine Pw.thenR ?_ | refine Pw.ret ?_) | refine Pw.list (Pw.pure rfl rfl rfl ?_) | refine Pw.inY rfl ?_ | refine Pw.list (Pw.off rfl rfl ?_) | refine Pw.condT rfl ?_ | refine Pw.condF rfl ?_ | refine Pw.list (Pw.box rfl rfl rfl rfl (fun _ => ?_)) | refine Pw.list (Pw.alloc rfl rfl rfl rfl rfl (fun _ => ?_)) | refine Pw.list (Pw.build rfl rfl rfl rfl ?_) | refine Pw.list (Pw.ld rfl inferInstance rfl rfl rfl ?_) | refine Pw.list (Pw.sto rfl rfl inferInstance rfl rfl rfl rfl rfl inferInstance rfl ?_))
  refine Pw.list (Pw.indexO rfl rfl rfl rfl (show (0 : Int) ≤ 1 by omega) (by show (1 : Int) < 2; omega) rfl rfl ?_)
  repeat (first | (with_reducible first | refine Pw.seq ?_ | refine Pw.region ?_ | refine Pw.nil ?_ | refine Pw.then_ ?_ | refine Pw.skip ?_ | refine Pw.block ?_ | refine Pw.exit ?_ | refine Pw.inX ?_ | refine Pw.inN ?_ | refine Pw.inR ?_ | refine Pw.thenX ?_ | refine Pw.thenR ?_ | refine Pw.ret ?_) | refine Pw.list (Pw.pure rfl rfl rfl ?_) | refine Pw.inY rfl ?_ | refine Pw.list (Pw.off rfl rfl ?_) | refine Pw.condT rfl ?_ | refine Pw.condF rfl ?_ | refine Pw.list (Pw.box rfl rfl rfl rfl (fun _ => ?_)) | refine Pw.list (Pw.alloc rfl rfl rfl rfl rfl (fun _ => ?_)) | refine Pw.list (Pw.build rfl rfl rfl rfl ?_) | refine Pw.list (Pw.ld rfl inferInstance rfl rfl rfl ?_) | refine Pw.list (Pw.sto rfl rfl inferInstance rfl rfl rfl rfl rfl inferInstance rfl ?_))
  refine Pw.split 16 rfl (fun c3 => ?_) (fun c3 => ?_)
  · repeat (first | (with_reducible first | refine Pw.seq ?_ | refine Pw.region ?_ | refine Pw.nil ?_ | refine Pw.then_ ?_ | refine Pw.skip ?_ | refine Pw.block ?_ | refine Pw.exit ?_ | refine Pw.inX ?_ | refine Pw.inN ?_ | refine Pw.inR ?_ | refine Pw.thenX ?_ | refine Pw.thenR ?_ | refine Pw.ret ?_) | refine Pw.list (Pw.pure rfl rfl rfl ?_) | refine Pw.inY rfl ?_ | refine Pw.list (Pw.off rfl rfl ?_) | refine Pw.condT rfl ?_ | refine Pw.condF rfl ?_ | refine Pw.list (Pw.box rfl rfl rfl rfl (fun _ => ?_)) | refine Pw.list (Pw.alloc rfl rfl rfl rfl rfl (fun _ => ?_)) | refine Pw.list (Pw.build rfl rfl rfl rfl ?_) | refine Pw.list (Pw.ld rfl inferInstance rfl rfl rfl ?_) | refine Pw.list (Pw.sto rfl rfl inferInstance rfl rfl rfl rfl rfl inferInstance rfl ?_))
    exact Pw.ret_ (x := false) (.tmp rfl .nil) rfl (fun e => by cases e) (fun w h => by trivial)
  repeat (first | (with_reducible first | refine Pw.seq ?_ | refine Pw.region ?_ | refine Pw.nil ?_ | refine Pw.then_ ?_ | refine Pw.skip ?_ | refine Pw.block ?_ | refine Pw.exit ?_ | refine Pw.inX ?_ | refine Pw.inN ?_ | refine Pw.inR ?_ | refine Pw.thenX ?_ | refine Pw.thenR ?_ | refine Pw.ret ?_) | refine Pw.list (Pw.pure rfl rfl rfl ?_) | refine Pw.inY rfl ?_ | refine Pw.list (Pw.off rfl rfl ?_) | refine Pw.condT rfl ?_ | refine Pw.condF rfl ?_ | refine Pw.list (Pw.box rfl rfl rfl rfl (fun _ => ?_)) | refine Pw.list (Pw.alloc rfl rfl rfl rfl rfl (fun _ => ?_)) | refine Pw.list (Pw.build rfl rfl rfl rfl ?_) | refine Pw.list (Pw.ld rfl inferInstance rfl rfl rfl ?_) | refine Pw.list (Pw.sto rfl rfl inferInstance rfl rfl rfl rfl rfl inferInstance rfl ?_))
  refine Pw.list (Pw.indexO rfl rfl rfl rfl (show (0 : Int) ≤ 1 by omega) (by show (1 : Int) < 2; omega) rfl rfl ?_)
  repeat (first | (with_reducible first | refine Pw.seq ?_ | refine Pw.region ?_ | refine Pw.nil ?_ | refine Pw.then_ ?_ | refine Pw.skip ?_ | refine Pw.block ?_ | refine Pw.exit ?_ | refine Pw.inX ?_ | refine Pw.inN ?_ | refine Pw.inR ?_ | refine Pw.thenX ?_ | refine Pw.thenR ?_ | refine Pw.ret ?_) | refine Pw.list (Pw.pure rfl rfl rfl ?_) | refine Pw.inY rfl ?_ | refine Pw.list (Pw.off rfl rfl ?_) | refine Pw.condT rfl ?_ | refine Pw.condF rfl ?_ | refine Pw.list (Pw.box rfl rfl rfl rfl (fun _ => ?_)) | refine Pw.list (Pw.alloc rfl rfl rfl rfl rfl (fun _ => ?_)) | refine Pw.list (Pw.build rfl rfl rfl rfl ?_) | refine Pw.list (Pw.ld rfl inferInstance rfl rfl rfl ?_) | refine Pw.list (Pw.sto rfl rfl inferInstance rfl rfl rfl rfl rfl inferInstance rfl ?_))
  refine Pw.condD rfl (fun c4 => ?_) (fun c4 => ?_)
  · repeat (first | (with_reducible first | refine Pw.seq ?_ | refine Pw.region ?_ | refine Pw.nil ?_ | refine Pw.then_ ?_ | refine Pw.skip ?_ | refine Pw.block ?_ | refine Pw.exit ?_ | refine Pw.inX ?_ | refine Pw.inN ?_ | refine Pw.inR ?_ | refine Pw.thenX ?_ | refine Pw.thenR ?_ | refine Pw.ret ?_) | refine Pw.list (Pw.pure rfl rfl rfl ?_) | refine Pw.inY rfl ?_ | refine Pw.list (Pw.off rfl rfl ?_) | refine Pw.condT rfl ?_ | refine Pw.condF rfl ?_ | refine Pw.list (Pw.box rfl rfl rfl rfl (fun _ => ?_)) | refine Pw.list (Pw.alloc rfl rfl rfl rfl rfl (fun _ => ?_)) | refine Pw.list (Pw.build rfl rfl rfl rfl ?_) | refine Pw.list (Pw.ld rfl inferInstance rfl rfl rfl ?_) | refine Pw.list (Pw.sto rfl rfl inferInstance rfl rfl rfl rfl rfl inferInstance rfl ?_))
    exact Pw.ret_ (x := false) (.tmp rfl .nil) rfl (fun e => by cases e) (fun w h => by trivial)
  repeat (first | (with_reducible first | refine Pw.seq ?_ | refine Pw.region ?_ | refine Pw.nil ?_ | refine Pw.then_ ?_ | refine Pw.skip ?_ | refine Pw.block ?_ | refine Pw.exit ?_ | refine Pw.inX ?_ | refine Pw.inN ?_ | refine Pw.inR ?_ | refine Pw.thenX ?_ | refine Pw.thenR ?_ | refine Pw.ret ?_) | refine Pw.list (Pw.pure rfl rfl rfl ?_) | refine Pw.inY rfl ?_ | refine Pw.list (Pw.off rfl rfl ?_) | refine Pw.condT rfl ?_ | refine Pw.condF rfl ?_ | refine Pw.list (Pw.box rfl rfl rfl rfl (fun _ => ?_)) | refine Pw.list (Pw.alloc rfl rfl rfl rfl rfl (fun _ => ?_)) | refine Pw.list (Pw.build rfl rfl rfl rfl ?_) | refine Pw.list (Pw.ld rfl inferInstance rfl rfl rfl ?_) | refine Pw.list (Pw.sto rfl rfl inferInstance rfl rfl rfl rfl rfl inferInstance rfl ?_))
  refine Pw.re (d := 6) (v' := .int .i64 2) rfl (congrArg (Value.int .i64) (wi64 (by omega) (by omega))) ?_
  refine Pw.round ?_
  repeat (first | (with_reducible first | refine Pw.seq ?_ | refine Pw.region ?_ | refine Pw.nil ?_ | refine Pw.then_ ?_ | refine Pw.skip ?_ | refine Pw.block ?_ | refine Pw.exit ?_ | refine Pw.inX ?_ | refine Pw.inN ?_ | refine Pw.inR ?_ | refine Pw.thenX ?_ | refine Pw.thenR ?_ | refine Pw.ret ?_) | refine Pw.list (Pw.pure rfl rfl rfl ?_) | refine Pw.inY rfl ?_ | refine Pw.list (Pw.off rfl rfl ?_) | refine Pw.condT rfl ?_ | refine Pw.condF rfl ?_ | refine Pw.list (Pw.box rfl rfl rfl rfl (fun _ => ?_)) | refine Pw.list (Pw.alloc rfl rfl rfl rfl rfl (fun _ => ?_)) | refine Pw.list (Pw.build rfl rfl rfl rfl ?_) | refine Pw.list (Pw.ld rfl inferInstance rfl rfl rfl ?_) | refine Pw.list (Pw.sto rfl rfl inferInstance rfl rfl rfl rfl rfl inferInstance rfl ?_))
  exact Pw.ret_ (x := true) (.tmp rfl .nil) rfl (fun _ => ⟨by omega, by omega, by omega, by omega⟩) (fun w h => by trivial)
end Go.Proofs.Wk
/- The law RatioProducts walked. -/
namespace Go.Proofs.Wk
open Go.RowKit
set_option maxRecDepth 100000
set_option maxHeartbeats 4000000
attribute [local irreducible] Pw OpG
set_option linter.unusedVariables false
set_option linter.unusedSimpArgs false
theorem lowS_len {p q : Int} (hp : 0 ≤ p) (hq : 0 < q) (h1 : (natL p).length ≤ 400) (h2 : (natL q).length ≤ 400) : (lowS (natL p) (natL q)).1.length < 1048576 ∧ (lowS (natL p) (natL q)).2.length < 1048576 := by
  unfold lowS
  have l1 := val_lt_pw (natL_fm p).1
  have l2 := val_lt_pw (natL_fm q).1
  rw [val_natL hp] at *
  rw [val_natL (show 0 ≤ q by omega)] at *
  have g0 := gcdI_pos (x := p) hq
  have d1 : p / gcdI p q ≤ p := Int.ediv_le_self _ hp
  have d2 : q / gcdI p q ≤ q := Int.ediv_le_self _ (by omega)
  have e1 := natL_len_le (n := (natL p).length) (Int.ediv_nonneg hp (show 0 ≤ gcdI p q by omega)) (by omega)
  have e2 := natL_len_le (n := (natL q).length) (Int.ediv_nonneg (show 0 ≤ q by omega) (show 0 ≤ gcdI p q by omega)) (by omega)
  exact ⟨by show (natL _).length < _; omega, by show (natL _).length < _; omega⟩
theorem makeS_ok (a b : List Int) (ha : Lm a) (hb : Lm b) : Fm (makeS a b).1 ∧ Fm (makeS a b).2.1 ∧ (makeS a b).1.length < 1048576 ∧ (makeS a b).2.1.length < 1048576 := by
  unfold makeS
  split
  next h =>
    split
    · exact ⟨fm_nil, fm_nil, by simp, by simp⟩
    next h0 =>
      obtain ⟨ea, la, va, pa⟩ := fm_of ha h.1
      obtain ⟨eb, lb, vb, pb⟩ := fm_of hb h.2
      have hbp := val_pos_of ((fmB_iff hb).1 h.2).2 h0
      have hl := lowS_len va hbp (by rw [← ea]; omega) (by rw [← eb]; omega)
      rw [← ea, ← eb] at hl
      exact ⟨natL_fm _, natL_fm _, hl.1, hl.2⟩
  · exact ⟨fm_nil, fm_nil, by simp, by simp⟩
theorem endS_ok (e e' : Int) (a b : List Int) (ha : Lm a) (hb : Lm b) : Fm (endS e e' a b).1 ∧ Fm (endS e e' a b).2.1 ∧ (endS e e' a b).1.length < 1048576 ∧ (endS e e' a b).2.1.length < 1048576 := by
  unfold endS
  split
  · exact ⟨fm_nil, fm_nil, by simp, by simp⟩
  · split
    · exact ⟨fm_nil, fm_nil, by simp, by simp⟩
    · exact makeS_ok a b ha hb
theorem rmulS_ok (a b c d : List Int) : Fm (rmulS a b c d).1 ∧ Fm (rmulS a b c d).2.1 ∧ (rmulS a b c d).1.length < 1048576 ∧ (rmulS a b c d).2.1.length < 1048576 := by
  unfold rmulS
  split
  · exact endS_ok _ _ _ _ (@mulS_lm a c).1.1 (@mulS_lm b d).1.1
  · exact ⟨fm_nil, fm_nil, by simp, by simp⟩
theorem rdivS_ok (a b c d : List Int) : Fm (rdivS a b c d).1 ∧ Fm (rdivS a b c d).2.1 ∧ (rdivS a b c d).1.length < 1048576 ∧ (rdivS a b c d).2.1.length < 1048576 := by
  unfold rdivS
  split
  · split
    · exact ⟨fm_nil, fm_nil, by simp, by simp⟩
    · exact rmulS_ok _ _ _ _
  · exact ⟨fm_nil, fm_nil, by simp, by simp⟩
theorem rfloorS_ok (a b : List Int) (ha : Lm a) (hb : Lm b) : Fm (rfloorS a b).1 ∧ (rfloorS a b).1.length < 1048576 := by
  unfold rfloorS
  split
  next h =>
    obtain ⟨f1, f2, f3, _⟩ := formedR_spec ha hb h
    obtain ⟨ea, la, va, pa⟩ := fm_of ha f1
    have hbp := fm_pos hb f2 f3
    have d1 : val a / val b ≤ val a := Int.ediv_le_self _ va
    have := natL_len_le (n := 400) (Int.ediv_nonneg va (show 0 ≤ val b by omega)) (by omega)
    exact ⟨natL_fm _, by show (natL _).length < _; omega⟩
  · exact ⟨fm_nil, by simp⟩
theorem RatioProducts_ct (a b c d : List Int) (y z : Z2) (ha : Lm a) (hb : Lm b) (hc : Lm c) (hd : Lm d) :
    Ct Try.prog 5 #[rt a b y, rt c d z] (fun W => R2 a b y W ∧ R2 c d z W) (fun _ : Unit => .bool true) Tt (fun _ _ => True) := by
  refine Ct.start Try.func5 rfl rfl (slots_of rfl slots2) (fun D w0 => Pw.facts two2 ?_)
  repeat (first | (with_reducible first | refine Pw.seq ?_ | refine Pw.region ?_ | refine Pw.nil ?_ | refine Pw.then_ ?_ | refine Pw.skip ?_ | refine Pw.block ?_ | refine Pw.exit ?_ | refine Pw.inX ?_ | refine Pw.inN ?_ | refine Pw.inR ?_ | refine Pw.thenX ?_ | refine Pw.thenR ?_ | refine Pw.ret ?_) | refine Pw.list (Pw.pure rfl rfl rfl ?_) | refine Pw.inY rfl ?_ | refine Pw.list (Pw.off rfl rfl ?_) | refine Pw.condT rfl ?_ | refine Pw.condF rfl ?_)
  refine Pw.list (Pw.box rfl rfl rfl rfl (fun g2 => freeHead ?_))
  refine Pw.list (Pw.box rfl rfl rfl rfl (fun g3 => freeHead ?_))
  repeat (first | (with_reducible first | refine Pw.seq ?_ | refine Pw.region ?_ | refine Pw.nil ?_ | refine Pw.then_ ?_ | refine Pw.skip ?_ | refine Pw.block ?_ | refine Pw.exit ?_ | refine Pw.inX ?_ | refine Pw.inN ?_ | refine Pw.inR ?_ | refine Pw.thenX ?_ | refine Pw.thenR ?_ | refine Pw.ret ?_) | refine Pw.list (Pw.pure rfl rfl rfl ?_) | refine Pw.inY rfl ?_ | refine Pw.list (Pw.off rfl rfl ?_) | refine Pw.condT rfl ?_ | refine Pw.condF rfl ?_ | refine Pw.list (Pw.box rfl rfl rfl rfl (fun _ => ?_)) | refine Pw.list (Pw.alloc rfl rfl rfl rfl rfl (fun _ => ?_)) | refine Pw.list (Pw.build rfl rfl rfl rfl ?_) | refine Pw.list (Pw.ld rfl inferInstance rfl rfl rfl ?_) | refine Pw.list (Pw.sto rfl rfl inferInstance rfl rfl rfl rfl rfl inferInstance rfl ?_))
  refine Pw.list (Pw.call awake_ct rfl rfl rfl (by kernel_rfl) rfl rfl (fun w h => trivial) ?_)
  intro _ _
  repeat (first | (with_reducible first | refine Pw.seq ?_ | refine Pw.region ?_ | refine Pw.nil ?_ | refine Pw.then_ ?_ | refine Pw.skip ?_ | refine Pw.block ?_ | refine Pw.exit ?_ | refine Pw.inX ?_ | refine Pw.inN ?_ | refine Pw.inR ?_ | refine Pw.thenX ?_ | refine Pw.thenR ?_ | refine Pw.ret ?_) | refine Pw.list (Pw.pure rfl rfl rfl ?_) | refine Pw.inY rfl ?_ | refine Pw.list (Pw.off rfl rfl ?_) | refine Pw.condT rfl ?_ | refine Pw.condF rfl ?_ | refine Pw.list (Pw.box rfl rfl rfl rfl (fun _ => ?_)) | refine Pw.list (Pw.alloc rfl rfl rfl rfl rfl (fun _ => ?_)) | refine Pw.list (Pw.build rfl rfl rfl rfl ?_) | refine Pw.list (Pw.ld rfl inferInstance rfl rfl rfl ?_) | refine Pw.list (Pw.sto rfl rfl inferInstance rfl rfl rfl rfl rfl inferInstance rfl ?_))
  refine Pw.list (Pw.lit22 rfl rfl rfl rfl rfl rfl rfl rfl rfl rfl rfl (fun g4 => freeHead ?_))
  refine Pw.list (Pw.call (Few_ct a b c d y z g4) rfl rfl rfl (by kernel_rfl) rfl rfl (fun w h => fact0 h) ?_)
  intro r hr
  cases r
  · repeat (first | (with_reducible first | refine Pw.seq ?_ | refine Pw.region ?_ | refine Pw.nil ?_ | refine Pw.then_ ?_ | refine Pw.skip ?_ | refine Pw.block ?_ | refine Pw.exit ?_ | refine Pw.inX ?_ | refine Pw.inN ?_ | refine Pw.inR ?_ | refine Pw.thenX ?_ | refine Pw.thenR ?_ | refine Pw.ret ?_) | refine Pw.list (Pw.pure rfl rfl rfl ?_) | refine Pw.inY rfl ?_ | refine Pw.list (Pw.off rfl rfl ?_) | refine Pw.condT rfl ?_ | refine Pw.condF rfl ?_ | refine Pw.list (Pw.box rfl rfl rfl rfl (fun _ => ?_)) | refine Pw.list (Pw.alloc rfl rfl rfl rfl rfl (fun _ => ?_)) | refine Pw.list (Pw.build rfl rfl rfl rfl ?_) | refine Pw.list (Pw.ld rfl inferInstance rfl rfl rfl ?_) | refine Pw.list (Pw.sto rfl rfl inferInstance rfl rfl rfl rfl rfl inferInstance rfl ?_))
    refine Pw.list (Pw.call awake_ct rfl rfl rfl (by kernel_rfl) rfl rfl (fun w h => trivial) ?_)
    intro _ _
    repeat (first | (with_reducible first | refine Pw.seq ?_ | refine Pw.region ?_ | refine Pw.nil ?_ | refine Pw.then_ ?_ | refine Pw.skip ?_ | refine Pw.block ?_ | refine Pw.exit ?_ | refine Pw.inX ?_ | refine Pw.inN ?_ | refine Pw.inR ?_ | refine Pw.thenX ?_ | refine Pw.thenR ?_ | refine Pw.ret ?_) | refine Pw.list (Pw.pure rfl rfl rfl ?_) | refine Pw.inY rfl ?_ | refine Pw.list (Pw.off rfl rfl ?_) | refine Pw.condT rfl ?_ | refine Pw.condF rfl ?_ | refine Pw.list (Pw.box rfl rfl rfl rfl (fun _ => ?_)) | refine Pw.list (Pw.alloc rfl rfl rfl rfl rfl (fun _ => ?_)) | refine Pw.list (Pw.build rfl rfl rfl rfl ?_) | refine Pw.list (Pw.ld rfl inferInstance rfl rfl rfl ?_) | refine Pw.list (Pw.sto rfl rfl inferInstance rfl rfl rfl rfl rfl inferInstance rfl ?_))
    exact Pw.ret_ (x := ()) (.tmp rfl .nil) rfl trivial (fun w h => by trivial)
  obtain ⟨la, lb, lc, ld⟩ := hr rfl
  refine Pw.facts (G' := [fun W => W.heap[g2]? = some (row [sl a y.1, sl b y.2] 39), fun W => W.heap[g3]? = some (row [sl c z.1, sl d z.2] 39), R2 a b y, R2 c d z]) (fun w h => allCons (fact3 (allTail h)) (allCons (fact3 h) (allCons (fact3 (allTail (allTail h))) (allCons (fact3 (allTail (allTail (allTail h)))) allNil)))) ?_
  repeat (first | (with_reducible first | refine Pw.seq ?_ | refine Pw.region ?_ | refine Pw.nil ?_ | refine Pw.then_ ?_ | refine Pw.skip ?_ | refine Pw.block ?_ | refine Pw.exit ?_ | refine Pw.inX ?_ | refine Pw.inN ?_ | refine Pw.inR ?_ | refine Pw.thenX ?_ | refine Pw.thenR ?_ | refine Pw.ret ?_) | refine Pw.list (Pw.pure rfl rfl rfl ?_) | refine Pw.inY rfl ?_ | refine Pw.list (Pw.off rfl rfl ?_) | refine Pw.condT rfl ?_ | refine Pw.condF rfl ?_ | refine Pw.list (Pw.box rfl rfl rfl rfl (fun _ => ?_)) | refine Pw.list (Pw.alloc rfl rfl rfl rfl rfl (fun _ => ?_)) | refine Pw.list (Pw.build rfl rfl rfl rfl ?_) | refine Pw.list (Pw.ld rfl inferInstance rfl rfl rfl ?_) | refine Pw.list (Pw.sto rfl rfl inferInstance rfl rfl rfl rfl rfl inferInstance rfl ?_))
  refine Pw.join (σ := Nat × Nat) (fun _ => True) (fun s => ⟨[(2, .pointer (some ⟨g2, 0, none⟩)), (3, .pointer (some ⟨g3, 0, none⟩)), (5, .pointer (some ⟨s.1, 0, none⟩)), (6, .pointer (some ⟨s.2, 0, none⟩))], [], [fun W => W.heap[g2]? = some (row [sl a y.1, sl b y.2] 39), fun W => W.heap[g3]? = some (row [sl c z.1, sl d z.2] 39), fun W => W.heap[s.1]? = some (row [sl a y.1, sl b y.2] 43), fun W => W.heap[s.2]? = some (row [sl c z.1, sl d z.2] 43), R2 a b y, R2 c d z]⟩) ?_ ?_
  · skip
    refine Pw.drawnG mixed rfl rfl ?_
    refine Pw.takeF 0 (nb 8 1) rfl rfl inferInstance rfl rfl rfl (by kernel_rfl) np sf ?_
    refine Pw.takeF 2 (nb 8 5) rfl rfl inferInstance rfl rfl rfl (by kernel_rfl) np sf ?_
    refine Pw.three 1 4 5 (nb 8 7) (nb 8 21) (nb 8 37) rfl rfl rfl (by kernel_rfl) ?_ ?_ ?_
    · skip
      refine Pw.call (Theirs_ct a b y) rfl rfl rfl (by kernel_rfl) rfl rfl (fun w h => trivial) ?_
      intro _ _
      refine Pw.held sf ?_
      refine Pw.three 3 4 5 (nb 8 15) (nb 8 23) (nb 8 39) rfl rfl rfl (by kernel_rfl) ?_ ?_ ?_
      · skip
        refine Pw.call (Theirs_ct c d z) rfl rfl rfl (by kernel_rfl) rfl rfl (fun w h => trivial) ?_
        intro _ _
        refine Pw.held sf ?_
        refine Pw.two 4 5 (nb 8 31) (nb 8 47) rfl rfl (by kernel_rfl) ?_ ?_
        · skip
          refine Pw.alloc rfl rfl rfl rfl rfl (fun g5 => ?_)
          refine Pw.held sf ?_
          refine Pw.one 5 (nb 8 63) rfl (by kernel_rfl) ?_
          refine Pw.alloc rfl rfl rfl rfl rfl (fun g6 => ?_)
          refine Pw.held sf ?_
          refine Pw.one 6 (nb 8 127) rfl (by kernel_rfl) ?_
          first | refine Pw.storeB rfl rfl .head rfl rfl rfl rfl rfl rfl ?_ | refine Pw.storeB rfl rfl (.tail .head) rfl rfl rfl rfl rfl rfl ?_
          refine Pw.held sf ?_
          refine Pw.one 7 (nb 8 255) rfl (by kernel_rfl) ?_
          first | refine Pw.storeB rfl rfl .head rfl rfl rfl rfl rfl rfl ?_ | refine Pw.storeB rfl rfl (.tail .head) rfl rfl rfl rfl rfl rfl ?_
          refine Pw.held sf ?_
          refine Pw.done (by kernel_rfl) ?_
          refine freeHead (freeHead ?_)
          exact Pw.arrive (g5, g6) trivial ⟨rfl, rfl, rfl, rfl, trivial⟩ rfl (fun w h => allCons (by first | exact fact0 (h) | exact fact0 (allTail (h)) | exact fact0 (allTail (allTail (h))) | exact fact0 (allTail (allTail (allTail (h)))) | exact fact0 (allTail (allTail (allTail (allTail (h))))) | exact fact0 (allTail (allTail (allTail (allTail (allTail (h)))))) | exact fact0 (allTail (allTail (allTail (allTail (allTail (allTail (h))))))) | exact fact0 (allTail (allTail (allTail (allTail (allTail (allTail (allTail (h)))))))) | exact fact0 (allTail (allTail (allTail (allTail (allTail (allTail (allTail (allTail (h))))))))) | exact fact0 (allTail (allTail (allTail (allTail (allTail (allTail (allTail (allTail (allTail (h))))))))))) (allCons (by first | exact fact0 (h) | exact fact0 (allTail (h)) | exact fact0 (allTail (allTail (h))) | exact fact0 (allTail (allTail (allTail (h)))) | exact fact0 (allTail (allTail (allTail (allTail (h))))) | exact fact0 (allTail (allTail (allTail (allTail (allTail (h)))))) | exact fact0 (allTail (allTail (allTail (allTail (allTail (allTail (h))))))) | exact fact0 (allTail (allTail (allTail (allTail (allTail (allTail (allTail (h)))))))) | exact fact0 (allTail (allTail (allTail (allTail (allTail (allTail (allTail (allTail (h))))))))) | exact fact0 (allTail (allTail (allTail (allTail (allTail (allTail (allTail (allTail (allTail (h))))))))))) (allCons (by first | exact fact0 (h) | exact fact0 (allTail (h)) | exact fact0 (allTail (allTail (h))) | exact fact0 (allTail (allTail (allTail (h)))) | exact fact0 (allTail (allTail (allTail (allTail (h))))) | exact fact0 (allTail (allTail (allTail (allTail (allTail (h)))))) | exact fact0 (allTail (allTail (allTail (allTail (allTail (allTail (h))))))) | exact fact0 (allTail (allTail (allTail (allTail (allTail (allTail (allTail (h)))))))) | exact fact0 (allTail (allTail (allTail (allTail (allTail (allTail (allTail (allTail (h))))))))) | exact fact0 (allTail (allTail (allTail (allTail (allTail (allTail (allTail (allTail (allTail (h))))))))))) (allCons (by first | exact fact0 (h) | exact fact0 (allTail (h)) | exact fact0 (allTail (allTail (h))) | exact fact0 (allTail (allTail (allTail (h)))) | exact fact0 (allTail (allTail (allTail (allTail (h))))) | exact fact0 (allTail (allTail (allTail (allTail (allTail (h)))))) | exact fact0 (allTail (allTail (allTail (allTail (allTail (allTail (h))))))) | exact fact0 (allTail (allTail (allTail (allTail (allTail (allTail (allTail (h)))))))) | exact fact0 (allTail (allTail (allTail (allTail (allTail (allTail (allTail (allTail (h))))))))) | exact fact0 (allTail (allTail (allTail (allTail (allTail (allTail (allTail (allTail (allTail (h))))))))))) (allCons (by first | exact fact0 (h) | exact fact0 (allTail (h)) | exact fact0 (allTail (allTail (h))) | exact fact0 (allTail (allTail (allTail (h)))) | exact fact0 (allTail (allTail (allTail (allTail (h))))) | exact fact0 (allTail (allTail (allTail (allTail (allTail (h)))))) | exact fact0 (allTail (allTail (allTail (allTail (allTail (allTail (h))))))) | exact fact0 (allTail (allTail (allTail (allTail (allTail (allTail (allTail (h)))))))) | exact fact0 (allTail (allTail (allTail (allTail (allTail (allTail (allTail (allTail (h))))))))) | exact fact0 (allTail (allTail (allTail (allTail (allTail (allTail (allTail (allTail (allTail (h))))))))))) (allCons (by first | exact fact0 (h) | exact fact0 (allTail (h)) | exact fact0 (allTail (allTail (h))) | exact fact0 (allTail (allTail (allTail (h)))) | exact fact0 (allTail (allTail (allTail (allTail (h))))) | exact fact0 (allTail (allTail (allTail (allTail (allTail (h)))))) | exact fact0 (allTail (allTail (allTail (allTail (allTail (allTail (h))))))) | exact fact0 (allTail (allTail (allTail (allTail (allTail (allTail (allTail (h)))))))) | exact fact0 (allTail (allTail (allTail (allTail (allTail (allTail (allTail (allTail (h))))))))) | exact fact0 (allTail (allTail (allTail (allTail (allTail (allTail (allTail (allTail (allTail (h))))))))))) allNil))))))
        · skip
          refine Pw.alloc rfl rfl rfl rfl rfl (fun g6 => ?_)
          refine Pw.held sf ?_
          refine Pw.one 4 (nb 8 63) rfl (by kernel_rfl) ?_
          refine Pw.alloc rfl rfl rfl rfl rfl (fun g5 => ?_)
          refine Pw.held sf ?_
          refine Pw.one 6 (nb 8 127) rfl (by kernel_rfl) ?_
          first | refine Pw.storeB rfl rfl .head rfl rfl rfl rfl rfl rfl ?_ | refine Pw.storeB rfl rfl (.tail .head) rfl rfl rfl rfl rfl rfl ?_
          refine Pw.held sf ?_
          refine Pw.one 7 (nb 8 255) rfl (by kernel_rfl) ?_
          first | refine Pw.storeB rfl rfl .head rfl rfl rfl rfl rfl rfl ?_ | refine Pw.storeB rfl rfl (.tail .head) rfl rfl rfl rfl rfl rfl ?_
          refine Pw.held sf ?_
          refine Pw.done (by kernel_rfl) ?_
          refine freeHead (freeHead ?_)
          exact Pw.arrive (g5, g6) trivial ⟨rfl, rfl, rfl, rfl, trivial⟩ rfl (fun w h => allCons (by first | exact fact0 (h) | exact fact0 (allTail (h)) | exact fact0 (allTail (allTail (h))) | exact fact0 (allTail (allTail (allTail (h)))) | exact fact0 (allTail (allTail (allTail (allTail (h))))) | exact fact0 (allTail (allTail (allTail (allTail (allTail (h)))))) | exact fact0 (allTail (allTail (allTail (allTail (allTail (allTail (h))))))) | exact fact0 (allTail (allTail (allTail (allTail (allTail (allTail (allTail (h)))))))) | exact fact0 (allTail (allTail (allTail (allTail (allTail (allTail (allTail (allTail (h))))))))) | exact fact0 (allTail (allTail (allTail (allTail (allTail (allTail (allTail (allTail (allTail (h))))))))))) (allCons (by first | exact fact0 (h) | exact fact0 (allTail (h)) | exact fact0 (allTail (allTail (h))) | exact fact0 (allTail (allTail (allTail (h)))) | exact fact0 (allTail (allTail (allTail (allTail (h))))) | exact fact0 (allTail (allTail (allTail (allTail (allTail (h)))))) | exact fact0 (allTail (allTail (allTail (allTail (allTail (allTail (h))))))) | exact fact0 (allTail (allTail (allTail (allTail (allTail (allTail (allTail (h)))))))) | exact fact0 (allTail (allTail (allTail (allTail (allTail (allTail (allTail (allTail (h))))))))) | exact fact0 (allTail (allTail (allTail (allTail (allTail (allTail (allTail (allTail (allTail (h))))))))))) (allCons (by first | exact fact0 (h) | exact fact0 (allTail (h)) | exact fact0 (allTail (allTail (h))) | exact fact0 (allTail (allTail (allTail (h)))) | exact fact0 (allTail (allTail (allTail (allTail (h))))) | exact fact0 (allTail (allTail (allTail (allTail (allTail (h)))))) | exact fact0 (allTail (allTail (allTail (allTail (allTail (allTail (h))))))) | exact fact0 (allTail (allTail (allTail (allTail (allTail (allTail (allTail (h)))))))) | exact fact0 (allTail (allTail (allTail (allTail (allTail (allTail (allTail (allTail (h))))))))) | exact fact0 (allTail (allTail (allTail (allTail (allTail (allTail (allTail (allTail (allTail (h))))))))))) (allCons (by first | exact fact0 (h) | exact fact0 (allTail (h)) | exact fact0 (allTail (allTail (h))) | exact fact0 (allTail (allTail (allTail (h)))) | exact fact0 (allTail (allTail (allTail (allTail (h))))) | exact fact0 (allTail (allTail (allTail (allTail (allTail (h)))))) | exact fact0 (allTail (allTail (allTail (allTail (allTail (allTail (h))))))) | exact fact0 (allTail (allTail (allTail (allTail (allTail (allTail (allTail (h)))))))) | exact fact0 (allTail (allTail (allTail (allTail (allTail (allTail (allTail (allTail (h))))))))) | exact fact0 (allTail (allTail (allTail (allTail (allTail (allTail (allTail (allTail (allTail (h))))))))))) (allCons (by first | exact fact0 (h) | exact fact0 (allTail (h)) | exact fact0 (allTail (allTail (h))) | exact fact0 (allTail (allTail (allTail (h)))) | exact fact0 (allTail (allTail (allTail (allTail (h))))) | exact fact0 (allTail (allTail (allTail (allTail (allTail (h)))))) | exact fact0 (allTail (allTail (allTail (allTail (allTail (allTail (h))))))) | exact fact0 (allTail (allTail (allTail (allTail (allTail (allTail (allTail (h)))))))) | exact fact0 (allTail (allTail (allTail (allTail (allTail (allTail (allTail (allTail (h))))))))) | exact fact0 (allTail (allTail (allTail (allTail (allTail (allTail (allTail (allTail (allTail (h))))))))))) (allCons (by first | exact fact0 (h) | exact fact0 (allTail (h)) | exact fact0 (allTail (allTail (h))) | exact fact0 (allTail (allTail (allTail (h)))) | exact fact0 (allTail (allTail (allTail (allTail (h))))) | exact fact0 (allTail (allTail (allTail (allTail (allTail (h)))))) | exact fact0 (allTail (allTail (allTail (allTail (allTail (allTail (h))))))) | exact fact0 (allTail (allTail (allTail (allTail (allTail (allTail (allTail (h)))))))) | exact fact0 (allTail (allTail (allTail (allTail (allTail (allTail (allTail (allTail (h))))))))) | exact fact0 (allTail (allTail (allTail (allTail (allTail (allTail (allTail (allTail (allTail (h))))))))))) allNil))))))
      · skip
        refine Pw.alloc rfl rfl rfl rfl rfl (fun g5 => ?_)
        refine Pw.held sf ?_
        refine Pw.two 3 5 (nb 8 31) (nb 8 55) rfl rfl (by kernel_rfl) ?_ ?_
        · skip
          refine Pw.call (Theirs_ct c d z) rfl rfl rfl (by kernel_rfl) rfl rfl (fun w h => trivial) ?_
          intro _ _
          refine Pw.held sf ?_
          refine Pw.one 5 (nb 8 63) rfl (by kernel_rfl) ?_
          refine Pw.alloc rfl rfl rfl rfl rfl (fun g6 => ?_)
          refine Pw.held sf ?_
          refine Pw.one 6 (nb 8 127) rfl (by kernel_rfl) ?_
          first | refine Pw.storeB rfl rfl .head rfl rfl rfl rfl rfl rfl ?_ | refine Pw.storeB rfl rfl (.tail .head) rfl rfl rfl rfl rfl rfl ?_
          refine Pw.held sf ?_
          refine Pw.one 7 (nb 8 255) rfl (by kernel_rfl) ?_
          first | refine Pw.storeB rfl rfl .head rfl rfl rfl rfl rfl rfl ?_ | refine Pw.storeB rfl rfl (.tail .head) rfl rfl rfl rfl rfl rfl ?_
          refine Pw.held sf ?_
          refine Pw.done (by kernel_rfl) ?_
          refine freeHead (freeHead ?_)
          exact Pw.arrive (g5, g6) trivial ⟨rfl, rfl, rfl, rfl, trivial⟩ rfl (fun w h => allCons (by first | exact fact0 (h) | exact fact0 (allTail (h)) | exact fact0 (allTail (allTail (h))) | exact fact0 (allTail (allTail (allTail (h)))) | exact fact0 (allTail (allTail (allTail (allTail (h))))) | exact fact0 (allTail (allTail (allTail (allTail (allTail (h)))))) | exact fact0 (allTail (allTail (allTail (allTail (allTail (allTail (h))))))) | exact fact0 (allTail (allTail (allTail (allTail (allTail (allTail (allTail (h)))))))) | exact fact0 (allTail (allTail (allTail (allTail (allTail (allTail (allTail (allTail (h))))))))) | exact fact0 (allTail (allTail (allTail (allTail (allTail (allTail (allTail (allTail (allTail (h))))))))))) (allCons (by first | exact fact0 (h) | exact fact0 (allTail (h)) | exact fact0 (allTail (allTail (h))) | exact fact0 (allTail (allTail (allTail (h)))) | exact fact0 (allTail (allTail (allTail (allTail (h))))) | exact fact0 (allTail (allTail (allTail (allTail (allTail (h)))))) | exact fact0 (allTail (allTail (allTail (allTail (allTail (allTail (h))))))) | exact fact0 (allTail (allTail (allTail (allTail (allTail (allTail (allTail (h)))))))) | exact fact0 (allTail (allTail (allTail (allTail (allTail (allTail (allTail (allTail (h))))))))) | exact fact0 (allTail (allTail (allTail (allTail (allTail (allTail (allTail (allTail (allTail (h))))))))))) (allCons (by first | exact fact0 (h) | exact fact0 (allTail (h)) | exact fact0 (allTail (allTail (h))) | exact fact0 (allTail (allTail (allTail (h)))) | exact fact0 (allTail (allTail (allTail (allTail (h))))) | exact fact0 (allTail (allTail (allTail (allTail (allTail (h)))))) | exact fact0 (allTail (allTail (allTail (allTail (allTail (allTail (h))))))) | exact fact0 (allTail (allTail (allTail (allTail (allTail (allTail (allTail (h)))))))) | exact fact0 (allTail (allTail (allTail (allTail (allTail (allTail (allTail (allTail (h))))))))) | exact fact0 (allTail (allTail (allTail (allTail (allTail (allTail (allTail (allTail (allTail (h))))))))))) (allCons (by first | exact fact0 (h) | exact fact0 (allTail (h)) | exact fact0 (allTail (allTail (h))) | exact fact0 (allTail (allTail (allTail (h)))) | exact fact0 (allTail (allTail (allTail (allTail (h))))) | exact fact0 (allTail (allTail (allTail (allTail (allTail (h)))))) | exact fact0 (allTail (allTail (allTail (allTail (allTail (allTail (h))))))) | exact fact0 (allTail (allTail (allTail (allTail (allTail (allTail (allTail (h)))))))) | exact fact0 (allTail (allTail (allTail (allTail (allTail (allTail (allTail (allTail (h))))))))) | exact fact0 (allTail (allTail (allTail (allTail (allTail (allTail (allTail (allTail (allTail (h))))))))))) (allCons (by first | exact fact0 (h) | exact fact0 (allTail (h)) | exact fact0 (allTail (allTail (h))) | exact fact0 (allTail (allTail (allTail (h)))) | exact fact0 (allTail (allTail (allTail (allTail (h))))) | exact fact0 (allTail (allTail (allTail (allTail (allTail (h)))))) | exact fact0 (allTail (allTail (allTail (allTail (allTail (allTail (h))))))) | exact fact0 (allTail (allTail (allTail (allTail (allTail (allTail (allTail (h)))))))) | exact fact0 (allTail (allTail (allTail (allTail (allTail (allTail (allTail (allTail (h))))))))) | exact fact0 (allTail (allTail (allTail (allTail (allTail (allTail (allTail (allTail (allTail (h))))))))))) (allCons (by first | exact fact0 (h) | exact fact0 (allTail (h)) | exact fact0 (allTail (allTail (h))) | exact fact0 (allTail (allTail (allTail (h)))) | exact fact0 (allTail (allTail (allTail (allTail (h))))) | exact fact0 (allTail (allTail (allTail (allTail (allTail (h)))))) | exact fact0 (allTail (allTail (allTail (allTail (allTail (allTail (h))))))) | exact fact0 (allTail (allTail (allTail (allTail (allTail (allTail (allTail (h)))))))) | exact fact0 (allTail (allTail (allTail (allTail (allTail (allTail (allTail (allTail (h))))))))) | exact fact0 (allTail (allTail (allTail (allTail (allTail (allTail (allTail (allTail (allTail (h))))))))))) allNil))))))
        · skip
          refine Pw.alloc rfl rfl rfl rfl rfl (fun g6 => ?_)
          refine Pw.held sf ?_
          refine Pw.one 3 (nb 8 63) rfl (by kernel_rfl) ?_
          refine Pw.call (Theirs_ct c d z) rfl rfl rfl (by kernel_rfl) rfl rfl (fun w h => trivial) ?_
          intro _ _
          refine Pw.held sf ?_
          refine Pw.one 6 (nb 8 127) rfl (by kernel_rfl) ?_
          first | refine Pw.storeB rfl rfl .head rfl rfl rfl rfl rfl rfl ?_ | refine Pw.storeB rfl rfl (.tail .head) rfl rfl rfl rfl rfl rfl ?_
          refine Pw.held sf ?_
          refine Pw.one 7 (nb 8 255) rfl (by kernel_rfl) ?_
          first | refine Pw.storeB rfl rfl .head rfl rfl rfl rfl rfl rfl ?_ | refine Pw.storeB rfl rfl (.tail .head) rfl rfl rfl rfl rfl rfl ?_
          refine Pw.held sf ?_
          refine Pw.done (by kernel_rfl) ?_
          refine freeHead (freeHead ?_)
          exact Pw.arrive (g5, g6) trivial ⟨rfl, rfl, rfl, rfl, trivial⟩ rfl (fun w h => allCons (by first | exact fact0 (h) | exact fact0 (allTail (h)) | exact fact0 (allTail (allTail (h))) | exact fact0 (allTail (allTail (allTail (h)))) | exact fact0 (allTail (allTail (allTail (allTail (h))))) | exact fact0 (allTail (allTail (allTail (allTail (allTail (h)))))) | exact fact0 (allTail (allTail (allTail (allTail (allTail (allTail (h))))))) | exact fact0 (allTail (allTail (allTail (allTail (allTail (allTail (allTail (h)))))))) | exact fact0 (allTail (allTail (allTail (allTail (allTail (allTail (allTail (allTail (h))))))))) | exact fact0 (allTail (allTail (allTail (allTail (allTail (allTail (allTail (allTail (allTail (h))))))))))) (allCons (by first | exact fact0 (h) | exact fact0 (allTail (h)) | exact fact0 (allTail (allTail (h))) | exact fact0 (allTail (allTail (allTail (h)))) | exact fact0 (allTail (allTail (allTail (allTail (h))))) | exact fact0 (allTail (allTail (allTail (allTail (allTail (h)))))) | exact fact0 (allTail (allTail (allTail (allTail (allTail (allTail (h))))))) | exact fact0 (allTail (allTail (allTail (allTail (allTail (allTail (allTail (h)))))))) | exact fact0 (allTail (allTail (allTail (allTail (allTail (allTail (allTail (allTail (h))))))))) | exact fact0 (allTail (allTail (allTail (allTail (allTail (allTail (allTail (allTail (allTail (h))))))))))) (allCons (by first | exact fact0 (h) | exact fact0 (allTail (h)) | exact fact0 (allTail (allTail (h))) | exact fact0 (allTail (allTail (allTail (h)))) | exact fact0 (allTail (allTail (allTail (allTail (h))))) | exact fact0 (allTail (allTail (allTail (allTail (allTail (h)))))) | exact fact0 (allTail (allTail (allTail (allTail (allTail (allTail (h))))))) | exact fact0 (allTail (allTail (allTail (allTail (allTail (allTail (allTail (h)))))))) | exact fact0 (allTail (allTail (allTail (allTail (allTail (allTail (allTail (allTail (h))))))))) | exact fact0 (allTail (allTail (allTail (allTail (allTail (allTail (allTail (allTail (allTail (h))))))))))) (allCons (by first | exact fact0 (h) | exact fact0 (allTail (h)) | exact fact0 (allTail (allTail (h))) | exact fact0 (allTail (allTail (allTail (h)))) | exact fact0 (allTail (allTail (allTail (allTail (h))))) | exact fact0 (allTail (allTail (allTail (allTail (allTail (h)))))) | exact fact0 (allTail (allTail (allTail (allTail (allTail (allTail (h))))))) | exact fact0 (allTail (allTail (allTail (allTail (allTail (allTail (allTail (h)))))))) | exact fact0 (allTail (allTail (allTail (allTail (allTail (allTail (allTail (allTail (h))))))))) | exact fact0 (allTail (allTail (allTail (allTail (allTail (allTail (allTail (allTail (allTail (h))))))))))) (allCons (by first | exact fact0 (h) | exact fact0 (allTail (h)) | exact fact0 (allTail (allTail (h))) | exact fact0 (allTail (allTail (allTail (h)))) | exact fact0 (allTail (allTail (allTail (allTail (h))))) | exact fact0 (allTail (allTail (allTail (allTail (allTail (h)))))) | exact fact0 (allTail (allTail (allTail (allTail (allTail (allTail (h))))))) | exact fact0 (allTail (allTail (allTail (allTail (allTail (allTail (allTail (h)))))))) | exact fact0 (allTail (allTail (allTail (allTail (allTail (allTail (allTail (allTail (h))))))))) | exact fact0 (allTail (allTail (allTail (allTail (allTail (allTail (allTail (allTail (allTail (h))))))))))) (allCons (by first | exact fact0 (h) | exact fact0 (allTail (h)) | exact fact0 (allTail (allTail (h))) | exact fact0 (allTail (allTail (allTail (h)))) | exact fact0 (allTail (allTail (allTail (allTail (h))))) | exact fact0 (allTail (allTail (allTail (allTail (allTail (h)))))) | exact fact0 (allTail (allTail (allTail (allTail (allTail (allTail (h))))))) | exact fact0 (allTail (allTail (allTail (allTail (allTail (allTail (allTail (h)))))))) | exact fact0 (allTail (allTail (allTail (allTail (allTail (allTail (allTail (allTail (h))))))))) | exact fact0 (allTail (allTail (allTail (allTail (allTail (allTail (allTail (allTail (allTail (h))))))))))) allNil))))))
      · skip
        refine Pw.alloc rfl rfl rfl rfl rfl (fun g6 => ?_)
        refine Pw.held sf ?_
        refine Pw.two 3 4 (nb 8 47) (nb 8 55) rfl rfl (by kernel_rfl) ?_ ?_
        · skip
          refine Pw.call (Theirs_ct c d z) rfl rfl rfl (by kernel_rfl) rfl rfl (fun w h => trivial) ?_
          intro _ _
          refine Pw.held sf ?_
          refine Pw.one 4 (nb 8 63) rfl (by kernel_rfl) ?_
          refine Pw.alloc rfl rfl rfl rfl rfl (fun g5 => ?_)
          refine Pw.held sf ?_
          refine Pw.one 6 (nb 8 127) rfl (by kernel_rfl) ?_
          first | refine Pw.storeB rfl rfl .head rfl rfl rfl rfl rfl rfl ?_ | refine Pw.storeB rfl rfl (.tail .head) rfl rfl rfl rfl rfl rfl ?_
          refine Pw.held sf ?_
          refine Pw.one 7 (nb 8 255) rfl (by kernel_rfl) ?_
          first | refine Pw.storeB rfl rfl .head rfl rfl rfl rfl rfl rfl ?_ | refine Pw.storeB rfl rfl (.tail .head) rfl rfl rfl rfl rfl rfl ?_
          refine Pw.held sf ?_
          refine Pw.done (by kernel_rfl) ?_
          refine freeHead (freeHead ?_)
          exact Pw.arrive (g5, g6) trivial ⟨rfl, rfl, rfl, rfl, trivial⟩ rfl (fun w h => allCons (by first | exact fact0 (h) | exact fact0 (allTail (h)) | exact fact0 (allTail (allTail (h))) | exact fact0 (allTail (allTail (allTail (h)))) | exact fact0 (allTail (allTail (allTail (allTail (h))))) | exact fact0 (allTail (allTail (allTail (allTail (allTail (h)))))) | exact fact0 (allTail (allTail (allTail (allTail (allTail (allTail (h))))))) | exact fact0 (allTail (allTail (allTail (allTail (allTail (allTail (allTail (h)))))))) | exact fact0 (allTail (allTail (allTail (allTail (allTail (allTail (allTail (allTail (h))))))))) | exact fact0 (allTail (allTail (allTail (allTail (allTail (allTail (allTail (allTail (allTail (h))))))))))) (allCons (by first | exact fact0 (h) | exact fact0 (allTail (h)) | exact fact0 (allTail (allTail (h))) | exact fact0 (allTail (allTail (allTail (h)))) | exact fact0 (allTail (allTail (allTail (allTail (h))))) | exact fact0 (allTail (allTail (allTail (allTail (allTail (h)))))) | exact fact0 (allTail (allTail (allTail (allTail (allTail (allTail (h))))))) | exact fact0 (allTail (allTail (allTail (allTail (allTail (allTail (allTail (h)))))))) | exact fact0 (allTail (allTail (allTail (allTail (allTail (allTail (allTail (allTail (h))))))))) | exact fact0 (allTail (allTail (allTail (allTail (allTail (allTail (allTail (allTail (allTail (h))))))))))) (allCons (by first | exact fact0 (h) | exact fact0 (allTail (h)) | exact fact0 (allTail (allTail (h))) | exact fact0 (allTail (allTail (allTail (h)))) | exact fact0 (allTail (allTail (allTail (allTail (h))))) | exact fact0 (allTail (allTail (allTail (allTail (allTail (h)))))) | exact fact0 (allTail (allTail (allTail (allTail (allTail (allTail (h))))))) | exact fact0 (allTail (allTail (allTail (allTail (allTail (allTail (allTail (h)))))))) | exact fact0 (allTail (allTail (allTail (allTail (allTail (allTail (allTail (allTail (h))))))))) | exact fact0 (allTail (allTail (allTail (allTail (allTail (allTail (allTail (allTail (allTail (h))))))))))) (allCons (by first | exact fact0 (h) | exact fact0 (allTail (h)) | exact fact0 (allTail (allTail (h))) | exact fact0 (allTail (allTail (allTail (h)))) | exact fact0 (allTail (allTail (allTail (allTail (h))))) | exact fact0 (allTail (allTail (allTail (allTail (allTail (h)))))) | exact fact0 (allTail (allTail (allTail (allTail (allTail (allTail (h))))))) | exact fact0 (allTail (allTail (allTail (allTail (allTail (allTail (allTail (h)))))))) | exact fact0 (allTail (allTail (allTail (allTail (allTail (allTail (allTail (allTail (h))))))))) | exact fact0 (allTail (allTail (allTail (allTail (allTail (allTail (allTail (allTail (allTail (h))))))))))) (allCons (by first | exact fact0 (h) | exact fact0 (allTail (h)) | exact fact0 (allTail (allTail (h))) | exact fact0 (allTail (allTail (allTail (h)))) | exact fact0 (allTail (allTail (allTail (allTail (h))))) | exact fact0 (allTail (allTail (allTail (allTail (allTail (h)))))) | exact fact0 (allTail (allTail (allTail (allTail (allTail (allTail (h))))))) | exact fact0 (allTail (allTail (allTail (allTail (allTail (allTail (allTail (h)))))))) | exact fact0 (allTail (allTail (allTail (allTail (allTail (allTail (allTail (allTail (h))))))))) | exact fact0 (allTail (allTail (allTail (allTail (allTail (allTail (allTail (allTail (allTail (h))))))))))) (allCons (by first | exact fact0 (h) | exact fact0 (allTail (h)) | exact fact0 (allTail (allTail (h))) | exact fact0 (allTail (allTail (allTail (h)))) | exact fact0 (allTail (allTail (allTail (allTail (h))))) | exact fact0 (allTail (allTail (allTail (allTail (allTail (h)))))) | exact fact0 (allTail (allTail (allTail (allTail (allTail (allTail (h))))))) | exact fact0 (allTail (allTail (allTail (allTail (allTail (allTail (allTail (h)))))))) | exact fact0 (allTail (allTail (allTail (allTail (allTail (allTail (allTail (allTail (h))))))))) | exact fact0 (allTail (allTail (allTail (allTail (allTail (allTail (allTail (allTail (allTail (h))))))))))) allNil))))))
        · skip
          refine Pw.alloc rfl rfl rfl rfl rfl (fun g5 => ?_)
          refine Pw.held sf ?_
          refine Pw.one 3 (nb 8 63) rfl (by kernel_rfl) ?_
          refine Pw.call (Theirs_ct c d z) rfl rfl rfl (by kernel_rfl) rfl rfl (fun w h => trivial) ?_
          intro _ _
          refine Pw.held sf ?_
          refine Pw.one 6 (nb 8 127) rfl (by kernel_rfl) ?_
          first | refine Pw.storeB rfl rfl .head rfl rfl rfl rfl rfl rfl ?_ | refine Pw.storeB rfl rfl (.tail .head) rfl rfl rfl rfl rfl rfl ?_
          refine Pw.held sf ?_
          refine Pw.one 7 (nb 8 255) rfl (by kernel_rfl) ?_
          first | refine Pw.storeB rfl rfl .head rfl rfl rfl rfl rfl rfl ?_ | refine Pw.storeB rfl rfl (.tail .head) rfl rfl rfl rfl rfl rfl ?_
          refine Pw.held sf ?_
          refine Pw.done (by kernel_rfl) ?_
          refine freeHead (freeHead ?_)
          exact Pw.arrive (g5, g6) trivial ⟨rfl, rfl, rfl, rfl, trivial⟩ rfl (fun w h => allCons (by first | exact fact0 (h) | exact fact0 (allTail (h)) | exact fact0 (allTail (allTail (h))) | exact fact0 (allTail (allTail (allTail (h)))) | exact fact0 (allTail (allTail (allTail (allTail (h))))) | exact fact0 (allTail (allTail (allTail (allTail (allTail (h)))))) | exact fact0 (allTail (allTail (allTail (allTail (allTail (allTail (h))))))) | exact fact0 (allTail (allTail (allTail (allTail (allTail (allTail (allTail (h)))))))) | exact fact0 (allTail (allTail (allTail (allTail (allTail (allTail (allTail (allTail (h))))))))) | exact fact0 (allTail (allTail (allTail (allTail (allTail (allTail (allTail (allTail (allTail (h))))))))))) (allCons (by first | exact fact0 (h) | exact fact0 (allTail (h)) | exact fact0 (allTail (allTail (h))) | exact fact0 (allTail (allTail (allTail (h)))) | exact fact0 (allTail (allTail (allTail (allTail (h))))) | exact fact0 (allTail (allTail (allTail (allTail (allTail (h)))))) | exact fact0 (allTail (allTail (allTail (allTail (allTail (allTail (h))))))) | exact fact0 (allTail (allTail (allTail (allTail (allTail (allTail (allTail (h)))))))) | exact fact0 (allTail (allTail (allTail (allTail (allTail (allTail (allTail (allTail (h))))))))) | exact fact0 (allTail (allTail (allTail (allTail (allTail (allTail (allTail (allTail (allTail (h))))))))))) (allCons (by first | exact fact0 (h) | exact fact0 (allTail (h)) | exact fact0 (allTail (allTail (h))) | exact fact0 (allTail (allTail (allTail (h)))) | exact fact0 (allTail (allTail (allTail (allTail (h))))) | exact fact0 (allTail (allTail (allTail (allTail (allTail (h)))))) | exact fact0 (allTail (allTail (allTail (allTail (allTail (allTail (h))))))) | exact fact0 (allTail (allTail (allTail (allTail (allTail (allTail (allTail (h)))))))) | exact fact0 (allTail (allTail (allTail (allTail (allTail (allTail (allTail (allTail (h))))))))) | exact fact0 (allTail (allTail (allTail (allTail (allTail (allTail (allTail (allTail (allTail (h))))))))))) (allCons (by first | exact fact0 (h) | exact fact0 (allTail (h)) | exact fact0 (allTail (allTail (h))) | exact fact0 (allTail (allTail (allTail (h)))) | exact fact0 (allTail (allTail (allTail (allTail (h))))) | exact fact0 (allTail (allTail (allTail (allTail (allTail (h)))))) | exact fact0 (allTail (allTail (allTail (allTail (allTail (allTail (h))))))) | exact fact0 (allTail (allTail (allTail (allTail (allTail (allTail (allTail (h)))))))) | exact fact0 (allTail (allTail (allTail (allTail (allTail (allTail (allTail (allTail (h))))))))) | exact fact0 (allTail (allTail (allTail (allTail (allTail (allTail (allTail (allTail (allTail (h))))))))))) (allCons (by first | exact fact0 (h) | exact fact0 (allTail (h)) | exact fact0 (allTail (allTail (h))) | exact fact0 (allTail (allTail (allTail (h)))) | exact fact0 (allTail (allTail (allTail (allTail (h))))) | exact fact0 (allTail (allTail (allTail (allTail (allTail (h)))))) | exact fact0 (allTail (allTail (allTail (allTail (allTail (allTail (h))))))) | exact fact0 (allTail (allTail (allTail (allTail (allTail (allTail (allTail (h)))))))) | exact fact0 (allTail (allTail (allTail (allTail (allTail (allTail (allTail (allTail (h))))))))) | exact fact0 (allTail (allTail (allTail (allTail (allTail (allTail (allTail (allTail (allTail (h))))))))))) (allCons (by first | exact fact0 (h) | exact fact0 (allTail (h)) | exact fact0 (allTail (allTail (h))) | exact fact0 (allTail (allTail (allTail (h)))) | exact fact0 (allTail (allTail (allTail (allTail (h))))) | exact fact0 (allTail (allTail (allTail (allTail (allTail (h)))))) | exact fact0 (allTail (allTail (allTail (allTail (allTail (allTail (h))))))) | exact fact0 (allTail (allTail (allTail (allTail (allTail (allTail (allTail (h)))))))) | exact fact0 (allTail (allTail (allTail (allTail (allTail (allTail (allTail (allTail (h))))))))) | exact fact0 (allTail (allTail (allTail (allTail (allTail (allTail (allTail (allTail (allTail (h))))))))))) allNil))))))
    · skip
      refine Pw.alloc rfl rfl rfl rfl rfl (fun g5 => ?_)
      refine Pw.held sf ?_
      refine Pw.two 1 5 (nb 8 23) (nb 8 53) rfl rfl (by kernel_rfl) ?_ ?_
      · skip
        refine Pw.call (Theirs_ct a b y) rfl rfl rfl (by kernel_rfl) rfl rfl (fun w h => trivial) ?_
        intro _ _
        refine Pw.held sf ?_
        refine Pw.two 3 5 (nb 8 31) (nb 8 55) rfl rfl (by kernel_rfl) ?_ ?_
        · skip
          refine Pw.call (Theirs_ct c d z) rfl rfl rfl (by kernel_rfl) rfl rfl (fun w h => trivial) ?_
          intro _ _
          refine Pw.held sf ?_
          refine Pw.one 5 (nb 8 63) rfl (by kernel_rfl) ?_
          refine Pw.alloc rfl rfl rfl rfl rfl (fun g6 => ?_)
          refine Pw.held sf ?_
          refine Pw.one 6 (nb 8 127) rfl (by kernel_rfl) ?_
          first | refine Pw.storeB rfl rfl .head rfl rfl rfl rfl rfl rfl ?_ | refine Pw.storeB rfl rfl (.tail .head) rfl rfl rfl rfl rfl rfl ?_
          refine Pw.held sf ?_
          refine Pw.one 7 (nb 8 255) rfl (by kernel_rfl) ?_
          first | refine Pw.storeB rfl rfl .head rfl rfl rfl rfl rfl rfl ?_ | refine Pw.storeB rfl rfl (.tail .head) rfl rfl rfl rfl rfl rfl ?_
          refine Pw.held sf ?_
          refine Pw.done (by kernel_rfl) ?_
          refine freeHead (freeHead ?_)
          exact Pw.arrive (g5, g6) trivial ⟨rfl, rfl, rfl, rfl, trivial⟩ rfl (fun w h => allCons (by first | exact fact0 (h) | exact fact0 (allTail (h)) | exact fact0 (allTail (allTail (h))) | exact fact0 (allTail (allTail (allTail (h)))) | exact fact0 (allTail (allTail (allTail (allTail (h))))) | exact fact0 (allTail (allTail (allTail (allTail (allTail (h)))))) | exact fact0 (allTail (allTail (allTail (allTail (allTail (allTail (h))))))) | exact fact0 (allTail (allTail (allTail (allTail (allTail (allTail (allTail (h)))))))) | exact fact0 (allTail (allTail (allTail (allTail (allTail (allTail (allTail (allTail (h))))))))) | exact fact0 (allTail (allTail (allTail (allTail (allTail (allTail (allTail (allTail (allTail (h))))))))))) (allCons (by first | exact fact0 (h) | exact fact0 (allTail (h)) | exact fact0 (allTail (allTail (h))) | exact fact0 (allTail (allTail (allTail (h)))) | exact fact0 (allTail (allTail (allTail (allTail (h))))) | exact fact0 (allTail (allTail (allTail (allTail (allTail (h)))))) | exact fact0 (allTail (allTail (allTail (allTail (allTail (allTail (h))))))) | exact fact0 (allTail (allTail (allTail (allTail (allTail (allTail (allTail (h)))))))) | exact fact0 (allTail (allTail (allTail (allTail (allTail (allTail (allTail (allTail (h))))))))) | exact fact0 (allTail (allTail (allTail (allTail (allTail (allTail (allTail (allTail (allTail (h))))))))))) (allCons (by first | exact fact0 (h) | exact fact0 (allTail (h)) | exact fact0 (allTail (allTail (h))) | exact fact0 (allTail (allTail (allTail (h)))) | exact fact0 (allTail (allTail (allTail (allTail (h))))) | exact fact0 (allTail (allTail (allTail (allTail (allTail (h)))))) | exact fact0 (allTail (allTail (allTail (allTail (allTail (allTail (h))))))) | exact fact0 (allTail (allTail (allTail (allTail (allTail (allTail (allTail (h)))))))) | exact fact0 (allTail (allTail (allTail (allTail (allTail (allTail (allTail (allTail (h))))))))) | exact fact0 (allTail (allTail (allTail (allTail (allTail (allTail (allTail (allTail (allTail (h))))))))))) (allCons (by first | exact fact0 (h) | exact fact0 (allTail (h)) | exact fact0 (allTail (allTail (h))) | exact fact0 (allTail (allTail (allTail (h)))) | exact fact0 (allTail (allTail (allTail (allTail (h))))) | exact fact0 (allTail (allTail (allTail (allTail (allTail (h)))))) | exact fact0 (allTail (allTail (allTail (allTail (allTail (allTail (h))))))) | exact fact0 (allTail (allTail (allTail (allTail (allTail (allTail (allTail (h)))))))) | exact fact0 (allTail (allTail (allTail (allTail (allTail (allTail (allTail (allTail (h))))))))) | exact fact0 (allTail (allTail (allTail (allTail (allTail (allTail (allTail (allTail (allTail (h))))))))))) (allCons (by first | exact fact0 (h) | exact fact0 (allTail (h)) | exact fact0 (allTail (allTail (h))) | exact fact0 (allTail (allTail (allTail (h)))) | exact fact0 (allTail (allTail (allTail (allTail (h))))) | exact fact0 (allTail (allTail (allTail (allTail (allTail (h)))))) | exact fact0 (allTail (allTail (allTail (allTail (allTail (allTail (h))))))) | exact fact0 (allTail (allTail (allTail (allTail (allTail (allTail (allTail (h)))))))) | exact fact0 (allTail (allTail (allTail (allTail (allTail (allTail (allTail (allTail (h))))))))) | exact fact0 (allTail (allTail (allTail (allTail (allTail (allTail (allTail (allTail (allTail (h))))))))))) (allCons (by first | exact fact0 (h) | exact fact0 (allTail (h)) | exact fact0 (allTail (allTail (h))) | exact fact0 (allTail (allTail (allTail (h)))) | exact fact0 (allTail (allTail (allTail (allTail (h))))) | exact fact0 (allTail (allTail (allTail (allTail (allTail (h)))))) | exact fact0 (allTail (allTail (allTail (allTail (allTail (allTail (h))))))) | exact fact0 (allTail (allTail (allTail (allTail (allTail (allTail (allTail (h)))))))) | exact fact0 (allTail (allTail (allTail (allTail (allTail (allTail (allTail (allTail (h))))))))) | exact fact0 (allTail (allTail (allTail (allTail (allTail (allTail (allTail (allTail (allTail (h))))))))))) allNil))))))
        · skip
          refine Pw.alloc rfl rfl rfl rfl rfl (fun g6 => ?_)
          refine Pw.held sf ?_
          refine Pw.one 3 (nb 8 63) rfl (by kernel_rfl) ?_
          refine Pw.call (Theirs_ct c d z) rfl rfl rfl (by kernel_rfl) rfl rfl (fun w h => trivial) ?_
          intro _ _
          refine Pw.held sf ?_
          refine Pw.one 6 (nb 8 127) rfl (by kernel_rfl) ?_
          first | refine Pw.storeB rfl rfl .head rfl rfl rfl rfl rfl rfl ?_ | refine Pw.storeB rfl rfl (.tail .head) rfl rfl rfl rfl rfl rfl ?_
          refine Pw.held sf ?_
          refine Pw.one 7 (nb 8 255) rfl (by kernel_rfl) ?_
          first | refine Pw.storeB rfl rfl .head rfl rfl rfl rfl rfl rfl ?_ | refine Pw.storeB rfl rfl (.tail .head) rfl rfl rfl rfl rfl rfl ?_
          refine Pw.held sf ?_
          refine Pw.done (by kernel_rfl) ?_
          refine freeHead (freeHead ?_)
          exact Pw.arrive (g5, g6) trivial ⟨rfl, rfl, rfl, rfl, trivial⟩ rfl (fun w h => allCons (by first | exact fact0 (h) | exact fact0 (allTail (h)) | exact fact0 (allTail (allTail (h))) | exact fact0 (allTail (allTail (allTail (h)))) | exact fact0 (allTail (allTail (allTail (allTail (h))))) | exact fact0 (allTail (allTail (allTail (allTail (allTail (h)))))) | exact fact0 (allTail (allTail (allTail (allTail (allTail (allTail (h))))))) | exact fact0 (allTail (allTail (allTail (allTail (allTail (allTail (allTail (h)))))))) | exact fact0 (allTail (allTail (allTail (allTail (allTail (allTail (allTail (allTail (h))))))))) | exact fact0 (allTail (allTail (allTail (allTail (allTail (allTail (allTail (allTail (allTail (h))))))))))) (allCons (by first | exact fact0 (h) | exact fact0 (allTail (h)) | exact fact0 (allTail (allTail (h))) | exact fact0 (allTail (allTail (allTail (h)))) | exact fact0 (allTail (allTail (allTail (allTail (h))))) | exact fact0 (allTail (allTail (allTail (allTail (allTail (h)))))) | exact fact0 (allTail (allTail (allTail (allTail (allTail (allTail (h))))))) | exact fact0 (allTail (allTail (allTail (allTail (allTail (allTail (allTail (h)))))))) | exact fact0 (allTail (allTail (allTail (allTail (allTail (allTail (allTail (allTail (h))))))))) | exact fact0 (allTail (allTail (allTail (allTail (allTail (allTail (allTail (allTail (allTail (h))))))))))) (allCons (by first | exact fact0 (h) | exact fact0 (allTail (h)) | exact fact0 (allTail (allTail (h))) | exact fact0 (allTail (allTail (allTail (h)))) | exact fact0 (allTail (allTail (allTail (allTail (h))))) | exact fact0 (allTail (allTail (allTail (allTail (allTail (h)))))) | exact fact0 (allTail (allTail (allTail (allTail (allTail (allTail (h))))))) | exact fact0 (allTail (allTail (allTail (allTail (allTail (allTail (allTail (h)))))))) | exact fact0 (allTail (allTail (allTail (allTail (allTail (allTail (allTail (allTail (h))))))))) | exact fact0 (allTail (allTail (allTail (allTail (allTail (allTail (allTail (allTail (allTail (h))))))))))) (allCons (by first | exact fact0 (h) | exact fact0 (allTail (h)) | exact fact0 (allTail (allTail (h))) | exact fact0 (allTail (allTail (allTail (h)))) | exact fact0 (allTail (allTail (allTail (allTail (h))))) | exact fact0 (allTail (allTail (allTail (allTail (allTail (h)))))) | exact fact0 (allTail (allTail (allTail (allTail (allTail (allTail (h))))))) | exact fact0 (allTail (allTail (allTail (allTail (allTail (allTail (allTail (h)))))))) | exact fact0 (allTail (allTail (allTail (allTail (allTail (allTail (allTail (allTail (h))))))))) | exact fact0 (allTail (allTail (allTail (allTail (allTail (allTail (allTail (allTail (allTail (h))))))))))) (allCons (by first | exact fact0 (h) | exact fact0 (allTail (h)) | exact fact0 (allTail (allTail (h))) | exact fact0 (allTail (allTail (allTail (h)))) | exact fact0 (allTail (allTail (allTail (allTail (h))))) | exact fact0 (allTail (allTail (allTail (allTail (allTail (h)))))) | exact fact0 (allTail (allTail (allTail (allTail (allTail (allTail (h))))))) | exact fact0 (allTail (allTail (allTail (allTail (allTail (allTail (allTail (h)))))))) | exact fact0 (allTail (allTail (allTail (allTail (allTail (allTail (allTail (allTail (h))))))))) | exact fact0 (allTail (allTail (allTail (allTail (allTail (allTail (allTail (allTail (allTail (h))))))))))) (allCons (by first | exact fact0 (h) | exact fact0 (allTail (h)) | exact fact0 (allTail (allTail (h))) | exact fact0 (allTail (allTail (allTail (h)))) | exact fact0 (allTail (allTail (allTail (allTail (h))))) | exact fact0 (allTail (allTail (allTail (allTail (allTail (h)))))) | exact fact0 (allTail (allTail (allTail (allTail (allTail (allTail (h))))))) | exact fact0 (allTail (allTail (allTail (allTail (allTail (allTail (allTail (h)))))))) | exact fact0 (allTail (allTail (allTail (allTail (allTail (allTail (allTail (allTail (h))))))))) | exact fact0 (allTail (allTail (allTail (allTail (allTail (allTail (allTail (allTail (allTail (h))))))))))) allNil))))))
      · skip
        refine Pw.alloc rfl rfl rfl rfl rfl (fun g6 => ?_)
        refine Pw.held sf ?_
        refine Pw.one 1 (nb 8 55) rfl (by kernel_rfl) ?_
        refine Pw.call (Theirs_ct a b y) rfl rfl rfl (by kernel_rfl) rfl rfl (fun w h => trivial) ?_
        intro _ _
        refine Pw.held sf ?_
        refine Pw.one 3 (nb 8 63) rfl (by kernel_rfl) ?_
        refine Pw.call (Theirs_ct c d z) rfl rfl rfl (by kernel_rfl) rfl rfl (fun w h => trivial) ?_
        intro _ _
        refine Pw.held sf ?_
        refine Pw.one 6 (nb 8 127) rfl (by kernel_rfl) ?_
        first | refine Pw.storeB rfl rfl .head rfl rfl rfl rfl rfl rfl ?_ | refine Pw.storeB rfl rfl (.tail .head) rfl rfl rfl rfl rfl rfl ?_
        refine Pw.held sf ?_
        refine Pw.one 7 (nb 8 255) rfl (by kernel_rfl) ?_
        first | refine Pw.storeB rfl rfl .head rfl rfl rfl rfl rfl rfl ?_ | refine Pw.storeB rfl rfl (.tail .head) rfl rfl rfl rfl rfl rfl ?_
        refine Pw.held sf ?_
        refine Pw.done (by kernel_rfl) ?_
        refine freeHead (freeHead ?_)
        exact Pw.arrive (g5, g6) trivial ⟨rfl, rfl, rfl, rfl, trivial⟩ rfl (fun w h => allCons (by first | exact fact0 (h) | exact fact0 (allTail (h)) | exact fact0 (allTail (allTail (h))) | exact fact0 (allTail (allTail (allTail (h)))) | exact fact0 (allTail (allTail (allTail (allTail (h))))) | exact fact0 (allTail (allTail (allTail (allTail (allTail (h)))))) | exact fact0 (allTail (allTail (allTail (allTail (allTail (allTail (h))))))) | exact fact0 (allTail (allTail (allTail (allTail (allTail (allTail (allTail (h)))))))) | exact fact0 (allTail (allTail (allTail (allTail (allTail (allTail (allTail (allTail (h))))))))) | exact fact0 (allTail (allTail (allTail (allTail (allTail (allTail (allTail (allTail (allTail (h))))))))))) (allCons (by first | exact fact0 (h) | exact fact0 (allTail (h)) | exact fact0 (allTail (allTail (h))) | exact fact0 (allTail (allTail (allTail (h)))) | exact fact0 (allTail (allTail (allTail (allTail (h))))) | exact fact0 (allTail (allTail (allTail (allTail (allTail (h)))))) | exact fact0 (allTail (allTail (allTail (allTail (allTail (allTail (h))))))) | exact fact0 (allTail (allTail (allTail (allTail (allTail (allTail (allTail (h)))))))) | exact fact0 (allTail (allTail (allTail (allTail (allTail (allTail (allTail (allTail (h))))))))) | exact fact0 (allTail (allTail (allTail (allTail (allTail (allTail (allTail (allTail (allTail (h))))))))))) (allCons (by first | exact fact0 (h) | exact fact0 (allTail (h)) | exact fact0 (allTail (allTail (h))) | exact fact0 (allTail (allTail (allTail (h)))) | exact fact0 (allTail (allTail (allTail (allTail (h))))) | exact fact0 (allTail (allTail (allTail (allTail (allTail (h)))))) | exact fact0 (allTail (allTail (allTail (allTail (allTail (allTail (h))))))) | exact fact0 (allTail (allTail (allTail (allTail (allTail (allTail (allTail (h)))))))) | exact fact0 (allTail (allTail (allTail (allTail (allTail (allTail (allTail (allTail (h))))))))) | exact fact0 (allTail (allTail (allTail (allTail (allTail (allTail (allTail (allTail (allTail (h))))))))))) (allCons (by first | exact fact0 (h) | exact fact0 (allTail (h)) | exact fact0 (allTail (allTail (h))) | exact fact0 (allTail (allTail (allTail (h)))) | exact fact0 (allTail (allTail (allTail (allTail (h))))) | exact fact0 (allTail (allTail (allTail (allTail (allTail (h)))))) | exact fact0 (allTail (allTail (allTail (allTail (allTail (allTail (h))))))) | exact fact0 (allTail (allTail (allTail (allTail (allTail (allTail (allTail (h)))))))) | exact fact0 (allTail (allTail (allTail (allTail (allTail (allTail (allTail (allTail (h))))))))) | exact fact0 (allTail (allTail (allTail (allTail (allTail (allTail (allTail (allTail (allTail (h))))))))))) (allCons (by first | exact fact0 (h) | exact fact0 (allTail (h)) | exact fact0 (allTail (allTail (h))) | exact fact0 (allTail (allTail (allTail (h)))) | exact fact0 (allTail (allTail (allTail (allTail (h))))) | exact fact0 (allTail (allTail (allTail (allTail (allTail (h)))))) | exact fact0 (allTail (allTail (allTail (allTail (allTail (allTail (h))))))) | exact fact0 (allTail (allTail (allTail (allTail (allTail (allTail (allTail (h)))))))) | exact fact0 (allTail (allTail (allTail (allTail (allTail (allTail (allTail (allTail (h))))))))) | exact fact0 (allTail (allTail (allTail (allTail (allTail (allTail (allTail (allTail (allTail (h))))))))))) (allCons (by first | exact fact0 (h) | exact fact0 (allTail (h)) | exact fact0 (allTail (allTail (h))) | exact fact0 (allTail (allTail (allTail (h)))) | exact fact0 (allTail (allTail (allTail (allTail (h))))) | exact fact0 (allTail (allTail (allTail (allTail (allTail (h)))))) | exact fact0 (allTail (allTail (allTail (allTail (allTail (allTail (h))))))) | exact fact0 (allTail (allTail (allTail (allTail (allTail (allTail (allTail (h)))))))) | exact fact0 (allTail (allTail (allTail (allTail (allTail (allTail (allTail (allTail (h))))))))) | exact fact0 (allTail (allTail (allTail (allTail (allTail (allTail (allTail (allTail (allTail (h))))))))))) allNil))))))
    · skip
      refine Pw.alloc rfl rfl rfl rfl rfl (fun g6 => ?_)
      refine Pw.held sf ?_
      refine Pw.two 1 4 (nb 8 39) (nb 8 53) rfl rfl (by kernel_rfl) ?_ ?_
      · skip
        refine Pw.call (Theirs_ct a b y) rfl rfl rfl (by kernel_rfl) rfl rfl (fun w h => trivial) ?_
        intro _ _
        refine Pw.held sf ?_
        refine Pw.two 3 4 (nb 8 47) (nb 8 55) rfl rfl (by kernel_rfl) ?_ ?_
        · skip
          refine Pw.call (Theirs_ct c d z) rfl rfl rfl (by kernel_rfl) rfl rfl (fun w h => trivial) ?_
          intro _ _
          refine Pw.held sf ?_
          refine Pw.one 4 (nb 8 63) rfl (by kernel_rfl) ?_
          refine Pw.alloc rfl rfl rfl rfl rfl (fun g5 => ?_)
          refine Pw.held sf ?_
          refine Pw.one 6 (nb 8 127) rfl (by kernel_rfl) ?_
          first | refine Pw.storeB rfl rfl .head rfl rfl rfl rfl rfl rfl ?_ | refine Pw.storeB rfl rfl (.tail .head) rfl rfl rfl rfl rfl rfl ?_
          refine Pw.held sf ?_
          refine Pw.one 7 (nb 8 255) rfl (by kernel_rfl) ?_
          first | refine Pw.storeB rfl rfl .head rfl rfl rfl rfl rfl rfl ?_ | refine Pw.storeB rfl rfl (.tail .head) rfl rfl rfl rfl rfl rfl ?_
          refine Pw.held sf ?_
          refine Pw.done (by kernel_rfl) ?_
          refine freeHead (freeHead ?_)
          exact Pw.arrive (g5, g6) trivial ⟨rfl, rfl, rfl, rfl, trivial⟩ rfl (fun w h => allCons (by first | exact fact0 (h) | exact fact0 (allTail (h)) | exact fact0 (allTail (allTail (h))) | exact fact0 (allTail (allTail (allTail (h)))) | exact fact0 (allTail (allTail (allTail (allTail (h))))) | exact fact0 (allTail (allTail (allTail (allTail (allTail (h)))))) | exact fact0 (allTail (allTail (allTail (allTail (allTail (allTail (h))))))) | exact fact0 (allTail (allTail (allTail (allTail (allTail (allTail (allTail (h)))))))) | exact fact0 (allTail (allTail (allTail (allTail (allTail (allTail (allTail (allTail (h))))))))) | exact fact0 (allTail (allTail (allTail (allTail (allTail (allTail (allTail (allTail (allTail (h))))))))))) (allCons (by first | exact fact0 (h) | exact fact0 (allTail (h)) | exact fact0 (allTail (allTail (h))) | exact fact0 (allTail (allTail (allTail (h)))) | exact fact0 (allTail (allTail (allTail (allTail (h))))) | exact fact0 (allTail (allTail (allTail (allTail (allTail (h)))))) | exact fact0 (allTail (allTail (allTail (allTail (allTail (allTail (h))))))) | exact fact0 (allTail (allTail (allTail (allTail (allTail (allTail (allTail (h)))))))) | exact fact0 (allTail (allTail (allTail (allTail (allTail (allTail (allTail (allTail (h))))))))) | exact fact0 (allTail (allTail (allTail (allTail (allTail (allTail (allTail (allTail (allTail (h))))))))))) (allCons (by first | exact fact0 (h) | exact fact0 (allTail (h)) | exact fact0 (allTail (allTail (h))) | exact fact0 (allTail (allTail (allTail (h)))) | exact fact0 (allTail (allTail (allTail (allTail (h))))) | exact fact0 (allTail (allTail (allTail (allTail (allTail (h)))))) | exact fact0 (allTail (allTail (allTail (allTail (allTail (allTail (h))))))) | exact fact0 (allTail (allTail (allTail (allTail (allTail (allTail (allTail (h)))))))) | exact fact0 (allTail (allTail (allTail (allTail (allTail (allTail (allTail (allTail (h))))))))) | exact fact0 (allTail (allTail (allTail (allTail (allTail (allTail (allTail (allTail (allTail (h))))))))))) (allCons (by first | exact fact0 (h) | exact fact0 (allTail (h)) | exact fact0 (allTail (allTail (h))) | exact fact0 (allTail (allTail (allTail (h)))) | exact fact0 (allTail (allTail (allTail (allTail (h))))) | exact fact0 (allTail (allTail (allTail (allTail (allTail (h)))))) | exact fact0 (allTail (allTail (allTail (allTail (allTail (allTail (h))))))) | exact fact0 (allTail (allTail (allTail (allTail (allTail (allTail (allTail (h)))))))) | exact fact0 (allTail (allTail (allTail (allTail (allTail (allTail (allTail (allTail (h))))))))) | exact fact0 (allTail (allTail (allTail (allTail (allTail (allTail (allTail (allTail (allTail (h))))))))))) (allCons (by first | exact fact0 (h) | exact fact0 (allTail (h)) | exact fact0 (allTail (allTail (h))) | exact fact0 (allTail (allTail (allTail (h)))) | exact fact0 (allTail (allTail (allTail (allTail (h))))) | exact fact0 (allTail (allTail (allTail (allTail (allTail (h)))))) | exact fact0 (allTail (allTail (allTail (allTail (allTail (allTail (h))))))) | exact fact0 (allTail (allTail (allTail (allTail (allTail (allTail (allTail (h)))))))) | exact fact0 (allTail (allTail (allTail (allTail (allTail (allTail (allTail (allTail (h))))))))) | exact fact0 (allTail (allTail (allTail (allTail (allTail (allTail (allTail (allTail (allTail (h))))))))))) (allCons (by first | exact fact0 (h) | exact fact0 (allTail (h)) | exact fact0 (allTail (allTail (h))) | exact fact0 (allTail (allTail (allTail (h)))) | exact fact0 (allTail (allTail (allTail (allTail (h))))) | exact fact0 (allTail (allTail (allTail (allTail (allTail (h)))))) | exact fact0 (allTail (allTail (allTail (allTail (allTail (allTail (h))))))) | exact fact0 (allTail (allTail (allTail (allTail (allTail (allTail (allTail (h)))))))) | exact fact0 (allTail (allTail (allTail (allTail (allTail (allTail (allTail (allTail (h))))))))) | exact fact0 (allTail (allTail (allTail (allTail (allTail (allTail (allTail (allTail (allTail (h))))))))))) allNil))))))
        · skip
          refine Pw.alloc rfl rfl rfl rfl rfl (fun g5 => ?_)
          refine Pw.held sf ?_
          refine Pw.one 3 (nb 8 63) rfl (by kernel_rfl) ?_
          refine Pw.call (Theirs_ct c d z) rfl rfl rfl (by kernel_rfl) rfl rfl (fun w h => trivial) ?_
          intro _ _
          refine Pw.held sf ?_
          refine Pw.one 6 (nb 8 127) rfl (by kernel_rfl) ?_
          first | refine Pw.storeB rfl rfl .head rfl rfl rfl rfl rfl rfl ?_ | refine Pw.storeB rfl rfl (.tail .head) rfl rfl rfl rfl rfl rfl ?_
          refine Pw.held sf ?_
          refine Pw.one 7 (nb 8 255) rfl (by kernel_rfl) ?_
          first | refine Pw.storeB rfl rfl .head rfl rfl rfl rfl rfl rfl ?_ | refine Pw.storeB rfl rfl (.tail .head) rfl rfl rfl rfl rfl rfl ?_
          refine Pw.held sf ?_
          refine Pw.done (by kernel_rfl) ?_
          refine freeHead (freeHead ?_)
          exact Pw.arrive (g5, g6) trivial ⟨rfl, rfl, rfl, rfl, trivial⟩ rfl (fun w h => allCons (by first | exact fact0 (h) | exact fact0 (allTail (h)) | exact fact0 (allTail (allTail (h))) | exact fact0 (allTail (allTail (allTail (h)))) | exact fact0 (allTail (allTail (allTail (allTail (h))))) | exact fact0 (allTail (allTail (allTail (allTail (allTail (h)))))) | exact fact0 (allTail (allTail (allTail (allTail (allTail (allTail (h))))))) | exact fact0 (allTail (allTail (allTail (allTail (allTail (allTail (allTail (h)))))))) | exact fact0 (allTail (allTail (allTail (allTail (allTail (allTail (allTail (allTail (h))))))))) | exact fact0 (allTail (allTail (allTail (allTail (allTail (allTail (allTail (allTail (allTail (h))))))))))) (allCons (by first | exact fact0 (h) | exact fact0 (allTail (h)) | exact fact0 (allTail (allTail (h))) | exact fact0 (allTail (allTail (allTail (h)))) | exact fact0 (allTail (allTail (allTail (allTail (h))))) | exact fact0 (allTail (allTail (allTail (allTail (allTail (h)))))) | exact fact0 (allTail (allTail (allTail (allTail (allTail (allTail (h))))))) | exact fact0 (allTail (allTail (allTail (allTail (allTail (allTail (allTail (h)))))))) | exact fact0 (allTail (allTail (allTail (allTail (allTail (allTail (allTail (allTail (h))))))))) | exact fact0 (allTail (allTail (allTail (allTail (allTail (allTail (allTail (allTail (allTail (h))))))))))) (allCons (by first | exact fact0 (h) | exact fact0 (allTail (h)) | exact fact0 (allTail (allTail (h))) | exact fact0 (allTail (allTail (allTail (h)))) | exact fact0 (allTail (allTail (allTail (allTail (h))))) | exact fact0 (allTail (allTail (allTail (allTail (allTail (h)))))) | exact fact0 (allTail (allTail (allTail (allTail (allTail (allTail (h))))))) | exact fact0 (allTail (allTail (allTail (allTail (allTail (allTail (allTail (h)))))))) | exact fact0 (allTail (allTail (allTail (allTail (allTail (allTail (allTail (allTail (h))))))))) | exact fact0 (allTail (allTail (allTail (allTail (allTail (allTail (allTail (allTail (allTail (h))))))))))) (allCons (by first | exact fact0 (h) | exact fact0 (allTail (h)) | exact fact0 (allTail (allTail (h))) | exact fact0 (allTail (allTail (allTail (h)))) | exact fact0 (allTail (allTail (allTail (allTail (h))))) | exact fact0 (allTail (allTail (allTail (allTail (allTail (h)))))) | exact fact0 (allTail (allTail (allTail (allTail (allTail (allTail (h))))))) | exact fact0 (allTail (allTail (allTail (allTail (allTail (allTail (allTail (h)))))))) | exact fact0 (allTail (allTail (allTail (allTail (allTail (allTail (allTail (allTail (h))))))))) | exact fact0 (allTail (allTail (allTail (allTail (allTail (allTail (allTail (allTail (allTail (h))))))))))) (allCons (by first | exact fact0 (h) | exact fact0 (allTail (h)) | exact fact0 (allTail (allTail (h))) | exact fact0 (allTail (allTail (allTail (h)))) | exact fact0 (allTail (allTail (allTail (allTail (h))))) | exact fact0 (allTail (allTail (allTail (allTail (allTail (h)))))) | exact fact0 (allTail (allTail (allTail (allTail (allTail (allTail (h))))))) | exact fact0 (allTail (allTail (allTail (allTail (allTail (allTail (allTail (h)))))))) | exact fact0 (allTail (allTail (allTail (allTail (allTail (allTail (allTail (allTail (h))))))))) | exact fact0 (allTail (allTail (allTail (allTail (allTail (allTail (allTail (allTail (allTail (h))))))))))) (allCons (by first | exact fact0 (h) | exact fact0 (allTail (h)) | exact fact0 (allTail (allTail (h))) | exact fact0 (allTail (allTail (allTail (h)))) | exact fact0 (allTail (allTail (allTail (allTail (h))))) | exact fact0 (allTail (allTail (allTail (allTail (allTail (h)))))) | exact fact0 (allTail (allTail (allTail (allTail (allTail (allTail (h))))))) | exact fact0 (allTail (allTail (allTail (allTail (allTail (allTail (allTail (h)))))))) | exact fact0 (allTail (allTail (allTail (allTail (allTail (allTail (allTail (allTail (h))))))))) | exact fact0 (allTail (allTail (allTail (allTail (allTail (allTail (allTail (allTail (allTail (h))))))))))) allNil))))))
      · skip
        refine Pw.alloc rfl rfl rfl rfl rfl (fun g5 => ?_)
        refine Pw.held sf ?_
        refine Pw.one 1 (nb 8 55) rfl (by kernel_rfl) ?_
        refine Pw.call (Theirs_ct a b y) rfl rfl rfl (by kernel_rfl) rfl rfl (fun w h => trivial) ?_
        intro _ _
        refine Pw.held sf ?_
        refine Pw.one 3 (nb 8 63) rfl (by kernel_rfl) ?_
        refine Pw.call (Theirs_ct c d z) rfl rfl rfl (by kernel_rfl) rfl rfl (fun w h => trivial) ?_
        intro _ _
        refine Pw.held sf ?_
        refine Pw.one 6 (nb 8 127) rfl (by kernel_rfl) ?_
        first | refine Pw.storeB rfl rfl .head rfl rfl rfl rfl rfl rfl ?_ | refine Pw.storeB rfl rfl (.tail .head) rfl rfl rfl rfl rfl rfl ?_
        refine Pw.held sf ?_
        refine Pw.one 7 (nb 8 255) rfl (by kernel_rfl) ?_
        first | refine Pw.storeB rfl rfl .head rfl rfl rfl rfl rfl rfl ?_ | refine Pw.storeB rfl rfl (.tail .head) rfl rfl rfl rfl rfl rfl ?_
        refine Pw.held sf ?_
        refine Pw.done (by kernel_rfl) ?_
        refine freeHead (freeHead ?_)
        exact Pw.arrive (g5, g6) trivial ⟨rfl, rfl, rfl, rfl, trivial⟩ rfl (fun w h => allCons (by first | exact fact0 (h) | exact fact0 (allTail (h)) | exact fact0 (allTail (allTail (h))) | exact fact0 (allTail (allTail (allTail (h)))) | exact fact0 (allTail (allTail (allTail (allTail (h))))) | exact fact0 (allTail (allTail (allTail (allTail (allTail (h)))))) | exact fact0 (allTail (allTail (allTail (allTail (allTail (allTail (h))))))) | exact fact0 (allTail (allTail (allTail (allTail (allTail (allTail (allTail (h)))))))) | exact fact0 (allTail (allTail (allTail (allTail (allTail (allTail (allTail (allTail (h))))))))) | exact fact0 (allTail (allTail (allTail (allTail (allTail (allTail (allTail (allTail (allTail (h))))))))))) (allCons (by first | exact fact0 (h) | exact fact0 (allTail (h)) | exact fact0 (allTail (allTail (h))) | exact fact0 (allTail (allTail (allTail (h)))) | exact fact0 (allTail (allTail (allTail (allTail (h))))) | exact fact0 (allTail (allTail (allTail (allTail (allTail (h)))))) | exact fact0 (allTail (allTail (allTail (allTail (allTail (allTail (h))))))) | exact fact0 (allTail (allTail (allTail (allTail (allTail (allTail (allTail (h)))))))) | exact fact0 (allTail (allTail (allTail (allTail (allTail (allTail (allTail (allTail (h))))))))) | exact fact0 (allTail (allTail (allTail (allTail (allTail (allTail (allTail (allTail (allTail (h))))))))))) (allCons (by first | exact fact0 (h) | exact fact0 (allTail (h)) | exact fact0 (allTail (allTail (h))) | exact fact0 (allTail (allTail (allTail (h)))) | exact fact0 (allTail (allTail (allTail (allTail (h))))) | exact fact0 (allTail (allTail (allTail (allTail (allTail (h)))))) | exact fact0 (allTail (allTail (allTail (allTail (allTail (allTail (h))))))) | exact fact0 (allTail (allTail (allTail (allTail (allTail (allTail (allTail (h)))))))) | exact fact0 (allTail (allTail (allTail (allTail (allTail (allTail (allTail (allTail (h))))))))) | exact fact0 (allTail (allTail (allTail (allTail (allTail (allTail (allTail (allTail (allTail (h))))))))))) (allCons (by first | exact fact0 (h) | exact fact0 (allTail (h)) | exact fact0 (allTail (allTail (h))) | exact fact0 (allTail (allTail (allTail (h)))) | exact fact0 (allTail (allTail (allTail (allTail (h))))) | exact fact0 (allTail (allTail (allTail (allTail (allTail (h)))))) | exact fact0 (allTail (allTail (allTail (allTail (allTail (allTail (h))))))) | exact fact0 (allTail (allTail (allTail (allTail (allTail (allTail (allTail (h)))))))) | exact fact0 (allTail (allTail (allTail (allTail (allTail (allTail (allTail (allTail (h))))))))) | exact fact0 (allTail (allTail (allTail (allTail (allTail (allTail (allTail (allTail (allTail (h))))))))))) (allCons (by first | exact fact0 (h) | exact fact0 (allTail (h)) | exact fact0 (allTail (allTail (h))) | exact fact0 (allTail (allTail (allTail (h)))) | exact fact0 (allTail (allTail (allTail (allTail (h))))) | exact fact0 (allTail (allTail (allTail (allTail (allTail (h)))))) | exact fact0 (allTail (allTail (allTail (allTail (allTail (allTail (h))))))) | exact fact0 (allTail (allTail (allTail (allTail (allTail (allTail (allTail (h)))))))) | exact fact0 (allTail (allTail (allTail (allTail (allTail (allTail (allTail (allTail (h))))))))) | exact fact0 (allTail (allTail (allTail (allTail (allTail (allTail (allTail (allTail (allTail (h))))))))))) (allCons (by first | exact fact0 (h) | exact fact0 (allTail (h)) | exact fact0 (allTail (allTail (h))) | exact fact0 (allTail (allTail (allTail (h)))) | exact fact0 (allTail (allTail (allTail (allTail (h))))) | exact fact0 (allTail (allTail (allTail (allTail (allTail (h)))))) | exact fact0 (allTail (allTail (allTail (allTail (allTail (allTail (h))))))) | exact fact0 (allTail (allTail (allTail (allTail (allTail (allTail (allTail (h)))))))) | exact fact0 (allTail (allTail (allTail (allTail (allTail (allTail (allTail (allTail (h))))))))) | exact fact0 (allTail (allTail (allTail (allTail (allTail (allTail (allTail (allTail (allTail (h))))))))))) allNil))))))
  rintro ⟨g5, g6⟩ _
  dsimp only
  repeat (first | (with_reducible first | refine Pw.seq ?_ | refine Pw.region ?_ | refine Pw.nil ?_ | refine Pw.then_ ?_ | refine Pw.skip ?_ | refine Pw.block ?_ | refine Pw.exit ?_ | refine Pw.inX ?_ | refine Pw.inN ?_ | refine Pw.inR ?_ | refine Pw.thenX ?_ | refine Pw.thenR ?_ | refine Pw.ret ?_) | refine Pw.list (Pw.pure rfl rfl rfl ?_) | refine Pw.inY rfl ?_ | refine Pw.list (Pw.off rfl rfl ?_) | refine Pw.condT rfl ?_ | refine Pw.condF rfl ?_ | refine Pw.list (Pw.box rfl rfl rfl rfl (fun _ => ?_)) | refine Pw.list (Pw.alloc rfl rfl rfl rfl rfl (fun _ => ?_)) | refine Pw.list (Pw.build rfl rfl rfl rfl ?_) | refine Pw.list (Pw.ld rfl inferInstance rfl rfl rfl ?_) | refine Pw.list (Pw.sto rfl rfl inferInstance rfl rfl rfl rfl rfl inferInstance rfl ?_))
  refine Pw.list (Pw.call (rat_Mul_ct a b c d y z ha hb hc hd (by omega) (by omega) (by omega) (by omega)) rfl rfl rfl (by kernel_rfl) rfl rfl (fun w h => ⟨(hv w h), (hv w h)⟩) ?_)
  intro z1 _
  repeat (first | (with_reducible first | refine Pw.seq ?_ | refine Pw.region ?_ | refine Pw.nil ?_ | refine Pw.then_ ?_ | refine Pw.skip ?_ | refine Pw.block ?_ | refine Pw.exit ?_ | refine Pw.inX ?_ | refine Pw.inN ?_ | refine Pw.inR ?_ | refine Pw.thenX ?_ | refine Pw.thenR ?_ | refine Pw.ret ?_) | refine Pw.list (Pw.pure rfl rfl rfl ?_) | refine Pw.inY rfl ?_ | refine Pw.list (Pw.off rfl rfl ?_) | refine Pw.condT rfl ?_ | refine Pw.condF rfl ?_ | refine Pw.list (Pw.box rfl rfl rfl rfl (fun _ => ?_)) | refine Pw.list (Pw.alloc rfl rfl rfl rfl rfl (fun _ => ?_)) | refine Pw.list (Pw.build rfl rfl rfl rfl ?_) | refine Pw.list (Pw.ld rfl inferInstance rfl rfl rfl ?_) | refine Pw.list (Pw.sto rfl rfl inferInstance rfl rfl rfl rfl rfl inferInstance rfl ?_))
  refine Pw.list (Pw.call (MulRatio_ct a b c d y z ha hb hc hd (by omega) (by omega) (by omega) (by omega)) rfl rfl rfl (by kernel_rfl) rfl rfl (fun w h => ⟨(hv w h), (hv w h)⟩) ?_)
  intro z2 _
  repeat (first | (with_reducible first | refine Pw.seq ?_ | refine Pw.region ?_ | refine Pw.nil ?_ | refine Pw.then_ ?_ | refine Pw.skip ?_ | refine Pw.block ?_ | refine Pw.exit ?_ | refine Pw.inX ?_ | refine Pw.inN ?_ | refine Pw.inR ?_ | refine Pw.thenX ?_ | refine Pw.thenR ?_ | refine Pw.ret ?_) | refine Pw.list (Pw.pure rfl rfl rfl ?_) | refine Pw.inY rfl ?_ | refine Pw.list (Pw.off rfl rfl ?_) | refine Pw.condT rfl ?_ | refine Pw.condF rfl ?_ | refine Pw.list (Pw.box rfl rfl rfl rfl (fun _ => ?_)) | refine Pw.list (Pw.alloc rfl rfl rfl rfl rfl (fun _ => ?_)) | refine Pw.list (Pw.build rfl rfl rfl rfl ?_) | refine Pw.list (Pw.ld rfl inferInstance rfl rfl rfl ?_) | refine Pw.list (Pw.sto rfl rfl inferInstance rfl rfl rfl rfl rfl inferInstance rfl ?_))
  refine Pw.list (Pw.call (rat_Div_ct a b c d y z ha hb hc hd (by omega) (by omega) (by omega) (by omega)) rfl rfl rfl (by kernel_rfl) rfl rfl (fun w h => ⟨(hv w h), (hv w h)⟩) ?_)
  intro z3 _
  repeat (first | (with_reducible first | refine Pw.seq ?_ | refine Pw.region ?_ | refine Pw.nil ?_ | refine Pw.then_ ?_ | refine Pw.skip ?_ | refine Pw.block ?_ | refine Pw.exit ?_ | refine Pw.inX ?_ | refine Pw.inN ?_ | refine Pw.inR ?_ | refine Pw.thenX ?_ | refine Pw.thenR ?_ | refine Pw.ret ?_) | refine Pw.list (Pw.pure rfl rfl rfl ?_) | refine Pw.inY rfl ?_ | refine Pw.list (Pw.off rfl rfl ?_) | refine Pw.condT rfl ?_ | refine Pw.condF rfl ?_ | refine Pw.list (Pw.box rfl rfl rfl rfl (fun _ => ?_)) | refine Pw.list (Pw.alloc rfl rfl rfl rfl rfl (fun _ => ?_)) | refine Pw.list (Pw.build rfl rfl rfl rfl ?_) | refine Pw.list (Pw.ld rfl inferInstance rfl rfl rfl ?_) | refine Pw.list (Pw.sto rfl rfl inferInstance rfl rfl rfl rfl rfl inferInstance rfl ?_))
  refine Pw.list (Pw.call (rDivRatio_ct a b c d y z ha hb hc hd (by omega) (by omega) (by omega) (by omega)) rfl rfl rfl (by kernel_rfl) rfl rfl (fun w h => ⟨(hv w h), (hv w h)⟩) ?_)
  intro z4 _
  repeat (first | (with_reducible first | refine Pw.seq ?_ | refine Pw.region ?_ | refine Pw.nil ?_ | refine Pw.then_ ?_ | refine Pw.skip ?_ | refine Pw.block ?_ | refine Pw.exit ?_ | refine Pw.inX ?_ | refine Pw.inN ?_ | refine Pw.inR ?_ | refine Pw.thenX ?_ | refine Pw.thenR ?_ | refine Pw.ret ?_) | refine Pw.list (Pw.pure rfl rfl rfl ?_) | refine Pw.inY rfl ?_ | refine Pw.list (Pw.off rfl rfl ?_) | refine Pw.condT rfl ?_ | refine Pw.condF rfl ?_ | refine Pw.list (Pw.box rfl rfl rfl rfl (fun _ => ?_)) | refine Pw.list (Pw.alloc rfl rfl rfl rfl rfl (fun _ => ?_)) | refine Pw.list (Pw.build rfl rfl rfl rfl ?_) | refine Pw.list (Pw.ld rfl inferInstance rfl rfl rfl ?_) | refine Pw.list (Pw.sto rfl rfl inferInstance rfl rfl rfl rfl rfl inferInstance rfl ?_))
  refine Pw.list (Pw.call (rat_Floor_ct a b y ha hb (by omega) (by omega)) rfl rfl rfl (by kernel_rfl) rfl rfl (fun w h => (hv w h)) ?_)
  intro z5 _
  repeat (first | (with_reducible first | refine Pw.seq ?_ | refine Pw.region ?_ | refine Pw.nil ?_ | refine Pw.then_ ?_ | refine Pw.skip ?_ | refine Pw.block ?_ | refine Pw.exit ?_ | refine Pw.inX ?_ | refine Pw.inN ?_ | refine Pw.inR ?_ | refine Pw.thenX ?_ | refine Pw.thenR ?_ | refine Pw.ret ?_) | refine Pw.list (Pw.pure rfl rfl rfl ?_) | refine Pw.inY rfl ?_ | refine Pw.list (Pw.off rfl rfl ?_) | refine Pw.condT rfl ?_ | refine Pw.condF rfl ?_ | refine Pw.list (Pw.box rfl rfl rfl rfl (fun _ => ?_)) | refine Pw.list (Pw.alloc rfl rfl rfl rfl rfl (fun _ => ?_)) | refine Pw.list (Pw.build rfl rfl rfl rfl ?_) | refine Pw.list (Pw.ld rfl inferInstance rfl rfl rfl ?_) | refine Pw.list (Pw.sto rfl rfl inferInstance rfl rfl rfl rfl rfl inferInstance rfl ?_))
  refine Pw.list (Pw.call (rFloor_ct a b y ha hb (by omega) (by omega)) rfl rfl rfl (by kernel_rfl) rfl rfl (fun w h => (hv w h)) ?_)
  intro z6 _
  repeat (first | (with_reducible first | refine Pw.seq ?_ | refine Pw.region ?_ | refine Pw.nil ?_ | refine Pw.then_ ?_ | refine Pw.skip ?_ | refine Pw.block ?_ | refine Pw.exit ?_ | refine Pw.inX ?_ | refine Pw.inN ?_ | refine Pw.inR ?_ | refine Pw.thenX ?_ | refine Pw.thenR ?_ | refine Pw.ret ?_) | refine Pw.list (Pw.pure rfl rfl rfl ?_) | refine Pw.inY rfl ?_ | refine Pw.list (Pw.off rfl rfl ?_) | refine Pw.condT rfl ?_ | refine Pw.condF rfl ?_ | refine Pw.list (Pw.box rfl rfl rfl rfl (fun _ => ?_)) | refine Pw.list (Pw.alloc rfl rfl rfl rfl rfl (fun _ => ?_)) | refine Pw.list (Pw.build rfl rfl rfl rfl ?_) | refine Pw.list (Pw.ld rfl inferInstance rfl rfl rfl ?_) | refine Pw.list (Pw.sto rfl rfl inferInstance rfl rfl rfl rfl rfl inferInstance rfl ?_))
  obtain ⟨o1, o2, o3, o4⟩ := rmulS_ok a b c d
  obtain ⟨q1, q2, q3, q4⟩ := rdivS_ok a b c d
  obtain ⟨u1, u2⟩ := rfloorS_ok a b ha hb
  refine Pw.list (Pw.call (rat_Same_ct _ _ z1 z2 o1 o2 o3 o4) rfl rfl rfl (by kernel_rfl) rfl rfl (fun w h => ⟨(hv w h), (hv w h)⟩) ?_)
  intro _ _
  repeat (first | (with_reducible first | refine Pw.seq ?_ | refine Pw.region ?_ | refine Pw.nil ?_ | refine Pw.then_ ?_ | refine Pw.skip ?_ | refine Pw.block ?_ | refine Pw.exit ?_ | refine Pw.inX ?_ | refine Pw.inN ?_ | refine Pw.inR ?_ | refine Pw.thenX ?_ | refine Pw.thenR ?_ | refine Pw.ret ?_) | refine Pw.list (Pw.pure rfl rfl rfl ?_) | refine Pw.inY rfl ?_ | refine Pw.list (Pw.off rfl rfl ?_) | refine Pw.condT rfl ?_ | refine Pw.condF rfl ?_ | refine Pw.list (Pw.box rfl rfl rfl rfl (fun _ => ?_)) | refine Pw.list (Pw.alloc rfl rfl rfl rfl rfl (fun _ => ?_)) | refine Pw.list (Pw.build rfl rfl rfl rfl ?_) | refine Pw.list (Pw.ld rfl inferInstance rfl rfl rfl ?_) | refine Pw.list (Pw.sto rfl rfl inferInstance rfl rfl rfl rfl rfl inferInstance rfl ?_))
  refine Pw.re (d := 75) (v' := .bool true) rfl (congrArg Value.bool (decide_eq_true rfl)) ?_
  repeat (first | (with_reducible first | refine Pw.seq ?_ | refine Pw.region ?_ | refine Pw.nil ?_ | refine Pw.then_ ?_ | refine Pw.skip ?_ | refine Pw.block ?_ | refine Pw.exit ?_ | refine Pw.inX ?_ | refine Pw.inN ?_ | refine Pw.inR ?_ | refine Pw.thenX ?_ | refine Pw.thenR ?_ | refine Pw.ret ?_) | refine Pw.list (Pw.pure rfl rfl rfl ?_) | refine Pw.inY rfl ?_ | refine Pw.list (Pw.off rfl rfl ?_) | refine Pw.condT rfl ?_ | refine Pw.condF rfl ?_ | refine Pw.list (Pw.box rfl rfl rfl rfl (fun _ => ?_)) | refine Pw.list (Pw.alloc rfl rfl rfl rfl rfl (fun _ => ?_)) | refine Pw.list (Pw.build rfl rfl rfl rfl ?_) | refine Pw.list (Pw.ld rfl inferInstance rfl rfl rfl ?_) | refine Pw.list (Pw.sto rfl rfl inferInstance rfl rfl rfl rfl rfl inferInstance rfl ?_))
  refine Pw.list (Pw.call (rat_Same_ct _ _ z3 z4 q1 q2 q3 q4) rfl rfl rfl (by kernel_rfl) rfl rfl (fun w h => ⟨(hv w h), (hv w h)⟩) ?_)
  intro _ _
  repeat (first | (with_reducible first | refine Pw.seq ?_ | refine Pw.region ?_ | refine Pw.nil ?_ | refine Pw.then_ ?_ | refine Pw.skip ?_ | refine Pw.block ?_ | refine Pw.exit ?_ | refine Pw.inX ?_ | refine Pw.inN ?_ | refine Pw.inR ?_ | refine Pw.thenX ?_ | refine Pw.thenR ?_ | refine Pw.ret ?_) | refine Pw.list (Pw.pure rfl rfl rfl ?_) | refine Pw.inY rfl ?_ | refine Pw.list (Pw.off rfl rfl ?_) | refine Pw.condT rfl ?_ | refine Pw.condF rfl ?_ | refine Pw.list (Pw.box rfl rfl rfl rfl (fun _ => ?_)) | refine Pw.list (Pw.alloc rfl rfl rfl rfl rfl (fun _ => ?_)) | refine Pw.list (Pw.build rfl rfl rfl rfl ?_) | refine Pw.list (Pw.ld rfl inferInstance rfl rfl rfl ?_) | refine Pw.list (Pw.sto rfl rfl inferInstance rfl rfl rfl rfl rfl inferInstance rfl ?_))
  refine Pw.re (d := 85) (v' := .bool true) rfl (congrArg Value.bool (decide_eq_true rfl)) ?_
  repeat (first | (with_reducible first | refine Pw.seq ?_ | refine Pw.region ?_ | refine Pw.nil ?_ | refine Pw.then_ ?_ | refine Pw.skip ?_ | refine Pw.block ?_ | refine Pw.exit ?_ | refine Pw.inX ?_ | refine Pw.inN ?_ | refine Pw.inR ?_ | refine Pw.thenX ?_ | refine Pw.thenR ?_ | refine Pw.ret ?_) | refine Pw.list (Pw.pure rfl rfl rfl ?_) | refine Pw.inY rfl ?_ | refine Pw.list (Pw.off rfl rfl ?_) | refine Pw.condT rfl ?_ | refine Pw.condF rfl ?_ | refine Pw.list (Pw.box rfl rfl rfl rfl (fun _ => ?_)) | refine Pw.list (Pw.alloc rfl rfl rfl rfl rfl (fun _ => ?_)) | refine Pw.list (Pw.build rfl rfl rfl rfl ?_) | refine Pw.list (Pw.ld rfl inferInstance rfl rfl rfl ?_) | refine Pw.list (Pw.sto rfl rfl inferInstance rfl rfl rfl rfl rfl inferInstance rfl ?_))
  have hs := rSame_ct _ _ z5 z6 u1 u1 (by omega) (by omega)
  rw [decide_eq_true rfl] at hs
  refine Pw.list (Pw.call hs rfl rfl rfl (by kernel_rfl) rfl rfl (fun w h => ⟨(hv w h), (hv w h)⟩) ?_)
  intro _ _
  repeat (first | (with_reducible first | refine Pw.seq ?_ | refine Pw.region ?_ | refine Pw.nil ?_ | refine Pw.then_ ?_ | refine Pw.skip ?_ | refine Pw.block ?_ | refine Pw.exit ?_ | refine Pw.inX ?_ | refine Pw.inN ?_ | refine Pw.inR ?_ | refine Pw.thenX ?_ | refine Pw.thenR ?_ | refine Pw.ret ?_) | refine Pw.list (Pw.pure rfl rfl rfl ?_) | refine Pw.inY rfl ?_ | refine Pw.list (Pw.off rfl rfl ?_) | refine Pw.condT rfl ?_ | refine Pw.condF rfl ?_ | refine Pw.list (Pw.box rfl rfl rfl rfl (fun _ => ?_)) | refine Pw.list (Pw.alloc rfl rfl rfl rfl rfl (fun _ => ?_)) | refine Pw.list (Pw.build rfl rfl rfl rfl ?_) | refine Pw.list (Pw.ld rfl inferInstance rfl rfl rfl ?_) | refine Pw.list (Pw.sto rfl rfl inferInstance rfl rfl rfl rfl rfl inferInstance rfl ?_))
  exact Pw.ret_ (x := ()) (.tmp rfl .nil) (congrArg Value.bool (decide_eq_true rfl)) trivial (fun w h => by trivial)
end Go.Proofs.Wk
/- RatioRules: what layer 2 answers, of fractions as pairs of numbers. -/
namespace Go.Proofs.Wk
set_option linter.unusedVariables false
set_option linter.unusedSimpArgs false
def lw (p q : Int) : List Int × List Int := (natL (p / gcdI p q), natL (q / gcdI p q))
theorem lowS_natL {p q : Int} (hp : 0 ≤ p) (hq : 0 ≤ q) : lowS (natL p) (natL q) = lw p q := by
  unfold lowS lw; rw [val_natL hp, val_natL hq]
theorem gcdI_mul {k p q : Int} (hk : 0 < k) (hp : 0 ≤ p) (hq : 0 ≤ q) : gcdI (k * p) (k * q) = k * gcdI p q := by
  unfold gcdI
  rw [Int.toNat_mul (by omega) hp, Int.toNat_mul (by omega) hq, Nat.gcd_mul_left, Int.natCast_mul, Int.toNat_of_nonneg (by omega)]
theorem lw_scale {k p q : Int} (hk : 0 < k) (hp : 0 ≤ p) (hq : 0 < q) : lw (k * p) (k * q) = lw p q := by
  unfold lw
  rw [gcdI_mul hk hp (by omega), Int.mul_ediv_mul_of_pos _ _ hk, Int.mul_ediv_mul_of_pos _ _ hk]
theorem gcdI_dvd (p q : Int) (hp : 0 ≤ p) (hq : 0 ≤ q) : gcdI p q ∣ p ∧ gcdI p q ∣ q := by
  unfold gcdI
  constructor
  · have := Nat.gcd_dvd_left p.toNat q.toNat
    have h := Int.natCast_dvd_natCast.2 this
    rwa [Int.toNat_of_nonneg hp] at h
  · have := Nat.gcd_dvd_right p.toNat q.toNat
    have h := Int.natCast_dvd_natCast.2 this
    rwa [Int.toNat_of_nonneg hq] at h
theorem lw_parts {p q : Int} (hp : 0 ≤ p) (hq : 0 < q) : ∃ g p' q', 0 < g ∧ p = g * p' ∧ q = g * q' ∧ 0 ≤ p' ∧ 0 < q' ∧ gcdI p' q' = 1 ∧ lw p q = (natL p', natL q') := by
  have g0 := gcdI_pos (x := p) hq
  obtain ⟨⟨p', e1⟩, ⟨q', e2⟩⟩ := gcdI_dvd p q hp (by omega)
  obtain ⟨g, hg⟩ : ∃ g, g = gcdI p q := ⟨_, rfl⟩
  rw [← hg] at g0 e1 e2
  have hp' : 0 ≤ p' := by
    rcases Int.lt_or_le p' 0 with h | h
    · have := Int.mul_neg_of_pos_of_neg g0 h; omega
    · exact h
  have hq' : 0 < q' := by
    rcases Int.lt_or_le 0 q' with h | h
    · exact h
    · have := Int.mul_nonpos_of_nonneg_of_nonpos (show 0 ≤ g by omega) h; omega
  refine ⟨g, p', q', g0, e1, e2, hp', hq', ?_, ?_⟩
  · have h := gcdI_mul (k := g) g0 hp' (show 0 ≤ q' by omega)
    rw [← e1, ← e2, ← hg] at h
    have h2 : g * 1 = g * gcdI p' q' := by omega
    exact (Int.eq_of_mul_eq_mul_left (by omega) h2).symm
  · unfold lw
    rw [← hg, e1, e2, Int.mul_ediv_cancel_left _ (by omega), Int.mul_ediv_cancel_left _ (by omega)]
theorem le_scale {g p n : Int} (hg : 0 < g) (hp : 0 ≤ p) (h : g * p < n) : p < n := by
  have := Int.mul_le_mul_of_nonneg_right (show 1 ≤ g by omega) hp
  omega
theorem of_lw {n d : Int} (h : 0 ≤ n) (h' : n ≤ 18446744073709551615) (h0 : 0 < d) (h1 : d ≤ 18446744073709551615) : makeS (ofN n) (ofN d) = ((lw n d).1, (lw n d).2, 0) := by
  rw [makeS_of (by omega) h1, if_neg (by omega)]
  unfold lowS
  rw [ofN_val h h', ofN_val (by omega) h1]; rfl
theorem lw_ok {p q : Int} {n : Nat} (hp : 0 ≤ p) (hq : 0 < q) (lp : p < pw n) (lq : q < pw n) (hn : n ≤ 400) : formedR (lw p q).1 (lw p q).2 = true ∧ (lw p q).1.length ≤ n ∧ (lw p q).2.length ≤ n ∧ Lm (lw p q).1 ∧ Lm (lw p q).2 := by
  obtain ⟨g, p', q', hg, rfl, rfl, hp', hq', e, el⟩ := lw_parts hp hq
  have b1 := le_scale hg hp' lp
  have b2 := le_scale hg (by omega) lq
  have n1 := natL_len_le hp' b1
  have n2 := natL_len_le (show 0 ≤ q' by omega) b2
  rw [el]
  refine ⟨?_, n1, n2, (natL_fm _).1, (natL_fm _).1⟩
  unfold formedR
  rw [fmB_natL (by omega), fmB_natL (by omega), val_natL hp', val_natL (by omega), e]
  have : 0 < (natL q').length := by
    rcases Nat.eq_zero_or_pos (natL q').length with h | h
    · have := (natL_len_zero (show 0 ≤ q' by omega)).1 h; omega
    · exact h
  simp [this]
theorem rcmpS_self {a b : List Int} (ha : Lm a) (hb : Lm b) (hf : formedR a b = true) : rcmpS a b a b = 0 := by
  rw [rcmpS_eq ha hb ha hb hf hf]
  split
  · unfold cmpS; rw [if_neg (by omega), if_pos rfl]
  · rfl
theorem pw2 {p q : Int} {n : Nat} (hp : 0 ≤ p) (hq : 0 ≤ q) (lp : p < pw n) (lq : q < pw n) : p * q < pw (n + n) := by
  rw [pw_add]
  have h1 := Int.mul_le_mul_of_nonneg_left (Int.le_of_lt lq) hp
  have h2 := Int.mul_lt_mul_of_pos_right lp (pw_pos n)
  omega
section
variable {p q r s : Int} {n : Nat} (hp : 0 ≤ p) (hq : 0 < q) (hr : 0 ≤ r) (hs : 0 < s) (lp : p < pw n) (lq : q < pw n) (lr : r < pw n) (ls : s < pw n) (hn : n + n + 1 ≤ 400)
include hp hq hr hs lp lq lr ls hn
theorem add_lw : joinS addS (lw p q).1 (lw p q).2 (lw r s).1 (lw r s).2 = ((lw (p * s + r * q) (q * s)).1, (lw (p * s + r * q) (q * s)).2, 0) := by
  obtain ⟨f1, _, _, m1, m2⟩ := lw_ok hp hq lp lq (by omega)
  obtain ⟨f2, _, _, m3, m4⟩ := lw_ok hr hs lr ls (by omega)
  rw [raddS_eq m1 m2 m3 m4 f1 f2]
  obtain ⟨g, p', q', hg, rfl, rfl, hp', hq', e, el⟩ := lw_parts hp hq
  obtain ⟨h, r', s', hh, rfl, rfl, hr', hs', e', el'⟩ := lw_parts hr hs
  rw [el, el', val_natL hp', val_natL (show 0 ≤ q' by omega), val_natL hr', val_natL (show 0 ≤ s' by omega)]
  have b1 := pw2 hp' (show 0 ≤ s' by omega) (le_scale hg hp' lp) (le_scale hh (by omega) ls)
  have b2 := pw2 hr' (show 0 ≤ q' by omega) (le_scale hh hr' lr) (le_scale hg (by omega) lq)
  have b3 := pw2 (show 0 ≤ q' by omega) (show 0 ≤ s' by omega) (le_scale hg (by omega) lq) (le_scale hh (by omega) ls)
  have p1 := Int.mul_nonneg hp' (show 0 ≤ s' by omega)
  have p2 := Int.mul_nonneg hr' (show 0 ≤ q' by omega)
  have p3 := Int.mul_pos hq' hs'
  have b4 := pw_succ (n + n)
  have b5 := pw_pos (n + n)
  have n1 := natL_len_le p1 b1
  have n2 := natL_len_le p2 b2
  have n3 := natL_len_le (show 0 ≤ q' * s' by omega) b3
  have n4 := natL_len_le (n := n + n + 1) (show 0 ≤ p' * s' + r' * q' by omega) (by omega)
  rw [if_pos ⟨by omega, by omega, by omega, by omega⟩, lowS_natL (by omega) (by omega)]
  have k1 : g * p' * (h * s') + h * r' * (g * q') = g * h * (p' * s' + r' * q') := by grind
  have k2 : g * q' * (h * s') = g * h * (q' * s') := by grind
  rw [k1, k2, lw_scale (Int.mul_pos hg hh) (by omega) p3]
theorem sub_lw (hle : r * q ≤ p * s) : joinS subS (lw p q).1 (lw p q).2 (lw r s).1 (lw r s).2 = ((lw (p * s - r * q) (q * s)).1, (lw (p * s - r * q) (q * s)).2, 0) := by
  obtain ⟨f1, _, _, m1, m2⟩ := lw_ok hp hq lp lq (by omega)
  obtain ⟨f2, _, _, m3, m4⟩ := lw_ok hr hs lr ls (by omega)
  rw [rsubS_eq m1 m2 m3 m4 f1 f2]
  obtain ⟨g, p', q', hg, rfl, rfl, hp', hq', e, el⟩ := lw_parts hp hq
  obtain ⟨h, r', s', hh, rfl, rfl, hr', hs', e', el'⟩ := lw_parts hr hs
  rw [el, el', val_natL hp', val_natL (show 0 ≤ q' by omega), val_natL hr', val_natL (show 0 ≤ s' by omega)]
  have b1 := pw2 hp' (show 0 ≤ s' by omega) (le_scale hg hp' lp) (le_scale hh (by omega) ls)
  have b2 := pw2 hr' (show 0 ≤ q' by omega) (le_scale hh hr' lr) (le_scale hg (by omega) lq)
  have b3 := pw2 (show 0 ≤ q' by omega) (show 0 ≤ s' by omega) (le_scale hg (by omega) lq) (le_scale hh (by omega) ls)
  have p1 := Int.mul_nonneg hp' (show 0 ≤ s' by omega)
  have p2 := Int.mul_nonneg hr' (show 0 ≤ q' by omega)
  have p3 := Int.mul_pos hq' hs'
  have n1 := natL_len_le p1 b1
  have n2 := natL_len_le p2 b2
  have n3 := natL_len_le (show 0 ≤ q' * s' by omega) b3
  have k1 : g * p' * (h * s') - h * r' * (g * q') = g * h * (p' * s' - r' * q') := by grind
  have k2 : g * q' * (h * s') = g * h * (q' * s') := by grind
  have hgh := Int.mul_pos hg hh
  have hle' : r' * q' ≤ p' * s' := by
    rcases Int.lt_or_le (p' * s') (r' * q') with hc | hc
    · have := Int.mul_neg_of_pos_of_neg hgh (show p' * s' - r' * q' < 0 by omega)
      omega
    · exact hc
  rw [if_pos ⟨by omega, by omega, by omega⟩, if_neg (by omega), lowS_natL (by omega) (by omega)]
  rw [k1, k2, lw_scale hgh (by omega) p3]
theorem mul_lw : rmulS (lw p q).1 (lw p q).2 (lw r s).1 (lw r s).2 = ((lw (p * r) (q * s)).1, (lw (p * r) (q * s)).2, 0) := by
  obtain ⟨f1, _, _, m1, m2⟩ := lw_ok hp hq lp lq (by omega)
  obtain ⟨f2, _, _, m3, m4⟩ := lw_ok hr hs lr ls (by omega)
  rw [rmulS_eq m1 m2 m3 m4 f1 f2]
  obtain ⟨g, p', q', hg, rfl, rfl, hp', hq', e, el⟩ := lw_parts hp hq
  obtain ⟨h, r', s', hh, rfl, rfl, hr', hs', e', el'⟩ := lw_parts hr hs
  rw [el, el', val_natL hp', val_natL (show 0 ≤ q' by omega), val_natL hr', val_natL (show 0 ≤ s' by omega)]
  have b1 := pw2 hp' hr' (le_scale hg hp' lp) (le_scale hh (by omega) lr)
  have b3 := pw2 (show 0 ≤ q' by omega) (show 0 ≤ s' by omega) (le_scale hg (by omega) lq) (le_scale hh (by omega) ls)
  have p1 := Int.mul_nonneg hp' hr'
  have p3 := Int.mul_pos hq' hs'
  have n1 := natL_len_le p1 b1
  have n3 := natL_len_le (show 0 ≤ q' * s' by omega) b3
  rw [if_pos ⟨by omega, by omega⟩, lowS_natL (by omega) (by omega)]
  have k1 : g * p' * (h * r') = g * h * (p' * r') := by grind
  have k2 : g * q' * (h * s') = g * h * (q' * s') := by grind
  rw [k1, k2, lw_scale (Int.mul_pos hg hh) (by omega) p3]
end
theorem lw_swap (p q : Int) : lw q p = ((lw p q).2, (lw p q).1) := by
  unfold lw
  have : gcdI q p = gcdI p q := by unfold gcdI; rw [Nat.gcd_comm]
  rw [this]
theorem div_lw {p q r s : Int} {n : Nat} (hp : 0 ≤ p) (hq : 0 < q) (hr : 0 < r) (hs : 0 < s) (lp : p < pw n) (lq : q < pw n) (lr : r < pw n) (ls : s < pw n) (hn : n + n + 1 ≤ 400) :
    rdivS (lw p q).1 (lw p q).2 (lw r s).1 (lw r s).2 = ((lw (p * s) (q * r)).1, (lw (p * s) (q * r)).2, 0) := by
  obtain ⟨f1, _, _, m1, m2⟩ := lw_ok hp hq lp lq (by omega)
  obtain ⟨f2, _, _, m3, m4⟩ := lw_ok (show 0 ≤ r by omega) hs lr ls (by omega)
  have f3 := (lw_ok (show 0 ≤ s by omega) hr ls lr (by omega)).1
  have hm := mul_lw hp hq (show 0 ≤ s by omega) hr lp lq ls lr hn
  rw [lw_swap r s] at hm f3
  unfold rdivS
  rw [if_pos (by simp [f1, f2]), if_neg (fun h => ?_)]
  · exact hm
  · obtain ⟨_, _, h3, _⟩ := formedR_spec m4 m3 f3
    omega
def OkF (x : List Int × List Int) : Prop := formedR x.1 x.2 = true ∧ x.1.length < 1048576 ∧ x.2.length < 1048576 ∧ Lm x.1 ∧ Lm x.2
theorem okF_lw {p q : Int} {n : Nat} (hp : 0 ≤ p) (hq : 0 < q) (lp : p < pw n) (lq : q < pw n) (hn : n ≤ 400) : OkF (lw p q) := by
  obtain ⟨h1, h2, h3, h4, h5⟩ := lw_ok hp hq lp lq hn
  exact ⟨h1, by omega, by omega, h4, h5⟩
theorem add_bd {p q r s : Int} {n : Nat} (hp : 0 ≤ p) (hq : 0 < q) (hr : 0 ≤ r) (hs : 0 < s) (lp : p < pw n) (lq : q < pw n) (lr : r < pw n) (ls : s < pw n) : 0 ≤ p * s + r * q ∧ p * s + r * q < pw (n + n + 1) := by
  have b1 := pw2 hp (show 0 ≤ s by omega) lp ls
  have b2 := pw2 hr (show 0 ≤ q by omega) lr lq
  have p1 := Int.mul_nonneg hp (show 0 ≤ s by omega)
  have p2 := Int.mul_nonneg hr (show 0 ≤ q by omega)
  have b4 := pw_succ (n + n)
  omega
theorem mul_bd {p r : Int} {n : Nat} (hp : 0 ≤ p) (hr : 0 ≤ r) (lp : p < pw n) (lr : r < pw n) : 0 ≤ p * r ∧ p * r < pw (n + n + 1) := by
  have b1 := pw2 hp hr lp lr
  have p1 := Int.mul_nonneg hp hr
  have b4 := pw_succ (n + n)
  omega
theorem rules_eq {a b c d e f : Int} (ha : 0 ≤ a) (ha' : a < pw 2) (hb : 0 < b) (hb' : b < pw 2) (hc : 0 ≤ c) (hc' : c < pw 2) (hd : 0 < d) (hd' : d < pw 2) (he : 0 ≤ e) (he' : e < pw 2) (hf : 0 < f) (hf' : f < pw 2) :
    ∃ S T U V : List Int × List Int, OkF S ∧ OkF T ∧ OkF U ∧ OkF V ∧
      joinS addS (lw a b).1 (lw a b).2 (lw c d).1 (lw c d).2 = (S.1, S.2, 0) ∧
      joinS subS S.1 S.2 (lw c d).1 (lw c d).2 = ((lw a b).1, (lw a b).2, 0) ∧
      rmulS S.1 S.2 (lw e f).1 (lw e f).2 = (T.1, T.2, 0) ∧
      rmulS (lw a b).1 (lw a b).2 (lw e f).1 (lw e f).2 = (U.1, U.2, 0) ∧
      rmulS (lw c d).1 (lw c d).2 (lw e f).1 (lw e f).2 = (V.1, V.2, 0) ∧
      joinS addS U.1 U.2 V.1 V.2 = (T.1, T.2, 0) ∧
      (e ≠ 0 → rdivS U.1 U.2 (lw e f).1 (lw e f).2 = ((lw a b).1, (lw a b).2, 0)) := by
  have l5 := pw_le (show 2 ≤ 5 by omega)
  obtain ⟨s1, s2⟩ := add_bd ha hb hc hd ha' hb' hc' hd'
  obtain ⟨_, s4⟩ := mul_bd (show 0 ≤ b by omega) (show 0 ≤ d by omega) hb' hd'
  have s3 := Int.mul_pos hb hd
  obtain ⟨u1, u2⟩ := mul_bd ha he ha' he'
  obtain ⟨_, u4⟩ := mul_bd (show 0 ≤ b by omega) (show 0 ≤ f by omega) hb' hf'
  have u3 := Int.mul_pos hb hf
  obtain ⟨v1, v2⟩ := mul_bd hc he hc' he'
  obtain ⟨_, v4⟩ := mul_bd (show 0 ≤ d by omega) (show 0 ≤ f by omega) hd' hf'
  have v3 := Int.mul_pos hd hf
  rw [show 2 + 2 + 1 = 5 from rfl] at s2 s4 u2 u4 v2 v4
  obtain ⟨t1, t2⟩ := mul_bd s1 he s2 (Int.lt_of_lt_of_le he' l5)
  obtain ⟨_, t4⟩ := mul_bd (show 0 ≤ b * d by omega) (show 0 ≤ f by omega) s4 (Int.lt_of_lt_of_le hf' l5)
  have t3 := Int.mul_pos s3 hf
  rw [show 5 + 5 + 1 = 11 from rfl] at t2 t4
  refine ⟨lw (a * d + c * b) (b * d), lw ((a * d + c * b) * e) (b * d * f), lw (a * e) (b * f), lw (c * e) (d * f), okF_lw s1 s3 s2 s4 (by omega), okF_lw t1 t3 t2 t4 (by omega), okF_lw u1 u3 u2 u4 (by omega), okF_lw v1 v3 v2 v4 (by omega), ?_, ?_, ?_, ?_, ?_, ?_, ?_⟩
  · exact add_lw ha hb hc hd ha' hb' hc' hd' (by omega)
  · have hle : c * (b * d) ≤ (a * d + c * b) * d := by
      have : (a * d + c * b) * d = a * (d * d) + c * (b * d) := by grind
      have h2 := Int.mul_nonneg ha (show 0 ≤ d * d from Int.mul_nonneg (by omega) (by omega))
      omega
    rw [sub_lw s1 s3 hc hd s2 s4 (Int.lt_of_lt_of_le hc' l5) (Int.lt_of_lt_of_le hd' l5) (by omega) hle]
    rw [show (a * d + c * b) * d - c * (b * d) = d * d * a by grind, show b * d * d = d * d * b by grind, lw_scale (Int.mul_pos hd hd) ha hb]
  · exact mul_lw s1 s3 he hf s2 s4 (Int.lt_of_lt_of_le he' l5) (Int.lt_of_lt_of_le hf' l5) (by omega)
  · exact mul_lw ha hb he hf ha' hb' he' hf' (by omega)
  · exact mul_lw hc hd he hf hc' hd' he' hf' (by omega)
  · rw [add_lw u1 u3 v1 v3 u2 u4 v2 v4 (by omega)]
    rw [show a * e * (d * f) + c * e * (b * f) = f * ((a * d + c * b) * e) by grind, show b * f * (d * f) = f * (b * d * f) by grind, lw_scale hf t1 t3]
  · intro h0
    have he0 : 0 < e := by omega
    rw [div_lw u1 u3 he0 hf u2 u4 (Int.lt_of_lt_of_le he' l5) (Int.lt_of_lt_of_le hf' l5) (by omega)]
    rw [show a * e * f = e * f * a by grind, show b * f * e = e * f * b by grind, lw_scale (Int.mul_pos he0 hf) ha hb]
end Go.Proofs.Wk
/- The law RatioRules walked. -/
namespace Go.Proofs.Wk
open Go.RowKit
set_option maxRecDepth 100000
set_option maxHeartbeats 4000000
attribute [local irreducible] Pw OpG
set_option linter.unusedVariables false
set_option linter.unusedSimpArgs false
theorem Add_ne {p : Prop} [Decidable p] (h : p) : (Value.bool (decide (¬ p))) = .bool false := by rw [decide_eq_false (fun e => e h)]
theorem RatioRules_ct (a b c d e f : Int) (ha : 0 ≤ a ∧ a ≤ 18446744073709551615) (hb : 0 ≤ b ∧ b ≤ 18446744073709551615) (hc : 0 ≤ c ∧ c ≤ 18446744073709551615) (hd : 0 ≤ d ∧ d ≤ 18446744073709551615) (he : 0 ≤ e ∧ e ≤ 18446744073709551615) (hf : 0 ≤ f ∧ f ≤ 18446744073709551615) :
    Ct Try.prog 8 #[.agg #[.int .u64 a, .int .u64 b], .agg #[.int .u64 c, .int .u64 d], .agg #[.int .u64 e, .int .u64 f]] (fun _ => True) (fun _ : Unit => .bool true) Tt (fun _ _ => True) := by
  refine Ct.start Try.func8 rfl rfl (slots_of rfl slots3) (fun D w0 => ?_)
  repeat (first | (with_reducible first | refine Pw.seq ?_ | refine Pw.region ?_ | refine Pw.nil ?_ | refine Pw.then_ ?_ | refine Pw.skip ?_ | refine Pw.block ?_ | refine Pw.exit ?_ | refine Pw.inX ?_ | refine Pw.inN ?_ | refine Pw.inR ?_ | refine Pw.thenX ?_ | refine Pw.thenR ?_ | refine Pw.ret ?_) | refine Pw.list (Pw.pure rfl rfl rfl ?_) | refine Pw.inY rfl ?_ | refine Pw.list (Pw.off rfl rfl ?_) | refine Pw.condT rfl ?_ | refine Pw.condF rfl ?_ | refine Pw.list (Pw.box rfl rfl rfl rfl (fun _ => freeHead ?_)) | refine Pw.list (Pw.alloc rfl rfl rfl rfl rfl (fun _ => ?_)) | refine Pw.list (Pw.build rfl rfl rfl rfl ?_) | refine Pw.list (Pw.ld rfl inferInstance rfl rfl rfl ?_) | refine Pw.list (Pw.sto rfl rfl inferInstance rfl rfl rfl rfl rfl inferInstance rfl ?_))
  refine Pw.list (Pw.call awake_ct rfl rfl rfl (by kernel_rfl) rfl rfl (fun w h => trivial) ?_)
  intro _ _
  repeat (first | (with_reducible first | refine Pw.seq ?_ | refine Pw.region ?_ | refine Pw.nil ?_ | refine Pw.then_ ?_ | refine Pw.skip ?_ | refine Pw.block ?_ | refine Pw.exit ?_ | refine Pw.inX ?_ | refine Pw.inN ?_ | refine Pw.inR ?_ | refine Pw.thenX ?_ | refine Pw.thenR ?_ | refine Pw.ret ?_) | refine Pw.list (Pw.pure rfl rfl rfl ?_) | refine Pw.inY rfl ?_ | refine Pw.list (Pw.off rfl rfl ?_) | refine Pw.condT rfl ?_ | refine Pw.condF rfl ?_ | refine Pw.list (Pw.box rfl rfl rfl rfl (fun _ => ?_)) | refine Pw.list (Pw.alloc rfl rfl rfl rfl rfl (fun _ => ?_)) | refine Pw.list (Pw.build rfl rfl rfl rfl ?_) | refine Pw.list (Pw.ld rfl inferInstance rfl rfl rfl ?_) | refine Pw.list (Pw.sto rfl rfl inferInstance rfl rfl rfl rfl rfl inferInstance rfl ?_))
  refine Pw.split 34 rfl (fun c1 => ?_) (fun c1 => ?_)
  · repeat (first | (with_reducible first | refine Pw.seq ?_ | refine Pw.region ?_ | refine Pw.nil ?_ | refine Pw.then_ ?_ | refine Pw.skip ?_ | refine Pw.block ?_ | refine Pw.exit ?_ | refine Pw.inX ?_ | refine Pw.inN ?_ | refine Pw.inR ?_ | refine Pw.thenX ?_ | refine Pw.thenR ?_ | refine Pw.ret ?_) | refine Pw.list (Pw.pure rfl rfl rfl ?_) | refine Pw.inY rfl ?_ | refine Pw.list (Pw.off rfl rfl ?_) | refine Pw.condT rfl ?_ | refine Pw.condF rfl ?_ | refine Pw.list (Pw.box rfl rfl rfl rfl (fun _ => ?_)) | refine Pw.list (Pw.alloc rfl rfl rfl rfl rfl (fun _ => ?_)) | refine Pw.list (Pw.build rfl rfl rfl rfl ?_) | refine Pw.list (Pw.ld rfl inferInstance rfl rfl rfl ?_) | refine Pw.list (Pw.sto rfl rfl inferInstance rfl rfl rfl rfl rfl inferInstance rfl ?_))
    refine Pw.list (Pw.call awake_ct rfl rfl rfl (by kernel_rfl) rfl rfl (fun w h => trivial) ?_)
    intro _ _
    repeat (first | (with_reducible first | refine Pw.seq ?_ | refine Pw.region ?_ | refine Pw.nil ?_ | refine Pw.then_ ?_ | refine Pw.skip ?_ | refine Pw.block ?_ | refine Pw.exit ?_ | refine Pw.inX ?_ | refine Pw.inN ?_ | refine Pw.inR ?_ | refine Pw.thenX ?_ | refine Pw.thenR ?_ | refine Pw.ret ?_) | refine Pw.list (Pw.pure rfl rfl rfl ?_) | refine Pw.inY rfl ?_ | refine Pw.list (Pw.off rfl rfl ?_) | refine Pw.condT rfl ?_ | refine Pw.condF rfl ?_ | refine Pw.list (Pw.box rfl rfl rfl rfl (fun _ => ?_)) | refine Pw.list (Pw.alloc rfl rfl rfl rfl rfl (fun _ => ?_)) | refine Pw.list (Pw.build rfl rfl rfl rfl ?_) | refine Pw.list (Pw.ld rfl inferInstance rfl rfl rfl ?_) | refine Pw.list (Pw.sto rfl rfl inferInstance rfl rfl rfl rfl rfl inferInstance rfl ?_))
    exact Pw.ret_ (x := ()) (.tmp rfl .nil) rfl trivial (fun w h => by trivial)
  repeat (first | (with_reducible first | refine Pw.seq ?_ | refine Pw.region ?_ | refine Pw.nil ?_ | refine Pw.then_ ?_ | refine Pw.skip ?_ | refine Pw.block ?_ | refine Pw.exit ?_ | refine Pw.inX ?_ | refine Pw.inN ?_ | refine Pw.inR ?_ | refine Pw.thenX ?_ | refine Pw.thenR ?_ | refine Pw.ret ?_) | refine Pw.list (Pw.pure rfl rfl rfl ?_) | refine Pw.inY rfl ?_ | refine Pw.list (Pw.off rfl rfl ?_) | refine Pw.condT rfl ?_ | refine Pw.condF rfl ?_ | refine Pw.list (Pw.box rfl rfl rfl rfl (fun _ => ?_)) | refine Pw.list (Pw.alloc rfl rfl rfl rfl rfl (fun _ => ?_)) | refine Pw.list (Pw.build rfl rfl rfl rfl ?_) | refine Pw.list (Pw.ld rfl inferInstance rfl rfl rfl ?_) | refine Pw.list (Pw.sto rfl rfl inferInstance rfl rfl rfl rfl rfl inferInstance rfl ?_))
  refine Pw.split 39 rfl (fun c2 => ?_) (fun c2 => ?_)
  · repeat (first | (with_reducible first | refine Pw.seq ?_ | refine Pw.region ?_ | refine Pw.nil ?_ | refine Pw.then_ ?_ | refine Pw.skip ?_ | refine Pw.block ?_ | refine Pw.exit ?_ | refine Pw.inX ?_ | refine Pw.inN ?_ | refine Pw.inR ?_ | refine Pw.thenX ?_ | refine Pw.thenR ?_ | refine Pw.ret ?_) | refine Pw.list (Pw.pure rfl rfl rfl ?_) | refine Pw.inY rfl ?_ | refine Pw.list (Pw.off rfl rfl ?_) | refine Pw.condT rfl ?_ | refine Pw.condF rfl ?_ | refine Pw.list (Pw.box rfl rfl rfl rfl (fun _ => ?_)) | refine Pw.list (Pw.alloc rfl rfl rfl rfl rfl (fun _ => ?_)) | refine Pw.list (Pw.build rfl rfl rfl rfl ?_) | refine Pw.list (Pw.ld rfl inferInstance rfl rfl rfl ?_) | refine Pw.list (Pw.sto rfl rfl inferInstance rfl rfl rfl rfl rfl inferInstance rfl ?_))
    refine Pw.list (Pw.call awake_ct rfl rfl rfl (by kernel_rfl) rfl rfl (fun w h => trivial) ?_)
    intro _ _
    repeat (first | (with_reducible first | refine Pw.seq ?_ | refine Pw.region ?_ | refine Pw.nil ?_ | refine Pw.then_ ?_ | refine Pw.skip ?_ | refine Pw.block ?_ | refine Pw.exit ?_ | refine Pw.inX ?_ | refine Pw.inN ?_ | refine Pw.inR ?_ | refine Pw.thenX ?_ | refine Pw.thenR ?_ | refine Pw.ret ?_) | refine Pw.list (Pw.pure rfl rfl rfl ?_) | refine Pw.inY rfl ?_ | refine Pw.list (Pw.off rfl rfl ?_) | refine Pw.condT rfl ?_ | refine Pw.condF rfl ?_ | refine Pw.list (Pw.box rfl rfl rfl rfl (fun _ => ?_)) | refine Pw.list (Pw.alloc rfl rfl rfl rfl rfl (fun _ => ?_)) | refine Pw.list (Pw.build rfl rfl rfl rfl ?_) | refine Pw.list (Pw.ld rfl inferInstance rfl rfl rfl ?_) | refine Pw.list (Pw.sto rfl rfl inferInstance rfl rfl rfl rfl rfl inferInstance rfl ?_))
    exact Pw.ret_ (x := ()) (.tmp rfl .nil) rfl trivial (fun w h => by trivial)
  repeat (first | (with_reducible first | refine Pw.seq ?_ | refine Pw.region ?_ | refine Pw.nil ?_ | refine Pw.then_ ?_ | refine Pw.skip ?_ | refine Pw.block ?_ | refine Pw.exit ?_ | refine Pw.inX ?_ | refine Pw.inN ?_ | refine Pw.inR ?_ | refine Pw.thenX ?_ | refine Pw.thenR ?_ | refine Pw.ret ?_) | refine Pw.list (Pw.pure rfl rfl rfl ?_) | refine Pw.inY rfl ?_ | refine Pw.list (Pw.off rfl rfl ?_) | refine Pw.condT rfl ?_ | refine Pw.condF rfl ?_ | refine Pw.list (Pw.box rfl rfl rfl rfl (fun _ => ?_)) | refine Pw.list (Pw.alloc rfl rfl rfl rfl rfl (fun _ => ?_)) | refine Pw.list (Pw.build rfl rfl rfl rfl ?_) | refine Pw.list (Pw.ld rfl inferInstance rfl rfl rfl ?_) | refine Pw.list (Pw.sto rfl rfl inferInstance rfl rfl rfl rfl rfl inferInstance rfl ?_))
  refine Pw.condD rfl (fun c3 => ?_) (fun c3 => ?_)
  · repeat (first | (with_reducible first | refine Pw.seq ?_ | refine Pw.region ?_ | refine Pw.nil ?_ | refine Pw.then_ ?_ | refine Pw.skip ?_ | refine Pw.block ?_ | refine Pw.exit ?_ | refine Pw.inX ?_ | refine Pw.inN ?_ | refine Pw.inR ?_ | refine Pw.thenX ?_ | refine Pw.thenR ?_ | refine Pw.ret ?_) | refine Pw.list (Pw.pure rfl rfl rfl ?_) | refine Pw.inY rfl ?_ | refine Pw.list (Pw.off rfl rfl ?_) | refine Pw.condT rfl ?_ | refine Pw.condF rfl ?_ | refine Pw.list (Pw.box rfl rfl rfl rfl (fun _ => ?_)) | refine Pw.list (Pw.alloc rfl rfl rfl rfl rfl (fun _ => ?_)) | refine Pw.list (Pw.build rfl rfl rfl rfl ?_) | refine Pw.list (Pw.ld rfl inferInstance rfl rfl rfl ?_) | refine Pw.list (Pw.sto rfl rfl inferInstance rfl rfl rfl rfl rfl inferInstance rfl ?_))
    refine Pw.list (Pw.call awake_ct rfl rfl rfl (by kernel_rfl) rfl rfl (fun w h => trivial) ?_)
    intro _ _
    repeat (first | (with_reducible first | refine Pw.seq ?_ | refine Pw.region ?_ | refine Pw.nil ?_ | refine Pw.then_ ?_ | refine Pw.skip ?_ | refine Pw.block ?_ | refine Pw.exit ?_ | refine Pw.inX ?_ | refine Pw.inN ?_ | refine Pw.inR ?_ | refine Pw.thenX ?_ | refine Pw.thenR ?_ | refine Pw.ret ?_) | refine Pw.list (Pw.pure rfl rfl rfl ?_) | refine Pw.inY rfl ?_ | refine Pw.list (Pw.off rfl rfl ?_) | refine Pw.condT rfl ?_ | refine Pw.condF rfl ?_ | refine Pw.list (Pw.box rfl rfl rfl rfl (fun _ => ?_)) | refine Pw.list (Pw.alloc rfl rfl rfl rfl rfl (fun _ => ?_)) | refine Pw.list (Pw.build rfl rfl rfl rfl ?_) | refine Pw.list (Pw.ld rfl inferInstance rfl rfl rfl ?_) | refine Pw.list (Pw.sto rfl rfl inferInstance rfl rfl rfl rfl rfl inferInstance rfl ?_))
    exact Pw.ret_ (x := ()) (.tmp rfl .nil) rfl trivial (fun w h => by trivial)
  have h1 := rat_Of_ct a b
  have h2 := rat_Of_ct c d
  have h3 := rat_Of_ct e f
  rw [of_lw ha.1 ha.2 (by omega) hb.2] at h1
  rw [of_lw hc.1 hc.2 (by omega) hd.2] at h2
  rw [of_lw he.1 he.2 (by omega) hf.2] at h3
  obtain ⟨X, eX⟩ : ∃ X, X = lw a b := ⟨_, rfl⟩
  obtain ⟨Y, eY⟩ : ∃ X, X = lw c d := ⟨_, rfl⟩
  obtain ⟨Z, eZ⟩ : ∃ X, X = lw e f := ⟨_, rfl⟩
  have big : (∃ S T U V : List Int × List Int, OkF S ∧ OkF T ∧ OkF U ∧ OkF V ∧ joinS addS X.1 X.2 Y.1 Y.2 = (S.1, S.2, 0) ∧ joinS subS S.1 S.2 Y.1 Y.2 = (X.1, X.2, 0) ∧ rmulS S.1 S.2 Z.1 Z.2 = (T.1, T.2, 0) ∧ rmulS X.1 X.2 Z.1 Z.2 = (U.1, U.2, 0) ∧ rmulS Y.1 Y.2 Z.1 Z.2 = (V.1, V.2, 0) ∧ joinS addS U.1 U.2 V.1 V.2 = (T.1, T.2, 0) ∧ (e ≠ 0 → rdivS U.1 U.2 Z.1 Z.2 = (X.1, X.2, 0))) ∧ OkF X ∧ OkF Y ∧ OkF Z := by
    have p2 : pw 2 = 18446744073709551616 := by simp [pw]
    subst eX eY eZ
    exact ⟨rules_eq ha.1 (by omega) (by omega) (by omega) hc.1 (by omega) (by omega) (by omega) he.1 (by omega) (by omega) (by omega), okF_lw (n := 2) ha.1 (by omega) (by omega) (by omega) (by omega), okF_lw (n := 2) hc.1 (by omega) (by omega) (by omega) (by omega), okF_lw (n := 2) he.1 (by omega) (by omega) (by omega) (by omega)⟩
  rw [← eX] at h1
  rw [← eY] at h2
  rw [← eZ] at h3
  clear eX eY eZ ha hb hc hd hf
  obtain ⟨⟨S, T, U, V, ⟨fS, lS, lS', mS, mS'⟩, ⟨fT, lT, lT', mT, mT'⟩, ⟨fU, lU, lU', mU, mU'⟩, ⟨fV, lV, lV', mV, mV'⟩, q1, q2, q3, q4, q5, q6, q7⟩, ⟨fX, lX, lX', mX, mX'⟩, ⟨fY, lY, lY', mY, mY'⟩, ⟨fZ, lZ, lZ', mZ, mZ'⟩⟩ := big
  repeat (first | (with_reducible first | refine Pw.seq ?_ | refine Pw.region ?_ | refine Pw.nil ?_ | refine Pw.then_ ?_ | refine Pw.skip ?_ | refine Pw.block ?_ | refine Pw.exit ?_ | refine Pw.inX ?_ | refine Pw.inN ?_ | refine Pw.inR ?_ | refine Pw.thenX ?_ | refine Pw.thenR ?_ | refine Pw.ret ?_) | refine Pw.list (Pw.pure rfl rfl rfl ?_) | refine Pw.inY rfl ?_ | refine Pw.list (Pw.off rfl rfl ?_) | refine Pw.condT rfl ?_ | refine Pw.condF rfl ?_ | refine Pw.list (Pw.box rfl rfl rfl rfl (fun _ => ?_)) | refine Pw.list (Pw.alloc rfl rfl rfl rfl rfl (fun _ => ?_)) | refine Pw.list (Pw.build rfl rfl rfl rfl ?_) | refine Pw.list (Pw.ld rfl inferInstance rfl rfl rfl ?_) | refine Pw.list (Pw.sto rfl rfl inferInstance rfl rfl rfl rfl rfl inferInstance rfl ?_))
  refine Pw.list (Pw.call h1 rfl rfl rfl (by kernel_rfl) rfl rfl (fun w h => trivial) ?_)
  intro z1 _
  repeat (first | (with_reducible first | refine Pw.seq ?_ | refine Pw.region ?_ | refine Pw.nil ?_ | refine Pw.then_ ?_ | refine Pw.skip ?_ | refine Pw.block ?_ | refine Pw.exit ?_ | refine Pw.inX ?_ | refine Pw.inN ?_ | refine Pw.inR ?_ | refine Pw.thenX ?_ | refine Pw.thenR ?_ | refine Pw.ret ?_) | refine Pw.list (Pw.pure rfl rfl rfl ?_) | refine Pw.inY rfl ?_ | refine Pw.list (Pw.off rfl rfl ?_) | refine Pw.condT rfl ?_ | refine Pw.condF rfl ?_ | refine Pw.list (Pw.box rfl rfl rfl rfl (fun _ => ?_)) | refine Pw.list (Pw.alloc rfl rfl rfl rfl rfl (fun _ => ?_)) | refine Pw.list (Pw.build rfl rfl rfl rfl ?_) | refine Pw.list (Pw.ld rfl inferInstance rfl rfl rfl ?_) | refine Pw.list (Pw.sto rfl rfl inferInstance rfl rfl rfl rfl rfl inferInstance rfl ?_))
  refine Pw.list (Pw.call h2 rfl rfl rfl (by kernel_rfl) rfl rfl (fun w h => trivial) ?_)
  intro z2 _
  repeat (first | (with_reducible first | refine Pw.seq ?_ | refine Pw.region ?_ | refine Pw.nil ?_ | refine Pw.then_ ?_ | refine Pw.skip ?_ | refine Pw.block ?_ | refine Pw.exit ?_ | refine Pw.inX ?_ | refine Pw.inN ?_ | refine Pw.inR ?_ | refine Pw.thenX ?_ | refine Pw.thenR ?_ | refine Pw.ret ?_) | refine Pw.list (Pw.pure rfl rfl rfl ?_) | refine Pw.inY rfl ?_ | refine Pw.list (Pw.off rfl rfl ?_) | refine Pw.condT rfl ?_ | refine Pw.condF rfl ?_ | refine Pw.list (Pw.box rfl rfl rfl rfl (fun _ => ?_)) | refine Pw.list (Pw.alloc rfl rfl rfl rfl rfl (fun _ => ?_)) | refine Pw.list (Pw.build rfl rfl rfl rfl ?_) | refine Pw.list (Pw.ld rfl inferInstance rfl rfl rfl ?_) | refine Pw.list (Pw.sto rfl rfl inferInstance rfl rfl rfl rfl rfl inferInstance rfl ?_))
  refine Pw.list (Pw.call h3 rfl rfl rfl (by kernel_rfl) rfl rfl (fun w h => trivial) ?_)
  intro z3 _
  repeat (first | (with_reducible first | refine Pw.seq ?_ | refine Pw.region ?_ | refine Pw.nil ?_ | refine Pw.then_ ?_ | refine Pw.skip ?_ | refine Pw.block ?_ | refine Pw.exit ?_ | refine Pw.inX ?_ | refine Pw.inN ?_ | refine Pw.inR ?_ | refine Pw.thenX ?_ | refine Pw.thenR ?_ | refine Pw.ret ?_) | refine Pw.list (Pw.pure rfl rfl rfl ?_) | refine Pw.inY rfl ?_ | refine Pw.list (Pw.off rfl rfl ?_) | refine Pw.condT rfl ?_ | refine Pw.condF rfl ?_ | refine Pw.list (Pw.box rfl rfl rfl rfl (fun _ => ?_)) | refine Pw.list (Pw.alloc rfl rfl rfl rfl rfl (fun _ => ?_)) | refine Pw.list (Pw.build rfl rfl rfl rfl ?_) | refine Pw.list (Pw.ld rfl inferInstance rfl rfl rfl ?_) | refine Pw.list (Pw.sto rfl rfl inferInstance rfl rfl rfl rfl rfl inferInstance rfl ?_))
  have d1 := rat_Add_ct X.1 X.2 Y.1 Y.2 z1 z2 mX mX' mY mY' lX lX' lY lY'
  rw [q1] at d1
  refine Pw.list (Pw.call d1 rfl rfl rfl (by kernel_rfl) rfl rfl (fun w h => ⟨(hv w h), (hv w h)⟩) ?_)
  intro z4 _
  repeat (first | (with_reducible first | refine Pw.seq ?_ | refine Pw.region ?_ | refine Pw.nil ?_ | refine Pw.then_ ?_ | refine Pw.skip ?_ | refine Pw.block ?_ | refine Pw.exit ?_ | refine Pw.inX ?_ | refine Pw.inN ?_ | refine Pw.inR ?_ | refine Pw.thenX ?_ | refine Pw.thenR ?_ | refine Pw.ret ?_) | refine Pw.list (Pw.pure rfl rfl rfl ?_) | refine Pw.inY rfl ?_ | refine Pw.list (Pw.off rfl rfl ?_) | refine Pw.condT rfl ?_ | refine Pw.condF rfl ?_ | refine Pw.list (Pw.box rfl rfl rfl rfl (fun _ => ?_)) | refine Pw.list (Pw.alloc rfl rfl rfl rfl rfl (fun _ => ?_)) | refine Pw.list (Pw.build rfl rfl rfl rfl ?_) | refine Pw.list (Pw.ld rfl inferInstance rfl rfl rfl ?_) | refine Pw.list (Pw.sto rfl rfl inferInstance rfl rfl rfl rfl rfl inferInstance rfl ?_))
  have d2 := rat_Sub_ct S.1 S.2 Y.1 Y.2 z4 z2 mS mS' mY mY' lS lS' lY lY'
  rw [q2] at d2
  refine Pw.list (Pw.call d2 rfl rfl rfl (by kernel_rfl) rfl rfl (fun w h => ⟨(hv w h), (hv w h)⟩) ?_)
  intro z5 _
  repeat (first | (with_reducible first | refine Pw.seq ?_ | refine Pw.region ?_ | refine Pw.nil ?_ | refine Pw.then_ ?_ | refine Pw.skip ?_ | refine Pw.block ?_ | refine Pw.exit ?_ | refine Pw.inX ?_ | refine Pw.inN ?_ | refine Pw.inR ?_ | refine Pw.thenX ?_ | refine Pw.thenR ?_ | refine Pw.ret ?_) | refine Pw.list (Pw.pure rfl rfl rfl ?_) | refine Pw.inY rfl ?_ | refine Pw.list (Pw.off rfl rfl ?_) | refine Pw.condT rfl ?_ | refine Pw.condF rfl ?_ | refine Pw.list (Pw.box rfl rfl rfl rfl (fun _ => ?_)) | refine Pw.list (Pw.alloc rfl rfl rfl rfl rfl (fun _ => ?_)) | refine Pw.list (Pw.build rfl rfl rfl rfl ?_) | refine Pw.list (Pw.ld rfl inferInstance rfl rfl rfl ?_) | refine Pw.list (Pw.sto rfl rfl inferInstance rfl rfl rfl rfl rfl inferInstance rfl ?_))
  have d3 := rat_Mul_ct S.1 S.2 Z.1 Z.2 z4 z3 mS mS' mZ mZ' lS lS' lZ lZ'
  rw [q3] at d3
  refine Pw.list (Pw.call d3 rfl rfl rfl (by kernel_rfl) rfl rfl (fun w h => ⟨(hv w h), (hv w h)⟩) ?_)
  intro z6 _
  repeat (first | (with_reducible first | refine Pw.seq ?_ | refine Pw.region ?_ | refine Pw.nil ?_ | refine Pw.then_ ?_ | refine Pw.skip ?_ | refine Pw.block ?_ | refine Pw.exit ?_ | refine Pw.inX ?_ | refine Pw.inN ?_ | refine Pw.inR ?_ | refine Pw.thenX ?_ | refine Pw.thenR ?_ | refine Pw.ret ?_) | refine Pw.list (Pw.pure rfl rfl rfl ?_) | refine Pw.inY rfl ?_ | refine Pw.list (Pw.off rfl rfl ?_) | refine Pw.condT rfl ?_ | refine Pw.condF rfl ?_ | refine Pw.list (Pw.box rfl rfl rfl rfl (fun _ => ?_)) | refine Pw.list (Pw.alloc rfl rfl rfl rfl rfl (fun _ => ?_)) | refine Pw.list (Pw.build rfl rfl rfl rfl ?_) | refine Pw.list (Pw.ld rfl inferInstance rfl rfl rfl ?_) | refine Pw.list (Pw.sto rfl rfl inferInstance rfl rfl rfl rfl rfl inferInstance rfl ?_))
  have d4 := rat_Mul_ct X.1 X.2 Z.1 Z.2 z1 z3 mX mX' mZ mZ' lX lX' lZ lZ'
  rw [q4] at d4
  refine Pw.list (Pw.call d4 rfl rfl rfl (by kernel_rfl) rfl rfl (fun w h => ⟨(hv w h), (hv w h)⟩) ?_)
  intro z7 _
  repeat (first | (with_reducible first | refine Pw.seq ?_ | refine Pw.region ?_ | refine Pw.nil ?_ | refine Pw.then_ ?_ | refine Pw.skip ?_ | refine Pw.block ?_ | refine Pw.exit ?_ | refine Pw.inX ?_ | refine Pw.inN ?_ | refine Pw.inR ?_ | refine Pw.thenX ?_ | refine Pw.thenR ?_ | refine Pw.ret ?_) | refine Pw.list (Pw.pure rfl rfl rfl ?_) | refine Pw.inY rfl ?_ | refine Pw.list (Pw.off rfl rfl ?_) | refine Pw.condT rfl ?_ | refine Pw.condF rfl ?_ | refine Pw.list (Pw.box rfl rfl rfl rfl (fun _ => ?_)) | refine Pw.list (Pw.alloc rfl rfl rfl rfl rfl (fun _ => ?_)) | refine Pw.list (Pw.build rfl rfl rfl rfl ?_) | refine Pw.list (Pw.ld rfl inferInstance rfl rfl rfl ?_) | refine Pw.list (Pw.sto rfl rfl inferInstance rfl rfl rfl rfl rfl inferInstance rfl ?_))
  have d5 := rat_Mul_ct Y.1 Y.2 Z.1 Z.2 z2 z3 mY mY' mZ mZ' lY lY' lZ lZ'
  rw [q5] at d5
  refine Pw.list (Pw.call d5 rfl rfl rfl (by kernel_rfl) rfl rfl (fun w h => ⟨(hv w h), (hv w h)⟩) ?_)
  intro z8 _
  repeat (first | (with_reducible first | refine Pw.seq ?_ | refine Pw.region ?_ | refine Pw.nil ?_ | refine Pw.then_ ?_ | refine Pw.skip ?_ | refine Pw.block ?_ | refine Pw.exit ?_ | refine Pw.inX ?_ | refine Pw.inN ?_ | refine Pw.inR ?_ | refine Pw.thenX ?_ | refine Pw.thenR ?_ | refine Pw.ret ?_) | refine Pw.list (Pw.pure rfl rfl rfl ?_) | refine Pw.inY rfl ?_ | refine Pw.list (Pw.off rfl rfl ?_) | refine Pw.condT rfl ?_ | refine Pw.condF rfl ?_ | refine Pw.list (Pw.box rfl rfl rfl rfl (fun _ => ?_)) | refine Pw.list (Pw.alloc rfl rfl rfl rfl rfl (fun _ => ?_)) | refine Pw.list (Pw.build rfl rfl rfl rfl ?_) | refine Pw.list (Pw.ld rfl inferInstance rfl rfl rfl ?_) | refine Pw.list (Pw.sto rfl rfl inferInstance rfl rfl rfl rfl rfl inferInstance rfl ?_))
  have d6 := rat_Add_ct U.1 U.2 V.1 V.2 z7 z8 mU mU' mV mV' lU lU' lV lV'
  rw [q6] at d6
  refine Pw.list (Pw.call d6 rfl rfl rfl (by kernel_rfl) rfl rfl (fun w h => ⟨(hv w h), (hv w h)⟩) ?_)
  intro z9 _
  repeat (first | (with_reducible first | refine Pw.seq ?_ | refine Pw.region ?_ | refine Pw.nil ?_ | refine Pw.then_ ?_ | refine Pw.skip ?_ | refine Pw.block ?_ | refine Pw.exit ?_ | refine Pw.inX ?_ | refine Pw.inN ?_ | refine Pw.inR ?_ | refine Pw.thenX ?_ | refine Pw.thenR ?_ | refine Pw.ret ?_) | refine Pw.list (Pw.pure rfl rfl rfl ?_) | refine Pw.inY rfl ?_ | refine Pw.list (Pw.off rfl rfl ?_) | refine Pw.condT rfl ?_ | refine Pw.condF rfl ?_ | refine Pw.list (Pw.box rfl rfl rfl rfl (fun _ => ?_)) | refine Pw.list (Pw.alloc rfl rfl rfl rfl rfl (fun _ => ?_)) | refine Pw.list (Pw.build rfl rfl rfl rfl ?_) | refine Pw.list (Pw.ld rfl inferInstance rfl rfl rfl ?_) | refine Pw.list (Pw.sto rfl rfl inferInstance rfl rfl rfl rfl rfl inferInstance rfl ?_))
  have d7 := rat_Cmp_ct X.1 X.2 X.1 X.2 z5 z1 mX mX' mX mX' lX lX' lX lX'
  rw [rcmpS_self mX mX' fX] at d7
  refine Pw.list (Pw.call d7 rfl rfl rfl (by kernel_rfl) rfl rfl (fun w h => ⟨(hv w h), (hv w h)⟩) ?_)
  intro _ _
  repeat (first | (with_reducible first | refine Pw.seq ?_ | refine Pw.region ?_ | refine Pw.nil ?_ | refine Pw.then_ ?_ | refine Pw.skip ?_ | refine Pw.block ?_ | refine Pw.exit ?_ | refine Pw.inX ?_ | refine Pw.inN ?_ | refine Pw.inR ?_ | refine Pw.thenX ?_ | refine Pw.thenR ?_ | refine Pw.ret ?_) | refine Pw.list (Pw.pure rfl rfl rfl ?_) | refine Pw.inY rfl ?_ | refine Pw.list (Pw.off rfl rfl ?_) | refine Pw.condT rfl ?_ | refine Pw.condF rfl ?_ | refine Pw.list (Pw.box rfl rfl rfl rfl (fun _ => ?_)) | refine Pw.list (Pw.alloc rfl rfl rfl rfl rfl (fun _ => ?_)) | refine Pw.list (Pw.build rfl rfl rfl rfl ?_) | refine Pw.list (Pw.ld rfl inferInstance rfl rfl rfl ?_) | refine Pw.list (Pw.sto rfl rfl inferInstance rfl rfl rfl rfl rfl inferInstance rfl ?_))
  have d8 := rat_Cmp_ct T.1 T.2 T.1 T.2 z6 z9 mT mT' mT mT' lT lT' lT lT'
  rw [rcmpS_self mT mT' fT] at d8
  refine Pw.list (Pw.call d8 rfl rfl rfl (by kernel_rfl) rfl rfl (fun w h => ⟨(hv w h), (hv w h)⟩) ?_)
  intro _ _
  repeat (first | (with_reducible first | refine Pw.seq ?_ | refine Pw.region ?_ | refine Pw.nil ?_ | refine Pw.then_ ?_ | refine Pw.skip ?_ | refine Pw.block ?_ | refine Pw.exit ?_ | refine Pw.inX ?_ | refine Pw.inN ?_ | refine Pw.inR ?_ | refine Pw.thenX ?_ | refine Pw.thenR ?_ | refine Pw.ret ?_) | refine Pw.list (Pw.pure rfl rfl rfl ?_) | refine Pw.inY rfl ?_ | refine Pw.list (Pw.off rfl rfl ?_) | refine Pw.condT rfl ?_ | refine Pw.condF rfl ?_ | refine Pw.list (Pw.box rfl rfl rfl rfl (fun _ => ?_)) | refine Pw.list (Pw.alloc rfl rfl rfl rfl rfl (fun _ => ?_)) | refine Pw.list (Pw.build rfl rfl rfl rfl ?_) | refine Pw.list (Pw.ld rfl inferInstance rfl rfl rfl ?_) | refine Pw.list (Pw.sto rfl rfl inferInstance rfl rfl rfl rfl rfl inferInstance rfl ?_))
  have d9 := rat_Formed_ct T.1 T.2 z6 mT mT' lT lT'
  rw [fT] at d9
  refine Pw.list (Pw.call d9 rfl rfl rfl (by kernel_rfl) rfl rfl (fun w h => (hv w h)) ?_)
  intro _ _
  repeat (first | (with_reducible first | refine Pw.seq ?_ | refine Pw.region ?_ | refine Pw.nil ?_ | refine Pw.then_ ?_ | refine Pw.skip ?_ | refine Pw.block ?_ | refine Pw.exit ?_ | refine Pw.inX ?_ | refine Pw.inN ?_ | refine Pw.inR ?_ | refine Pw.thenX ?_ | refine Pw.thenR ?_ | refine Pw.ret ?_) | refine Pw.list (Pw.pure rfl rfl rfl ?_) | refine Pw.inY rfl ?_ | refine Pw.list (Pw.off rfl rfl ?_) | refine Pw.condT rfl ?_ | refine Pw.condF rfl ?_ | refine Pw.list (Pw.box rfl rfl rfl rfl (fun _ => ?_)) | refine Pw.list (Pw.alloc rfl rfl rfl rfl rfl (fun _ => ?_)) | refine Pw.list (Pw.build rfl rfl rfl rfl ?_) | refine Pw.list (Pw.ld rfl inferInstance rfl rfl rfl ?_) | refine Pw.list (Pw.sto rfl rfl inferInstance rfl rfl rfl rfl rfl inferInstance rfl ?_))
  refine Pw.condD rfl (fun c4 => ?_) (fun c4 => ?_)
  · repeat (first | (with_reducible first | refine Pw.seq ?_ | refine Pw.region ?_ | refine Pw.nil ?_ | refine Pw.then_ ?_ | refine Pw.skip ?_ | refine Pw.block ?_ | refine Pw.exit ?_ | refine Pw.inX ?_ | refine Pw.inN ?_ | refine Pw.inR ?_ | refine Pw.thenX ?_ | refine Pw.thenR ?_ | refine Pw.ret ?_) | refine Pw.list (Pw.pure rfl rfl rfl ?_) | refine Pw.inY rfl ?_ | refine Pw.list (Pw.off rfl rfl ?_) | refine Pw.condT rfl ?_ | refine Pw.condF rfl ?_ | refine Pw.list (Pw.box rfl rfl rfl rfl (fun _ => ?_)) | refine Pw.list (Pw.alloc rfl rfl rfl rfl rfl (fun _ => ?_)) | refine Pw.list (Pw.build rfl rfl rfl rfl ?_) | refine Pw.list (Pw.ld rfl inferInstance rfl rfl rfl ?_) | refine Pw.list (Pw.sto rfl rfl inferInstance rfl rfl rfl rfl rfl inferInstance rfl ?_))
    exact Pw.ret_ (x := ()) (.tmp rfl .nil) rfl trivial (fun w h => by trivial)
  have d10 := rat_Div_ct U.1 U.2 Z.1 Z.2 z7 z3 mU mU' mZ mZ' lU lU' lZ lZ'
  rw [q7 c4] at d10
  repeat (first | (with_reducible first | refine Pw.seq ?_ | refine Pw.region ?_ | refine Pw.nil ?_ | refine Pw.then_ ?_ | refine Pw.skip ?_ | refine Pw.block ?_ | refine Pw.exit ?_ | refine Pw.inX ?_ | refine Pw.inN ?_ | refine Pw.inR ?_ | refine Pw.thenX ?_ | refine Pw.thenR ?_ | refine Pw.ret ?_) | refine Pw.list (Pw.pure rfl rfl rfl ?_) | refine Pw.inY rfl ?_ | refine Pw.list (Pw.off rfl rfl ?_) | refine Pw.condT rfl ?_ | refine Pw.condF rfl ?_ | refine Pw.list (Pw.box rfl rfl rfl rfl (fun _ => ?_)) | refine Pw.list (Pw.alloc rfl rfl rfl rfl rfl (fun _ => ?_)) | refine Pw.list (Pw.build rfl rfl rfl rfl ?_) | refine Pw.list (Pw.ld rfl inferInstance rfl rfl rfl ?_) | refine Pw.list (Pw.sto rfl rfl inferInstance rfl rfl rfl rfl rfl inferInstance rfl ?_))
  refine Pw.list (Pw.call d10 rfl rfl rfl (by kernel_rfl) rfl rfl (fun w h => ⟨(hv w h), (hv w h)⟩) ?_)
  intro z10 _
  repeat (first | (with_reducible first | refine Pw.seq ?_ | refine Pw.region ?_ | refine Pw.nil ?_ | refine Pw.then_ ?_ | refine Pw.skip ?_ | refine Pw.block ?_ | refine Pw.exit ?_ | refine Pw.inX ?_ | refine Pw.inN ?_ | refine Pw.inR ?_ | refine Pw.thenX ?_ | refine Pw.thenR ?_ | refine Pw.ret ?_) | refine Pw.list (Pw.pure rfl rfl rfl ?_) | refine Pw.inY rfl ?_ | refine Pw.list (Pw.off rfl rfl ?_) | refine Pw.condT rfl ?_ | refine Pw.condF rfl ?_ | refine Pw.list (Pw.box rfl rfl rfl rfl (fun _ => ?_)) | refine Pw.list (Pw.alloc rfl rfl rfl rfl rfl (fun _ => ?_)) | refine Pw.list (Pw.build rfl rfl rfl rfl ?_) | refine Pw.list (Pw.ld rfl inferInstance rfl rfl rfl ?_) | refine Pw.list (Pw.sto rfl rfl inferInstance rfl rfl rfl rfl rfl inferInstance rfl ?_))
  have d11 := rat_Cmp_ct X.1 X.2 X.1 X.2 z10 z1 mX mX' mX mX' lX lX' lX lX'
  rw [rcmpS_self mX mX' fX] at d11
  refine Pw.list (Pw.call d11 rfl rfl rfl (by kernel_rfl) rfl rfl (fun w h => ⟨(hv w h), (hv w h)⟩) ?_)
  intro _ _
  repeat (first | (with_reducible first | refine Pw.seq ?_ | refine Pw.region ?_ | refine Pw.nil ?_ | refine Pw.then_ ?_ | refine Pw.skip ?_ | refine Pw.block ?_ | refine Pw.exit ?_ | refine Pw.inX ?_ | refine Pw.inN ?_ | refine Pw.inR ?_ | refine Pw.thenX ?_ | refine Pw.thenR ?_ | refine Pw.ret ?_) | refine Pw.list (Pw.pure rfl rfl rfl ?_) | refine Pw.inY rfl ?_ | refine Pw.list (Pw.off rfl rfl ?_) | refine Pw.condT rfl ?_ | refine Pw.condF rfl ?_ | refine Pw.list (Pw.box rfl rfl rfl rfl (fun _ => ?_)) | refine Pw.list (Pw.alloc rfl rfl rfl rfl rfl (fun _ => ?_)) | refine Pw.list (Pw.build rfl rfl rfl rfl ?_) | refine Pw.list (Pw.ld rfl inferInstance rfl rfl rfl ?_) | refine Pw.list (Pw.sto rfl rfl inferInstance rfl rfl rfl rfl rfl inferInstance rfl ?_))
  exact Pw.ret_ (x := ()) (.tmp rfl .nil) rfl trivial (fun w h => by trivial)
end Go.Proofs.Wk
