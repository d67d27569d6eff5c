/- Walks and their mathematics, merged. No conditions beyond those written. -/
import Derived.Test.YtbfcmjaomkdpgaaWmRatioLong3
/- Walks of layer 2: adding, subtracting, the lesser one. -/
namespace Go.Proofs.Wk
open Go.RowKit
set_option maxRecDepth 100000
attribute [local irreducible] Pw OpG
set_option linter.unusedVariables false
set_option linter.unusedSimpArgs false
def err3 (x y z : Int) : Int := if (if x = 0 then y else x) = 0 then z else (if x = 0 then y else x)
def joinS (S : List Int → List Int → List Int × Int) (a b c d : List Int) : List Int × List Int × Int := if (formedR a b && formedR c d) = true then endS (err3 (mulS a d).2 (mulS c b).2 (mulS b d).2) (S (mulS a d).1 (mulS c b).1).2 (S (mulS a d).1 (mulS c b).1).1 (mulS b d).1 else ([], [], 1)
theorem join_ct (S : List Int → List Int → List Int × Int) (f : FuncId) (hS : ∀ u v x y, Lm u → Lm v → u.length < 1048576 → v.length < 1048576 → Ct Try.prog f #[sl u x, sl v y] (fun W => S1 u x W ∧ S1 v y W) (fun z : Option Addr × Nat => .tuple #[sl (S u v).1 z, .int .i64 (S u v).2]) Tt (fun z => S1 (S u v).1 z)) (hf : callB Try.prog f = true) (hlm : ∀ u v, Lm u → Lm v → Fm (S u v).1 ∧ (u.length ≤ 400 → v.length ≤ 400 → (S u v).1.length < 1048576))
    (a b c d : List Int) (y z : Z2) (ha : Lm a) (hb : Lm b) (hc : Lm c) (hd : Lm d) (la : a.length < 1048576) (lb : b.length < 1048576) (lc : c.length < 1048576) (ld : d.length < 1048576) :
    Ct Try.prog 80 #[rt a b y, rt c d z, .func (.func f) #[] #[]] (fun W => R2 a b y W ∧ R2 c d z W) (fun x : Z2 => .tuple #[rt (joinS S a b c d).1 (joinS S a b c d).2.1 x, .int .i64 (joinS S a b c d).2.2]) Tt (fun x => R2 (joinS S a b c d).1 (joinS S a b c d).2.1 x) := by
  refine Ct.start Try.func80 rfl rfl (slots_of rfl slots3) (fun D w0 => Pw.facts two2 ?_)
  unfold joinS
  repeat (first | (with_reducible first | refine Pw.seq ?_ | refine Pw.region ?_ | refine Pw.nil ?_ | refine Pw.then_ ?_ | refine Pw.skip ?_ | refine Pw.block ?_ | refine Pw.exit ?_ | refine Pw.inX ?_ | refine Pw.inN ?_ | refine Pw.inR ?_ | refine Pw.thenX ?_ | refine Pw.thenR ?_ | refine Pw.ret ?_) | refine Pw.list (Pw.pure rfl rfl rfl ?_) | refine Pw.inY rfl ?_ | refine Pw.list (Pw.off rfl rfl ?_) | refine Pw.condT rfl ?_ | refine Pw.condF rfl ?_ | refine Pw.list (Pw.box rfl rfl rfl rfl (fun _ => freeHead ?_)) | refine Pw.list (Pw.alloc rfl rfl rfl rfl rfl (fun _ => ?_)) | refine Pw.list (Pw.build rfl rfl rfl rfl ?_) | refine Pw.list (Pw.ld rfl inferInstance rfl rfl rfl ?_) | refine Pw.list (Pw.sto rfl rfl inferInstance rfl rfl rfl rfl rfl inferInstance rfl ?_))
  refine Pw.list (Pw.call (rat_formed_ct a b c d y z ha hb hc hd la lb lc ld) rfl rfl rfl (by kernel_rfl) rfl rfl (fun w h => ⟨(hv w h), (hv w h)⟩) ?_)
  intro _ _
  generalize (formedR a b && formedR c d) = t
  cases t
  · rw [if_neg (by simp)]
    repeat (first | (with_reducible first | refine Pw.seq ?_ | refine Pw.region ?_ | refine Pw.nil ?_ | refine Pw.then_ ?_ | refine Pw.skip ?_ | refine Pw.block ?_ | refine Pw.exit ?_ | refine Pw.inX ?_ | refine Pw.inN ?_ | refine Pw.inR ?_ | refine Pw.thenX ?_ | refine Pw.thenR ?_ | refine Pw.ret ?_) | refine Pw.list (Pw.pure rfl rfl rfl ?_) | refine Pw.inY rfl ?_ | refine Pw.list (Pw.off rfl rfl ?_) | refine Pw.condT rfl ?_ | refine Pw.condF rfl ?_ | refine Pw.list (Pw.box rfl rfl rfl rfl (fun _ => ?_)) | refine Pw.list (Pw.alloc rfl rfl rfl rfl rfl (fun _ => ?_)) | refine Pw.list (Pw.build rfl rfl rfl rfl ?_) | refine Pw.list (Pw.ld rfl inferInstance rfl rfl rfl ?_) | refine Pw.list (Pw.sto rfl rfl inferInstance rfl rfl rfl rfl rfl inferInstance rfl ?_))
    exact Pw.ret_ (x := z0) (.cell rfl (fun w hs => hs.own _ (.head _)) rfl (.tmp rfl .nil)) rfl trivial (fun w h => R2.nil w)
  rw [if_pos rfl]
  have m1 := @mulS_lm a d
  have m2 := @mulS_lm c b
  have m3 := @mulS_lm b d
  repeat (first | (with_reducible first | refine Pw.seq ?_ | refine Pw.region ?_ | refine Pw.nil ?_ | refine Pw.then_ ?_ | refine Pw.skip ?_ | refine Pw.block ?_ | refine Pw.exit ?_ | refine Pw.inX ?_ | refine Pw.inN ?_ | refine Pw.inR ?_ | refine Pw.thenX ?_ | refine Pw.thenR ?_ | refine Pw.ret ?_) | refine Pw.list (Pw.pure rfl rfl rfl ?_) | refine Pw.inY rfl ?_ | refine Pw.list (Pw.off rfl rfl ?_) | refine Pw.condT rfl ?_ | refine Pw.condF rfl ?_ | refine Pw.list (Pw.box rfl rfl rfl rfl (fun _ => ?_)) | refine Pw.list (Pw.alloc rfl rfl rfl rfl rfl (fun _ => ?_)) | refine Pw.list (Pw.build rfl rfl rfl rfl ?_) | refine Pw.list (Pw.ld rfl inferInstance rfl rfl rfl ?_) | refine Pw.list (Pw.sto rfl rfl inferInstance rfl rfl rfl rfl rfl inferInstance rfl ?_))
  refine Pw.drawnG mixed rfl rfl ?_
  refine Pw.takeP 0 (nb 21 1) rfl rfl rfl rfl (by kernel_rfl) np sf ?_
  refine Pw.takeP 1 (nb 21 3) rfl rfl rfl rfl (by kernel_rfl) np sf ?_
  refine Pw.takeF 2 (nb 21 7) rfl rfl inferInstance rfl rfl rfl (by kernel_rfl) np sf ?_
  refine Pw.takeP 3 (nb 21 15) rfl rfl rfl rfl (by kernel_rfl) np sf ?_
  refine Pw.takeF 4 (nb 21 31) rfl rfl inferInstance rfl rfl rfl (by kernel_rfl) np sf ?_
  refine Pw.takeP 6 (nb 21 95) rfl rfl rfl rfl (by kernel_rfl) np sf ?_
  refine Pw.takeP 7 (nb 21 223) rfl rfl rfl rfl (by kernel_rfl) np sf ?_
  refine Pw.takeF 8 (nb 21 479) rfl rfl inferInstance rfl rfl rfl (by kernel_rfl) np sf ?_
  refine Pw.takeP 9 (nb 21 991) rfl rfl rfl rfl (by kernel_rfl) np sf ?_
  refine Pw.takeF 10 (nb 21 2015) rfl rfl inferInstance rfl rfl rfl (by kernel_rfl) np sf ?_
  refine Pw.takeP 12 (nb 21 6111) rfl rfl rfl rfl (by kernel_rfl) np sf ?_
  refine Pw.takeP 13 (nb 21 14303) rfl rfl rfl rfl (by kernel_rfl) np sf ?_
  refine Pw.takeF 14 (nb 21 30687) rfl rfl inferInstance rfl rfl rfl (by kernel_rfl) np sf ?_
  refine Pw.takeP 15 (nb 21 63455) rfl rfl rfl rfl (by kernel_rfl) np sf ?_
  refine Pw.takeF 16 (nb 21 128991) rfl rfl inferInstance rfl rfl rfl (by kernel_rfl) np sf ?_
  refine Pw.one 5 (nb 21 129023) rfl (by kernel_rfl) ?_
  -- call Op.call { callee := Callee.value (Operand.func 74), args := #[Operand.tmp 21, Operand.tmp 23, Operand.tmp 25], argTypes := #[108, 41, 41] }
  refine Pw.call1 (mk_mul0_ct a d y.1 z.2 _ ha hd la ld) rfl rfl rfl (by kernel_rfl) rfl rfl (fun w h => ⟨(hv w h), (hv w h)⟩) (.head _) (fun _ => .head) ?_
  intro x1 _
  refine Pw.held sf ?_
  refine Pw.one 11 (nb 21 131071) rfl (by kernel_rfl) ?_
  -- call Op.call { callee := Callee.value (Operand.func 74), args := #[Operand.tmp 27, Operand.tmp 29, Operand.tmp 31], argTypes := #[108, 41, 41] }
  refine Pw.call1 (mk_mul_ct c b z.1 y.2 _ _ hc hb lc lb) rfl rfl rfl (by kernel_rfl) rfl rfl (fun w h => ⟨(hv w h), (hv w h)⟩) (.head _) (fun _ => .head) ?_
  intro x2 _
  refine Pw.held sf ?_
  refine Pw.one 17 (nb 21 262143) rfl (by kernel_rfl) ?_
  -- call Op.call { callee := Callee.value (Operand.func 74), args := #[Operand.tmp 33, Operand.tmp 35, Operand.tmp 37], argTypes := #[108, 41, 41] }
  refine Pw.call1 (mk_mul_ct b d y.2 z.2 _ _ hb hd lb ld) rfl rfl rfl (by kernel_rfl) rfl rfl (fun w h => ⟨(hv w h), (hv w h)⟩) (.head _) (fun _ => .head) ?_
  intro x3 _
  refine Pw.held sf ?_
  refine Pw.takeP 18 (nb 21 524287) rfl rfl rfl rfl (by kernel_rfl) np sf ?_
  refine Pw.takeP 19 (nb 21 1048575) rfl rfl rfl rfl (by kernel_rfl) np sf ?_
  refine Pw.takeP 20 (nb 21 2097151) rfl rfl rfl rfl (by kernel_rfl) np sf ?_
  refine Pw.done (by kernel_rfl) ?_
  repeat (first | (with_reducible first | refine Pw.seq ?_ | refine Pw.region ?_ | refine Pw.nil ?_ | refine Pw.then_ ?_ | refine Pw.skip ?_ | refine Pw.block ?_ | refine Pw.exit ?_ | refine Pw.inX ?_ | refine Pw.inN ?_ | refine Pw.inR ?_ | refine Pw.thenX ?_ | refine Pw.thenR ?_ | refine Pw.ret ?_) | refine Pw.list (Pw.pure rfl rfl rfl ?_) | refine Pw.inY rfl ?_ | refine Pw.list (Pw.off rfl rfl ?_) | refine Pw.condT rfl ?_ | refine Pw.condF rfl ?_ | refine Pw.list (Pw.box rfl rfl rfl rfl (fun _ => ?_)) | refine Pw.list (Pw.alloc rfl rfl rfl rfl rfl (fun _ => ?_)) | refine Pw.list (Pw.build rfl rfl rfl rfl ?_) | refine Pw.list (Pw.ld rfl inferInstance rfl rfl rfl ?_) | refine Pw.list (Pw.sto rfl rfl inferInstance rfl rfl rfl rfl rfl inferInstance rfl ?_))
  refine Pw.list (Pw.call (hS (mulS a d).1 (mulS c b).1 x1 x2 m1.1.1 m2.1.1 (by omega) (by omega)) rfl rfl rfl hf rfl rfl (fun w h => ⟨(hv w h), (hv w h)⟩) ?_)
  intro x4 _
  obtain ⟨n1, n2⟩ := hlm (mulS a d).1 (mulS c b).1 m1.1.1 m2.1.1
  repeat (first | (with_reducible first | refine Pw.seq ?_ | refine Pw.region ?_ | refine Pw.nil ?_ | refine Pw.then_ ?_ | refine Pw.skip ?_ | refine Pw.block ?_ | refine Pw.exit ?_ | refine Pw.inX ?_ | refine Pw.inN ?_ | refine Pw.inR ?_ | refine Pw.thenX ?_ | refine Pw.thenR ?_ | refine Pw.ret ?_) | refine Pw.list (Pw.pure rfl rfl rfl ?_) | refine Pw.inY rfl ?_ | refine Pw.list (Pw.off rfl rfl ?_) | refine Pw.condT rfl ?_ | refine Pw.condF rfl ?_ | refine Pw.list (Pw.box rfl rfl rfl rfl (fun _ => ?_)) | refine Pw.list (Pw.alloc rfl rfl rfl rfl rfl (fun _ => ?_)) | refine Pw.list (Pw.build rfl rfl rfl rfl ?_) | refine Pw.list (Pw.ld rfl inferInstance rfl rfl rfl ?_) | refine Pw.list (Pw.sto rfl rfl inferInstance rfl rfl rfl rfl rfl inferInstance rfl ?_))
  refine freeHead ?_
  refine Pw.list (Pw.call (mk_end_ct (S (mulS a d).1 (mulS c b).1).1 (mulS b d).1 x4 x3 _ _ (S (mulS a d).1 (mulS c b).1).2 n1.1 m3.1.1 (n2 m1.2 m2.2) (by omega)) rfl rfl rfl (by kernel_rfl) rfl rfl (fun w h => ⟨fact0 h, (hv w h), (hv w h)⟩) ?_)
  intro x5 _
  repeat (first | (with_reducible first | refine Pw.seq ?_ | refine Pw.region ?_ | refine Pw.nil ?_ | refine Pw.then_ ?_ | refine Pw.skip ?_ | refine Pw.block ?_ | refine Pw.exit ?_ | refine Pw.inX ?_ | refine Pw.inN ?_ | refine Pw.inR ?_ | refine Pw.thenX ?_ | refine Pw.thenR ?_ | refine Pw.ret ?_) | refine Pw.list (Pw.pure rfl rfl rfl ?_) | refine Pw.inY rfl ?_ | refine Pw.list (Pw.off rfl rfl ?_) | refine Pw.condT rfl ?_ | refine Pw.condF rfl ?_ | refine Pw.list (Pw.box rfl rfl rfl rfl (fun _ => ?_)) | refine Pw.list (Pw.alloc rfl rfl rfl rfl rfl (fun _ => ?_)) | refine Pw.list (Pw.build rfl rfl rfl rfl ?_) | refine Pw.list (Pw.ld rfl inferInstance rfl rfl rfl ?_) | refine Pw.list (Pw.sto rfl rfl inferInstance rfl rfl rfl rfl rfl inferInstance rfl ?_))
  exact Pw.ret_ (x := x5) (.cell rfl (fun w hs => hs.own _ (.head _)) rfl (.tmp rfl .nil)) rfl trivial (fun w h => fact0 h)
theorem fm_nil : Fm [] := by rw [← natL_zero]; exact natL_fm 0
theorem addS_lm (a b : List Int) (ha : Lm a) (hb : Lm b) : Fm (addS a b).1 ∧ (a.length ≤ 400 → b.length ≤ 400 → (addS a b).1.length < 1048576) := by
  unfold addS
  split
  · unfold fitN
    split
    next h => exact ⟨natL_fm _, fun _ _ => by show (natL _).length < _; omega⟩
    next h => exact ⟨fm_nil, fun _ _ => by simp⟩
  · exact ⟨fm_nil, fun _ _ => by simp⟩
theorem subS_lm (a b : List Int) (ha : Lm a) (hb : Lm b) : Fm (subS a b).1 ∧ (a.length ≤ 400 → b.length ≤ 400 → (subS a b).1.length < 1048576) := by
  unfold subS
  split
  next h =>
    split
    next h1 => exact ⟨fm_nil, fun _ _ => by simp⟩
    next h1 =>
      refine ⟨natL_fm _, fun h2 h3 => ?_⟩
      show (natL _).length < _
      have v1 := val_lt_pw ha
      have v2 := val_nonneg hb
      have := natL_len_le (n := a.length) (show 0 ≤ val a - val b by omega) (by omega)
      omega
  · exact ⟨fm_nil, fun _ _ => by simp⟩
theorem rat_Add_ct (a b c d : List Int) (y z : Z2) (ha : Lm a) (hb : Lm b) (hc : Lm c) (hd : Lm d) (la : a.length < 1048576) (lb : b.length < 1048576) (lc : c.length < 1048576) (ld : d.length < 1048576) :
    Ct Try.prog 38 #[rt a b y, rt c d z] (fun W => R2 a b y W ∧ R2 c d z W) (fun x : Z2 => .tuple #[rt (joinS addS a b c d).1 (joinS addS a b c d).2.1 x, .int .i64 (joinS addS a b c d).2.2]) Tt (fun x => R2 (joinS addS a b c d).1 (joinS addS a b c d).2.1 x) := by
  refine Ct.start Try.func38 rfl rfl (slots_of rfl slots2) (fun D w0 => Pw.facts two2 ?_)
  repeat (first | (with_reducible first | refine Pw.seq ?_ | refine Pw.region ?_ | refine Pw.nil ?_ | refine Pw.then_ ?_ | refine Pw.skip ?_ | refine Pw.block ?_ | refine Pw.exit ?_ | refine Pw.inX ?_ | refine Pw.inN ?_ | refine Pw.inR ?_ | refine Pw.thenX ?_ | refine Pw.thenR ?_ | refine Pw.ret ?_) | refine Pw.list (Pw.pure rfl rfl rfl ?_) | refine Pw.inY rfl ?_ | refine Pw.list (Pw.off rfl rfl ?_) | refine Pw.condT rfl ?_ | refine Pw.condF rfl ?_ | refine Pw.list (Pw.box rfl rfl rfl rfl (fun _ => freeHead ?_)) | refine Pw.list (Pw.alloc rfl rfl rfl rfl rfl (fun _ => ?_)) | refine Pw.list (Pw.build rfl rfl rfl rfl ?_) | refine Pw.list (Pw.ld rfl inferInstance rfl rfl rfl ?_) | refine Pw.list (Pw.sto rfl rfl inferInstance rfl rfl rfl rfl rfl inferInstance rfl ?_))
  refine Pw.list (Pw.call (join_ct addS 81 (fun u v x y hu hv lu lv => Add_ct u v x y hu hv lu lv) (by kernel_rfl) addS_lm a b c d y z ha hb hc hd la lb lc ld) rfl rfl rfl (by kernel_rfl) rfl rfl (fun w h => ⟨(hv w h), (hv w h)⟩) ?_)
  intro x _
  repeat (first | (with_reducible first | refine Pw.seq ?_ | refine Pw.region ?_ | refine Pw.nil ?_ | refine Pw.then_ ?_ | refine Pw.skip ?_ | refine Pw.block ?_ | refine Pw.exit ?_ | refine Pw.inX ?_ | refine Pw.inN ?_ | refine Pw.inR ?_ | refine Pw.thenX ?_ | refine Pw.thenR ?_ | refine Pw.ret ?_) | refine Pw.list (Pw.pure rfl rfl rfl ?_) | refine Pw.inY rfl ?_ | refine Pw.list (Pw.off rfl rfl ?_) | refine Pw.condT rfl ?_ | refine Pw.condF rfl ?_ | refine Pw.list (Pw.box rfl rfl rfl rfl (fun _ => ?_)) | refine Pw.list (Pw.alloc rfl rfl rfl rfl rfl (fun _ => ?_)) | refine Pw.list (Pw.build rfl rfl rfl rfl ?_) | refine Pw.list (Pw.ld rfl inferInstance rfl rfl rfl ?_) | refine Pw.list (Pw.sto rfl rfl inferInstance rfl rfl rfl rfl rfl inferInstance rfl ?_))
  exact Pw.ret_ (x := x) (.cell rfl (fun w hs => hs.own _ (.head _)) rfl (.tmp rfl .nil)) rfl trivial (fun w h => fact0 h)
theorem rat_Sub_ct (a b c d : List Int) (y z : Z2) (ha : Lm a) (hb : Lm b) (hc : Lm c) (hd : Lm d) (la : a.length < 1048576) (lb : b.length < 1048576) (lc : c.length < 1048576) (ld : d.length < 1048576) :
    Ct Try.prog 41 #[rt a b y, rt c d z] (fun W => R2 a b y W ∧ R2 c d z W) (fun x : Z2 => .tuple #[rt (joinS subS a b c d).1 (joinS subS a b c d).2.1 x, .int .i64 (joinS subS a b c d).2.2]) Tt (fun x => R2 (joinS subS a b c d).1 (joinS subS a b c d).2.1 x) := by
  refine Ct.start Try.func41 rfl rfl (slots_of rfl slots2) (fun D w0 => Pw.facts two2 ?_)
  repeat (first | (with_reducible first | refine Pw.seq ?_ | refine Pw.region ?_ | refine Pw.nil ?_ | refine Pw.then_ ?_ | refine Pw.skip ?_ | refine Pw.block ?_ | refine Pw.exit ?_ | refine Pw.inX ?_ | refine Pw.inN ?_ | refine Pw.inR ?_ | refine Pw.thenX ?_ | refine Pw.thenR ?_ | refine Pw.ret ?_) | refine Pw.list (Pw.pure rfl rfl rfl ?_) | refine Pw.inY rfl ?_ | refine Pw.list (Pw.off rfl rfl ?_) | refine Pw.condT rfl ?_ | refine Pw.condF rfl ?_ | refine Pw.list (Pw.box rfl rfl rfl rfl (fun _ => freeHead ?_)) | refine Pw.list (Pw.alloc rfl rfl rfl rfl rfl (fun _ => ?_)) | refine Pw.list (Pw.build rfl rfl rfl rfl ?_) | refine Pw.list (Pw.ld rfl inferInstance rfl rfl rfl ?_) | refine Pw.list (Pw.sto rfl rfl inferInstance rfl rfl rfl rfl rfl inferInstance rfl ?_))
  refine Pw.list (Pw.call (join_ct subS 85 (fun u v x y hu hv lu lv => Sub_ct u v x y hu hv lu lv) (by kernel_rfl) subS_lm a b c d y z ha hb hc hd la lb lc ld) rfl rfl rfl (by kernel_rfl) rfl rfl (fun w h => ⟨(hv w h), (hv w h)⟩) ?_)
  intro x _
  repeat (first | (with_reducible first | refine Pw.seq ?_ | refine Pw.region ?_ | refine Pw.nil ?_ | refine Pw.then_ ?_ | refine Pw.skip ?_ | refine Pw.block ?_ | refine Pw.exit ?_ | refine Pw.inX ?_ | refine Pw.inN ?_ | refine Pw.inR ?_ | refine Pw.thenX ?_ | refine Pw.thenR ?_ | refine Pw.ret ?_) | refine Pw.list (Pw.pure rfl rfl rfl ?_) | refine Pw.inY rfl ?_ | refine Pw.list (Pw.off rfl rfl ?_) | refine Pw.condT rfl ?_ | refine Pw.condF rfl ?_ | refine Pw.list (Pw.box rfl rfl rfl rfl (fun _ => ?_)) | refine Pw.list (Pw.alloc rfl rfl rfl rfl rfl (fun _ => ?_)) | refine Pw.list (Pw.build rfl rfl rfl rfl ?_) | refine Pw.list (Pw.ld rfl inferInstance rfl rfl rfl ?_) | refine Pw.list (Pw.sto rfl rfl inferInstance rfl rfl rfl rfl rfl inferInstance rfl ?_))
  exact Pw.ret_ (x := x) (.cell rfl (fun w hs => hs.own _ (.head _)) rfl (.tmp rfl .nil)) rfl trivial (fun w h => fact0 h)
def rminS (a b c d : List Int) : List Int × List Int × Int := if (formedR a b && formedR c d) = true then (if rcmpS c d a b < 0 then (c, d, 0) else (a, b, 0)) else ([], [], 1)
theorem rat_Min_ct (a b c d : List Int) (y z : Z2) (ha : Lm a) (hb : Lm b) (hc : Lm c) (hd : Lm d) (la : a.length < 1048576) (lb : b.length < 1048576) (lc : c.length < 1048576) (ld : d.length < 1048576) :
    Ct Try.prog 43 #[rt a b y, rt c d z] (fun W => R2 a b y W ∧ R2 c d z W) (fun x : Z2 => .tuple #[rt (rminS a b c d).1 (rminS a b c d).2.1 x, .int .i64 (rminS a b c d).2.2]) Tt (fun x => R2 (rminS a b c d).1 (rminS a b c d).2.1 x) := by
  refine Ct.start Try.func43 rfl rfl (slots_of rfl slots2) (fun D w0 => Pw.facts two2 ?_)
  unfold rminS
  repeat (first | (with_reducible first | refine Pw.seq ?_ | refine Pw.region ?_ | refine Pw.nil ?_ | refine Pw.then_ ?_ | refine Pw.skip ?_ | refine Pw.block ?_ | refine Pw.exit ?_ | refine Pw.inX ?_ | refine Pw.inN ?_ | refine Pw.inR ?_ | refine Pw.thenX ?_ | refine Pw.thenR ?_ | refine Pw.ret ?_) | refine Pw.list (Pw.pure rfl rfl rfl ?_) | refine Pw.inY rfl ?_ | refine Pw.list (Pw.off rfl rfl ?_) | refine Pw.condT rfl ?_ | refine Pw.condF rfl ?_ | refine Pw.list (Pw.box rfl rfl rfl rfl (fun _ => ?_)) | refine Pw.list (Pw.alloc rfl rfl rfl rfl rfl (fun _ => ?_)) | refine Pw.list (Pw.build rfl rfl rfl rfl ?_) | refine Pw.list (Pw.ld rfl inferInstance rfl rfl rfl ?_) | refine Pw.list (Pw.sto rfl rfl inferInstance rfl rfl rfl rfl rfl inferInstance rfl ?_))
  refine Pw.list (Pw.call (rat_formed_ct a b c d y z ha hb hc hd la lb lc ld) rfl rfl rfl (by kernel_rfl) rfl rfl (fun w h => ⟨(hv w h), (hv w h)⟩) ?_)
  intro _ _
  generalize (formedR a b && formedR c d) = t
  cases t
  · rw [if_neg (by simp)]
    repeat (first | (with_reducible first | refine Pw.seq ?_ | refine Pw.region ?_ | refine Pw.nil ?_ | refine Pw.then_ ?_ | refine Pw.skip ?_ | refine Pw.block ?_ | refine Pw.exit ?_ | refine Pw.inX ?_ | refine Pw.inN ?_ | refine Pw.inR ?_ | refine Pw.thenX ?_ | refine Pw.thenR ?_ | refine Pw.ret ?_) | refine Pw.list (Pw.pure rfl rfl rfl ?_) | refine Pw.inY rfl ?_ | refine Pw.list (Pw.off rfl rfl ?_) | refine Pw.condT rfl ?_ | refine Pw.condF rfl ?_ | refine Pw.list (Pw.box rfl rfl rfl rfl (fun _ => ?_)) | refine Pw.list (Pw.alloc rfl rfl rfl rfl rfl (fun _ => ?_)) | refine Pw.list (Pw.build rfl rfl rfl rfl ?_) | refine Pw.list (Pw.ld rfl inferInstance rfl rfl rfl ?_) | refine Pw.list (Pw.sto rfl rfl inferInstance rfl rfl rfl rfl rfl inferInstance rfl ?_))
    exact Pw.ret_ (x := z0) (.cell rfl (fun w hs => hs.own _ (.head _)) rfl (.tmp rfl .nil)) rfl trivial (fun w h => R2.nil w)
  rw [if_pos rfl]
  repeat (first | (with_reducible first | refine Pw.seq ?_ | refine Pw.region ?_ | refine Pw.nil ?_ | refine Pw.then_ ?_ | refine Pw.skip ?_ | refine Pw.block ?_ | refine Pw.exit ?_ | refine Pw.inX ?_ | refine Pw.inN ?_ | refine Pw.inR ?_ | refine Pw.thenX ?_ | refine Pw.thenR ?_ | refine Pw.ret ?_) | refine Pw.list (Pw.pure rfl rfl rfl ?_) | refine Pw.inY rfl ?_ | refine Pw.list (Pw.off rfl rfl ?_) | refine Pw.condT rfl ?_ | refine Pw.condF rfl ?_ | refine Pw.list (Pw.box rfl rfl rfl rfl (fun _ => ?_)) | refine Pw.list (Pw.alloc rfl rfl rfl rfl rfl (fun _ => ?_)) | refine Pw.list (Pw.build rfl rfl rfl rfl ?_) | refine Pw.list (Pw.ld rfl inferInstance rfl rfl rfl ?_) | refine Pw.list (Pw.sto rfl rfl inferInstance rfl rfl rfl rfl rfl inferInstance rfl ?_))
  refine Pw.list (Pw.call (rat_Cmp_ct c d a b z y hc hd ha hb lc ld la lb) rfl rfl rfl (by kernel_rfl) rfl rfl (fun w h => ⟨(hv w h), (hv w h)⟩) ?_)
  intro _ _
  repeat (first | (with_reducible first | refine Pw.seq ?_ | refine Pw.region ?_ | refine Pw.nil ?_ | refine Pw.then_ ?_ | refine Pw.skip ?_ | refine Pw.block ?_ | refine Pw.exit ?_ | refine Pw.inX ?_ | refine Pw.inN ?_ | refine Pw.inR ?_ | refine Pw.thenX ?_ | refine Pw.thenR ?_ | refine Pw.ret ?_) | refine Pw.list (Pw.pure rfl rfl rfl ?_) | refine Pw.inY rfl ?_ | refine Pw.list (Pw.off rfl rfl ?_) | refine Pw.condT rfl ?_ | refine Pw.condF rfl ?_ | refine Pw.list (Pw.box rfl rfl rfl rfl (fun _ => ?_)) | refine Pw.list (Pw.alloc rfl rfl rfl rfl rfl (fun _ => ?_)) | refine Pw.list (Pw.build rfl rfl rfl rfl ?_) | refine Pw.list (Pw.ld rfl inferInstance rfl rfl rfl ?_) | refine Pw.list (Pw.sto rfl rfl inferInstance rfl rfl rfl rfl rfl inferInstance rfl ?_))
  refine Pw.condD rfl (fun c1 => ?_) (fun c1 => ?_)
  · rw [if_pos c1]
    repeat (first | (with_reducible first | refine Pw.seq ?_ | refine Pw.region ?_ | refine Pw.nil ?_ | refine Pw.then_ ?_ | refine Pw.skip ?_ | refine Pw.block ?_ | refine Pw.exit ?_ | refine Pw.inX ?_ | refine Pw.inN ?_ | refine Pw.inR ?_ | refine Pw.thenX ?_ | refine Pw.thenR ?_ | refine Pw.ret ?_) | refine Pw.list (Pw.pure rfl rfl rfl ?_) | refine Pw.inY rfl ?_ | refine Pw.list (Pw.off rfl rfl ?_) | refine Pw.condT rfl ?_ | refine Pw.condF rfl ?_ | refine Pw.list (Pw.box rfl rfl rfl rfl (fun _ => ?_)) | refine Pw.list (Pw.alloc rfl rfl rfl rfl rfl (fun _ => ?_)) | refine Pw.list (Pw.build rfl rfl rfl rfl ?_) | refine Pw.list (Pw.ld rfl inferInstance rfl rfl rfl ?_) | refine Pw.list (Pw.sto rfl rfl inferInstance rfl rfl rfl rfl rfl inferInstance rfl ?_))
    refine Pw.free (.swap ..) (Pw.free (.swap ..) ?_)
    refine Pw.drawnG mixed rfl rfl ?_
    refine Pw.takeP 0 (nb 9 1) rfl rfl rfl rfl (by kernel_rfl) np sf ?_
    refine Pw.takeF 1 (nb 9 3) rfl rfl inferInstance rfl rfl rfl (by kernel_rfl) np sf ?_
    refine Pw.takeP 3 (nb 9 11) rfl rfl rfl rfl (by kernel_rfl) np sf ?_
    refine Pw.takeF 4 (nb 9 27) rfl rfl inferInstance rfl rfl rfl (by kernel_rfl) np sf ?_
    refine Pw.one 2 (nb 9 31) rfl (by kernel_rfl) ?_
    -- call Op.call { callee := Callee.value (Operand.func 87), args := #[Operand.tmp 17], argTypes := #[41] }
    refine Pw.call (Clone_ct c z.1 (by omega)) rfl rfl rfl (by kernel_rfl) rfl rfl (fun w h => (hv w h)) ?_
    intro x1 _
    refine Pw.held sf ?_
    refine Pw.one 5 (nb 9 63) rfl (by kernel_rfl) ?_
    -- call Op.call { callee := Callee.value (Operand.func 87), args := #[Operand.tmp 20], argTypes := #[41] }
    refine Pw.call (Clone_ct d z.2 (by omega)) rfl rfl rfl (by kernel_rfl) rfl rfl (fun w h => (hv w h)) ?_
    intro x2 _
    refine Pw.held sf ?_
    refine Pw.takeBuild 6 (nb 9 127) rfl rfl rfl rfl rfl (by kernel_rfl) np sf ?_
    refine Pw.one 7 (nb 9 255) rfl (by kernel_rfl) ?_
    -- eff Op.store 43 (Operand.tmp 4) (Operand.tmp 22)
    refine Pw.storeB rfl rfl .head rfl rfl rfl rfl rfl rfl (Pw.held sf ?_)
    refine Pw.takeP 8 (nb 9 511) rfl rfl rfl rfl (by kernel_rfl) np sf ?_
    refine Pw.done (by kernel_rfl) ?_
    repeat (first | (with_reducible first | refine Pw.seq ?_ | refine Pw.region ?_ | refine Pw.nil ?_ | refine Pw.then_ ?_ | refine Pw.skip ?_ | refine Pw.block ?_ | refine Pw.exit ?_ | refine Pw.inX ?_ | refine Pw.inN ?_ | refine Pw.inR ?_ | refine Pw.thenX ?_ | refine Pw.thenR ?_ | refine Pw.ret ?_) | refine Pw.list (Pw.pure rfl rfl rfl ?_) | refine Pw.inY rfl ?_ | refine Pw.list (Pw.off rfl rfl ?_) | refine Pw.condT rfl ?_ | refine Pw.condF rfl ?_)
    exact Pw.ret_ (x := (x1, x2)) (.cell rfl (fun w hs => hs.own _ (.head _)) rfl (.tmp rfl .nil)) rfl trivial (fun w h => ⟨fact1 h, fact0 h⟩)
  · rw [if_neg c1]
    repeat (first | (with_reducible first | refine Pw.seq ?_ | refine Pw.region ?_ | refine Pw.nil ?_ | refine Pw.then_ ?_ | refine Pw.skip ?_ | refine Pw.block ?_ | refine Pw.exit ?_ | refine Pw.inX ?_ | refine Pw.inN ?_ | refine Pw.inR ?_ | refine Pw.thenX ?_ | refine Pw.thenR ?_ | refine Pw.ret ?_) | refine Pw.list (Pw.pure rfl rfl rfl ?_) | refine Pw.inY rfl ?_ | refine Pw.list (Pw.off rfl rfl ?_) | refine Pw.condT rfl ?_ | refine Pw.condF rfl ?_ | refine Pw.list (Pw.box rfl rfl rfl rfl (fun _ => ?_)) | refine Pw.list (Pw.alloc rfl rfl rfl rfl rfl (fun _ => ?_)) | refine Pw.list (Pw.build rfl rfl rfl rfl ?_) | refine Pw.list (Pw.ld rfl inferInstance rfl rfl rfl ?_) | refine Pw.list (Pw.sto rfl rfl inferInstance rfl rfl rfl rfl rfl inferInstance rfl ?_))
    refine Pw.free (.swap ..) (Pw.free (.swap ..) ?_)
    refine Pw.drawnG mixed rfl rfl ?_
    refine Pw.takeP 0 (nb 9 1) rfl rfl rfl rfl (by kernel_rfl) np sf ?_
    refine Pw.takeF 1 (nb 9 3) rfl rfl inferInstance rfl rfl rfl (by kernel_rfl) np sf ?_
    refine Pw.takeP 3 (nb 9 11) rfl rfl rfl rfl (by kernel_rfl) np sf ?_
    refine Pw.takeF 4 (nb 9 27) rfl rfl inferInstance rfl rfl rfl (by kernel_rfl) np sf ?_
    refine Pw.one 2 (nb 9 31) rfl (by kernel_rfl) ?_
    -- call Op.call { callee := Callee.value (Operand.func 87), args := #[Operand.tmp 17], argTypes := #[41] }
    refine Pw.call (Clone_ct a y.1 (by omega)) rfl rfl rfl (by kernel_rfl) rfl rfl (fun w h => (hv w h)) ?_
    intro x1 _
    refine Pw.held sf ?_
    refine Pw.one 5 (nb 9 63) rfl (by kernel_rfl) ?_
    -- call Op.call { callee := Callee.value (Operand.func 87), args := #[Operand.tmp 20], argTypes := #[41] }
    refine Pw.call (Clone_ct b y.2 (by omega)) rfl rfl rfl (by kernel_rfl) rfl rfl (fun w h => (hv w h)) ?_
    intro x2 _
    refine Pw.held sf ?_
    refine Pw.takeBuild 6 (nb 9 127) rfl rfl rfl rfl rfl (by kernel_rfl) np sf ?_
    refine Pw.one 7 (nb 9 255) rfl (by kernel_rfl) ?_
    -- eff Op.store 43 (Operand.tmp 4) (Operand.tmp 22)
    refine Pw.storeB rfl rfl .head rfl rfl rfl rfl rfl rfl (Pw.held sf ?_)
    refine Pw.takeP 8 (nb 9 511) rfl rfl rfl rfl (by kernel_rfl) np sf ?_
    refine Pw.done (by kernel_rfl) ?_
    repeat (first | (with_reducible first | refine Pw.seq ?_ | refine Pw.region ?_ | refine Pw.nil ?_ | refine Pw.then_ ?_ | refine Pw.skip ?_ | refine Pw.block ?_ | refine Pw.exit ?_ | refine Pw.inX ?_ | refine Pw.inN ?_ | refine Pw.inR ?_ | refine Pw.thenX ?_ | refine Pw.thenR ?_ | refine Pw.ret ?_) | refine Pw.list (Pw.pure rfl rfl rfl ?_) | refine Pw.inY rfl ?_ | refine Pw.list (Pw.off rfl rfl ?_) | refine Pw.condT rfl ?_ | refine Pw.condF rfl ?_)
    exact Pw.ret_ (x := (x1, x2)) (.cell rfl (fun w hs => hs.own _ (.head _)) rfl (.tmp rfl .nil)) rfl trivial (fun w h => ⟨fact1 h, fact0 h⟩)
end Go.Proofs.Wk
/- Walks of the reference's fractions. -/
namespace Go.Proofs.Wk
open Go.RowKit
set_option maxRecDepth 100000
attribute [local irreducible] Pw OpG
set_option linter.unusedVariables false
set_option linter.unusedSimpArgs false
theorem lowest_ct (a b : List Int) (x y : Option Addr × Nat) (ha : Fm a) (hb : Fm b) (hb0 : b.length ≠ 0) (hl : a.length < 1048576) (hl' : b.length < 1048576) :
    Ct Try.prog 66 #[sl a x, sl b y] (fun W => S1 a x W ∧ S1 b y W) (fun z : Z2 => rt (lowS a b).1 (lowS a b).2 z) Tt (fun z => R2 (lowS a b).1 (lowS a b).2 z) := by
  refine Ct.start Try.func66 rfl rfl (slots_of rfl slots2) (fun D w0 => Pw.facts two2 ?_)
  have hbp := val_pos_of hb hb0
  have g0 := gcdI_pos (x := val a) hbp
  have gl := gcdI_le (x := val a) hbp
  have hg := rgcd_ct a b x y ha hb hl hl'
  unfold lowS
  obtain ⟨G, hG⟩ : ∃ g, g = gcdI (val a) (val b) := ⟨_, rfl⟩
  rw [← hG] at g0 gl hg ⊢
  have pb := val_lt_pw hb.1
  have lg := natL_len_le (n := b.length) (show 0 ≤ G by omega) (by omega)
  have hz : (natL G).length ≠ 0 := fun e => by have := (natL_len_zero (show 0 ≤ G by omega)).1 e; omega
  repeat (first | (with_reducible first | refine Pw.seq ?_ | refine Pw.region ?_ | refine Pw.nil ?_ | refine Pw.then_ ?_ | refine Pw.skip ?_ | refine Pw.block ?_ | refine Pw.exit ?_ | refine Pw.inX ?_ | refine Pw.inN ?_ | refine Pw.inR ?_ | refine Pw.thenX ?_ | refine Pw.thenR ?_ | refine Pw.ret ?_) | refine Pw.list (Pw.pure rfl rfl rfl ?_) | refine Pw.inY rfl ?_ | refine Pw.list (Pw.off rfl rfl ?_) | refine Pw.condT rfl ?_ | refine Pw.condF rfl ?_ | refine Pw.list (Pw.box rfl rfl rfl rfl (fun _ => freeHead ?_)) | refine Pw.list (Pw.alloc rfl rfl rfl rfl rfl (fun _ => ?_)) | refine Pw.list (Pw.build rfl rfl rfl rfl ?_) | refine Pw.list (Pw.ld rfl inferInstance rfl rfl rfl ?_) | refine Pw.list (Pw.sto rfl rfl inferInstance rfl rfl rfl rfl rfl inferInstance rfl ?_))
  refine Pw.list (Pw.call hg rfl rfl rfl (by kernel_rfl) rfl rfl (fun w h => ⟨(hv w h), (hv w h)⟩) ?_)
  intro zg _
  have d1 := rdivMod_ct a (natL G) x zg ha (natL_fm G) hz hl (by omega)
  have d2 := rdivMod_ct b (natL G) y zg hb (natL_fm G) hz hl' (by omega)
  rw [val_natL (by omega)] at d1 d2
  repeat (first | (with_reducible first | refine Pw.seq ?_ | refine Pw.region ?_ | refine Pw.nil ?_ | refine Pw.then_ ?_ | refine Pw.skip ?_ | refine Pw.block ?_ | refine Pw.exit ?_ | refine Pw.inX ?_ | refine Pw.inN ?_ | refine Pw.inR ?_ | refine Pw.thenX ?_ | refine Pw.thenR ?_ | refine Pw.ret ?_) | refine Pw.list (Pw.pure rfl rfl rfl ?_) | refine Pw.inY rfl ?_ | refine Pw.list (Pw.off rfl rfl ?_) | refine Pw.condT rfl ?_ | refine Pw.condF rfl ?_ | refine Pw.list (Pw.box rfl rfl rfl rfl (fun _ => freeHead ?_)) | refine Pw.list (Pw.alloc rfl rfl rfl rfl rfl (fun _ => ?_)) | refine Pw.list (Pw.build rfl rfl rfl rfl ?_) | refine Pw.list (Pw.ld rfl inferInstance rfl rfl rfl ?_) | refine Pw.list (Pw.sto rfl rfl inferInstance rfl rfl rfl rfl rfl inferInstance rfl ?_))
  refine Pw.list (Pw.call d1 rfl rfl rfl (by kernel_rfl) rfl rfl (fun w h => ⟨(hv w h), (hv w h)⟩) ?_)
  intro z1 _
  repeat (first | (with_reducible first | refine Pw.seq ?_ | refine Pw.region ?_ | refine Pw.nil ?_ | refine Pw.then_ ?_ | refine Pw.skip ?_ | refine Pw.block ?_ | refine Pw.exit ?_ | refine Pw.inX ?_ | refine Pw.inN ?_ | refine Pw.inR ?_ | refine Pw.thenX ?_ | refine Pw.thenR ?_ | refine Pw.ret ?_) | refine Pw.list (Pw.pure rfl rfl rfl ?_) | refine Pw.inY rfl ?_ | refine Pw.list (Pw.off rfl rfl ?_) | refine Pw.condT rfl ?_ | refine Pw.condF rfl ?_ | refine Pw.list (Pw.box rfl rfl rfl rfl (fun _ => freeHead ?_)) | refine Pw.list (Pw.alloc rfl rfl rfl rfl rfl (fun _ => ?_)) | refine Pw.list (Pw.build rfl rfl rfl rfl ?_) | refine Pw.list (Pw.ld rfl inferInstance rfl rfl rfl ?_) | refine Pw.list (Pw.sto rfl rfl inferInstance rfl rfl rfl rfl rfl inferInstance rfl ?_))
  refine Pw.list (Pw.call d2 rfl rfl rfl (by kernel_rfl) rfl rfl (fun w h => ⟨(hv w h), (hv w h)⟩) ?_)
  intro z2 _
  repeat (first | (with_reducible first | refine Pw.seq ?_ | refine Pw.region ?_ | refine Pw.nil ?_ | refine Pw.then_ ?_ | refine Pw.skip ?_ | refine Pw.block ?_ | refine Pw.exit ?_ | refine Pw.inX ?_ | refine Pw.inN ?_ | refine Pw.inR ?_ | refine Pw.thenX ?_ | refine Pw.thenR ?_ | refine Pw.ret ?_) | refine Pw.list (Pw.pure rfl rfl rfl ?_) | refine Pw.inY rfl ?_ | refine Pw.list (Pw.off rfl rfl ?_) | refine Pw.condT rfl ?_ | refine Pw.condF rfl ?_ | refine Pw.list (Pw.box rfl rfl rfl rfl (fun _ => freeHead ?_)) | refine Pw.list (Pw.alloc rfl rfl rfl rfl rfl (fun _ => ?_)) | refine Pw.list (Pw.build rfl rfl rfl rfl ?_) | refine Pw.list (Pw.ld rfl inferInstance rfl rfl rfl ?_) | refine Pw.list (Pw.sto rfl rfl inferInstance rfl rfl rfl rfl rfl inferInstance rfl ?_))
  exact Pw.ret_ (x := (z1.1, z2.1)) (.cell rfl (fun w hs => hs.own _ (.head _)) rfl .nil) rfl trivial (fun w h => ⟨(fact1 h).1, (fact0 h).1⟩)
theorem SameRatio_ct (a b c d : List Int) (y z : Z2) (ha : Fm a) (hb : Fm b) (hc : Fm c) (hd : Fm d) (la : a.length < 1048576) (lb : b.length < 1048576) (lc : c.length < 1048576) (ld : d.length < 1048576) :
    Ct Try.prog 67 #[rt a b y, rt c d z] (fun W => R2 a b y W ∧ R2 c d z W) (fun _ : Unit => .bool (decide (val a = val c) && decide (val b = val d))) Tt (fun _ _ => True) := by
  refine Ct.start Try.func67 rfl rfl (slots_of rfl slots2) (fun D w0 => Pw.facts two2 ?_)
  repeat (first | (with_reducible first | refine Pw.seq ?_ | refine Pw.region ?_ | refine Pw.nil ?_ | refine Pw.then_ ?_ | refine Pw.skip ?_ | refine Pw.block ?_ | refine Pw.exit ?_ | refine Pw.inX ?_ | refine Pw.inN ?_ | refine Pw.inR ?_ | refine Pw.thenX ?_ | refine Pw.thenR ?_ | refine Pw.ret ?_) | refine Pw.list (Pw.pure rfl rfl rfl ?_) | refine Pw.inY rfl ?_ | refine Pw.list (Pw.off rfl rfl ?_) | refine Pw.condT rfl ?_ | refine Pw.condF rfl ?_ | refine Pw.list (Pw.box rfl rfl rfl rfl (fun _ => freeHead ?_)) | refine Pw.list (Pw.alloc rfl rfl rfl rfl rfl (fun _ => ?_)) | refine Pw.list (Pw.build rfl rfl rfl rfl ?_) | refine Pw.list (Pw.ld rfl inferInstance rfl rfl rfl ?_) | refine Pw.list (Pw.sto rfl rfl inferInstance rfl rfl rfl rfl rfl inferInstance rfl ?_))
  refine Pw.list (Pw.call (rSame_ct a c y.1 z.1 ha hc (by omega) (by omega)) rfl rfl rfl (by kernel_rfl) rfl rfl (fun w h => ⟨(hv w h), (hv w h)⟩) ?_)
  intro _ _
  generalize decide (val a = val c) = t
  cases t
  · repeat (first | (with_reducible first | refine Pw.seq ?_ | refine Pw.region ?_ | refine Pw.nil ?_ | refine Pw.then_ ?_ | refine Pw.skip ?_ | refine Pw.block ?_ | refine Pw.exit ?_ | refine Pw.inX ?_ | refine Pw.inN ?_ | refine Pw.inR ?_ | refine Pw.thenX ?_ | refine Pw.thenR ?_ | refine Pw.ret ?_) | refine Pw.list (Pw.pure rfl rfl rfl ?_) | refine Pw.inY rfl ?_ | refine Pw.list (Pw.off rfl rfl ?_) | refine Pw.condT rfl ?_ | refine Pw.condF rfl ?_ | refine Pw.list (Pw.box rfl rfl rfl rfl (fun _ => freeHead ?_)) | refine Pw.list (Pw.alloc rfl rfl rfl rfl rfl (fun _ => ?_)) | refine Pw.list (Pw.build rfl rfl rfl rfl ?_) | refine Pw.list (Pw.ld rfl inferInstance rfl rfl rfl ?_) | refine Pw.list (Pw.sto rfl rfl inferInstance rfl rfl rfl rfl rfl inferInstance rfl ?_))
    exact Pw.ret_ (x := ()) (.tmp rfl .nil) rfl trivial (fun w h => by trivial)
  · repeat (first | (with_reducible first | refine Pw.seq ?_ | refine Pw.region ?_ | refine Pw.nil ?_ | refine Pw.then_ ?_ | refine Pw.skip ?_ | refine Pw.block ?_ | refine Pw.exit ?_ | refine Pw.inX ?_ | refine Pw.inN ?_ | refine Pw.inR ?_ | refine Pw.thenX ?_ | refine Pw.thenR ?_ | refine Pw.ret ?_) | refine Pw.list (Pw.pure rfl rfl rfl ?_) | refine Pw.inY rfl ?_ | refine Pw.list (Pw.off rfl rfl ?_) | refine Pw.condT rfl ?_ | refine Pw.condF rfl ?_ | refine Pw.list (Pw.box rfl rfl rfl rfl (fun _ => freeHead ?_)) | refine Pw.list (Pw.alloc rfl rfl rfl rfl rfl (fun _ => ?_)) | refine Pw.list (Pw.build rfl rfl rfl rfl ?_) | refine Pw.list (Pw.ld rfl inferInstance rfl rfl rfl ?_) | refine Pw.list (Pw.sto rfl rfl inferInstance rfl rfl rfl rfl rfl inferInstance rfl ?_))
    refine Pw.list (Pw.call (rSame_ct b d y.2 z.2 hb hd (by omega) (by omega)) rfl rfl rfl (by kernel_rfl) rfl rfl (fun w h => ⟨(hv w h), (hv w h)⟩) ?_)
    intro _ _
    repeat (first | (with_reducible first | refine Pw.seq ?_ | refine Pw.region ?_ | refine Pw.nil ?_ | refine Pw.then_ ?_ | refine Pw.skip ?_ | refine Pw.block ?_ | refine Pw.exit ?_ | refine Pw.inX ?_ | refine Pw.inN ?_ | refine Pw.inR ?_ | refine Pw.thenX ?_ | refine Pw.thenR ?_ | refine Pw.ret ?_) | refine Pw.list (Pw.pure rfl rfl rfl ?_) | refine Pw.inY rfl ?_ | refine Pw.list (Pw.off rfl rfl ?_) | refine Pw.condT rfl ?_ | refine Pw.condF rfl ?_ | refine Pw.list (Pw.box rfl rfl rfl rfl (fun _ => freeHead ?_)) | refine Pw.list (Pw.alloc rfl rfl rfl rfl rfl (fun _ => ?_)) | refine Pw.list (Pw.build rfl rfl rfl rfl ?_) | refine Pw.list (Pw.ld rfl inferInstance rfl rfl rfl ?_) | refine Pw.list (Pw.sto rfl rfl inferInstance rfl rfl rfl rfl rfl inferInstance rfl ?_))
    exact Pw.ret_ (x := ()) (.tmp rfl .nil) rfl trivial (fun w h => by trivial)
theorem FormedRatio_ct (a b : List Int) (z : Z2) (ha : Lm a) (hb : Lm b) (la : a.length < 1048576) (lb : b.length < 1048576) :
    Ct Try.prog 29 #[rt a b z] (R2 a b z) (fun _ : Unit => .bool (formedR a b)) Tt (fun _ _ => True) := by
  refine Ct.start Try.func29 rfl rfl (slots_of rfl slots1) (fun D w0 => ?_)
  unfold formedR
  repeat (first | (with_reducible first | refine Pw.seq ?_ | refine Pw.region ?_ | refine Pw.nil ?_ | refine Pw.then_ ?_ | refine Pw.skip ?_ | refine Pw.block ?_ | refine Pw.exit ?_ | refine Pw.inX ?_ | refine Pw.inN ?_ | refine Pw.inR ?_ | refine Pw.thenX ?_ | refine Pw.thenR ?_ | refine Pw.ret ?_) | refine Pw.list (Pw.pure rfl rfl rfl ?_) | refine Pw.inY rfl ?_ | refine Pw.list (Pw.off rfl rfl ?_) | refine Pw.condT rfl ?_ | refine Pw.condF rfl ?_ | refine Pw.list (Pw.box rfl rfl rfl rfl (fun _ => freeHead ?_)) | refine Pw.list (Pw.alloc rfl rfl rfl rfl rfl (fun _ => ?_)) | refine Pw.list (Pw.build rfl rfl rfl rfl ?_) | refine Pw.list (Pw.ld rfl inferInstance rfl rfl rfl ?_) | refine Pw.list (Pw.sto rfl rfl inferInstance rfl rfl rfl rfl rfl inferInstance rfl ?_))
  refine Pw.list (Pw.call (rFormed_ct a z.1 (by omega)) rfl rfl rfl (by kernel_rfl) rfl rfl (fun w h => (hv w h)) ?_)
  intro _ _
  cases e1 : fmB a
  · repeat (first | (with_reducible first | refine Pw.seq ?_ | refine Pw.region ?_ | refine Pw.nil ?_ | refine Pw.then_ ?_ | refine Pw.skip ?_ | refine Pw.block ?_ | refine Pw.exit ?_ | refine Pw.inX ?_ | refine Pw.inN ?_ | refine Pw.inR ?_ | refine Pw.thenX ?_ | refine Pw.thenR ?_ | refine Pw.ret ?_) | refine Pw.list (Pw.pure rfl rfl rfl ?_) | refine Pw.inY rfl ?_ | refine Pw.list (Pw.off rfl rfl ?_) | refine Pw.condT rfl ?_ | refine Pw.condF rfl ?_ | refine Pw.list (Pw.box rfl rfl rfl rfl (fun _ => freeHead ?_)) | refine Pw.list (Pw.alloc rfl rfl rfl rfl rfl (fun _ => ?_)) | refine Pw.list (Pw.build rfl rfl rfl rfl ?_) | refine Pw.list (Pw.ld rfl inferInstance rfl rfl rfl ?_) | refine Pw.list (Pw.sto rfl rfl inferInstance rfl rfl rfl rfl rfl inferInstance rfl ?_))
    exact Pw.ret_ (x := ()) (.tmp rfl .nil) rfl trivial (fun w h => by trivial)
  repeat (first | (with_reducible first | refine Pw.seq ?_ | refine Pw.region ?_ | refine Pw.nil ?_ | refine Pw.then_ ?_ | refine Pw.skip ?_ | refine Pw.block ?_ | refine Pw.exit ?_ | refine Pw.inX ?_ | refine Pw.inN ?_ | refine Pw.inR ?_ | refine Pw.thenX ?_ | refine Pw.thenR ?_ | refine Pw.ret ?_) | refine Pw.list (Pw.pure rfl rfl rfl ?_) | refine Pw.inY rfl ?_ | refine Pw.list (Pw.off rfl rfl ?_) | refine Pw.condT rfl ?_ | refine Pw.condF rfl ?_ | refine Pw.list (Pw.box rfl rfl rfl rfl (fun _ => freeHead ?_)) | refine Pw.list (Pw.alloc rfl rfl rfl rfl rfl (fun _ => ?_)) | refine Pw.list (Pw.build rfl rfl rfl rfl ?_) | refine Pw.list (Pw.ld rfl inferInstance rfl rfl rfl ?_) | refine Pw.list (Pw.sto rfl rfl inferInstance rfl rfl rfl rfl rfl inferInstance rfl ?_))
  refine Pw.list (Pw.call (rFormed_ct b z.2 (by omega)) rfl rfl rfl (by kernel_rfl) rfl rfl (fun w h => (hv w h)) ?_)
  intro _ _
  cases e2 : fmB b
  · repeat (first | (with_reducible first | refine Pw.seq ?_ | refine Pw.region ?_ | refine Pw.nil ?_ | refine Pw.then_ ?_ | refine Pw.skip ?_ | refine Pw.block ?_ | refine Pw.exit ?_ | refine Pw.inX ?_ | refine Pw.inN ?_ | refine Pw.inR ?_ | refine Pw.thenX ?_ | refine Pw.thenR ?_ | refine Pw.ret ?_) | refine Pw.list (Pw.pure rfl rfl rfl ?_) | refine Pw.inY rfl ?_ | refine Pw.list (Pw.off rfl rfl ?_) | refine Pw.condT rfl ?_ | refine Pw.condF rfl ?_ | refine Pw.list (Pw.box rfl rfl rfl rfl (fun _ => freeHead ?_)) | refine Pw.list (Pw.alloc rfl rfl rfl rfl rfl (fun _ => ?_)) | refine Pw.list (Pw.build rfl rfl rfl rfl ?_) | refine Pw.list (Pw.ld rfl inferInstance rfl rfl rfl ?_) | refine Pw.list (Pw.sto rfl rfl inferInstance rfl rfl rfl rfl rfl inferInstance rfl ?_))
    exact Pw.ret_ (x := ()) (.tmp rfl .nil) rfl trivial (fun w h => by trivial)
  repeat (first | (with_reducible first | refine Pw.seq ?_ | refine Pw.region ?_ | refine Pw.nil ?_ | refine Pw.then_ ?_ | refine Pw.skip ?_ | refine Pw.block ?_ | refine Pw.exit ?_ | refine Pw.inX ?_ | refine Pw.inN ?_ | refine Pw.inR ?_ | refine Pw.thenX ?_ | refine Pw.thenR ?_ | refine Pw.ret ?_) | refine Pw.list (Pw.pure rfl rfl rfl ?_) | refine Pw.inY rfl ?_ | refine Pw.list (Pw.off rfl rfl ?_) | refine Pw.condT rfl ?_ | refine Pw.condF rfl ?_ | refine Pw.list (Pw.box rfl rfl rfl rfl (fun _ => freeHead ?_)) | refine Pw.list (Pw.alloc rfl rfl rfl rfl rfl (fun _ => ?_)) | refine Pw.list (Pw.build rfl rfl rfl rfl ?_) | refine Pw.list (Pw.ld rfl inferInstance rfl rfl rfl ?_) | refine Pw.list (Pw.sto rfl rfl inferInstance rfl rfl rfl rfl rfl inferInstance rfl ?_))
  refine Pw.split 17 rfl (fun c1 => ?_) (fun c1 => ?_)
  · have h0 : 0 < b.length := by omega
    have hfb := ((fmB_iff hb).1 e2)
    have hbp := val_pos_of hfb.2 (by omega)
    have gl := gcdI_le (x := val a) hbp
    have g0 := gcdI_nonneg (val a) (val b)
    have lg := natL_len_le (n := b.length) g0 (by have := val_lt_pw hb; omega)
    rw [decide_eq_true h0]
    repeat (first | (with_reducible first | refine Pw.seq ?_ | refine Pw.region ?_ | refine Pw.nil ?_ | refine Pw.then_ ?_ | refine Pw.skip ?_ | refine Pw.block ?_ | refine Pw.exit ?_ | refine Pw.inX ?_ | refine Pw.inN ?_ | refine Pw.inR ?_ | refine Pw.thenX ?_ | refine Pw.thenR ?_ | refine Pw.ret ?_) | refine Pw.list (Pw.pure rfl rfl rfl ?_) | refine Pw.inY rfl ?_ | refine Pw.list (Pw.off rfl rfl ?_) | refine Pw.condT rfl ?_ | refine Pw.condF rfl ?_ | refine Pw.list (Pw.box rfl rfl rfl rfl (fun _ => freeHead ?_)) | refine Pw.list (Pw.alloc rfl rfl rfl rfl rfl (fun _ => ?_)) | refine Pw.list (Pw.build rfl rfl rfl rfl ?_) | refine Pw.list (Pw.ld rfl inferInstance rfl rfl rfl ?_) | refine Pw.list (Pw.sto rfl rfl inferInstance rfl rfl rfl rfl rfl inferInstance rfl ?_))
    refine Pw.list (Pw.call (rgcd_ct a b z.1 z.2 ((fmB_iff ha).1 e1).2 hfb.2 la lb) rfl rfl rfl (by kernel_rfl) rfl rfl (fun w h => ⟨(hv w h), (hv w h)⟩) ?_)
    intro zg _
    repeat (first | (with_reducible first | refine Pw.seq ?_ | refine Pw.region ?_ | refine Pw.nil ?_ | refine Pw.then_ ?_ | refine Pw.skip ?_ | refine Pw.block ?_ | refine Pw.exit ?_ | refine Pw.inX ?_ | refine Pw.inN ?_ | refine Pw.inR ?_ | refine Pw.thenX ?_ | refine Pw.thenR ?_ | refine Pw.ret ?_) | refine Pw.list (Pw.pure rfl rfl rfl ?_) | refine Pw.inY rfl ?_ | refine Pw.list (Pw.off rfl rfl ?_) | refine Pw.condT rfl ?_ | refine Pw.condF rfl ?_ | refine Pw.list (Pw.box rfl rfl rfl rfl (fun _ => freeHead ?_)) | refine Pw.list (Pw.alloc rfl rfl rfl rfl rfl (fun _ => ?_)) | refine Pw.list (Pw.build rfl rfl rfl rfl ?_) | refine Pw.list (Pw.ld rfl inferInstance rfl rfl rfl ?_) | refine Pw.list (Pw.sto rfl rfl inferInstance rfl rfl rfl rfl rfl inferInstance rfl ?_))
    refine Pw.list (Pw.lit1 rfl rfl rfl rfl rfl rfl rfl rfl rfl (fun g1 => freeHead ?_))
    have hs := rSame_ct (natL (gcdI (val a) (val b))) [1] zg (some ⟨g1, 0, none⟩, 1) (natL_fm _) (by rw [← natL_one]; exact natL_fm 1) (by omega) (by simp)
    rw [val_natL g0, show val [1] = 1 by simp [val]] at hs
    refine Pw.list (Pw.call hs rfl rfl rfl (by kernel_rfl) rfl rfl (fun w h => ⟨(hv w h), ints_of_row' (l := [1]) (fact0 h) (by simp) (by simp [maxLen])⟩) ?_)
    intro _ _
    repeat (first | (with_reducible first | refine Pw.seq ?_ | refine Pw.region ?_ | refine Pw.nil ?_ | refine Pw.then_ ?_ | refine Pw.skip ?_ | refine Pw.block ?_ | refine Pw.exit ?_ | refine Pw.inX ?_ | refine Pw.inN ?_ | refine Pw.inR ?_ | refine Pw.thenX ?_ | refine Pw.thenR ?_ | refine Pw.ret ?_) | refine Pw.list (Pw.pure rfl rfl rfl ?_) | refine Pw.inY rfl ?_ | refine Pw.list (Pw.off rfl rfl ?_) | refine Pw.condT rfl ?_ | refine Pw.condF rfl ?_ | refine Pw.list (Pw.box rfl rfl rfl rfl (fun _ => freeHead ?_)) | refine Pw.list (Pw.alloc rfl rfl rfl rfl rfl (fun _ => ?_)) | refine Pw.list (Pw.build rfl rfl rfl rfl ?_) | refine Pw.list (Pw.ld rfl inferInstance rfl rfl rfl ?_) | refine Pw.list (Pw.sto rfl rfl inferInstance rfl rfl rfl rfl rfl inferInstance rfl ?_))
    exact Pw.ret_ (x := ()) (.tmp rfl .nil) rfl trivial (fun w h => by trivial)
  · have h0 : ¬ 0 < b.length := by omega
    rw [decide_eq_false h0]
    repeat (first | (with_reducible first | refine Pw.seq ?_ | refine Pw.region ?_ | refine Pw.nil ?_ | refine Pw.then_ ?_ | refine Pw.skip ?_ | refine Pw.block ?_ | refine Pw.exit ?_ | refine Pw.inX ?_ | refine Pw.inN ?_ | refine Pw.inR ?_ | refine Pw.thenX ?_ | refine Pw.thenR ?_ | refine Pw.ret ?_) | refine Pw.list (Pw.pure rfl rfl rfl ?_) | refine Pw.inY rfl ?_ | refine Pw.list (Pw.off rfl rfl ?_) | refine Pw.condT rfl ?_ | refine Pw.condF rfl ?_ | refine Pw.list (Pw.box rfl rfl rfl rfl (fun _ => freeHead ?_)) | refine Pw.list (Pw.alloc rfl rfl rfl rfl rfl (fun _ => ?_)) | refine Pw.list (Pw.build rfl rfl rfl rfl ?_) | refine Pw.list (Pw.ld rfl inferInstance rfl rfl rfl ?_) | refine Pw.list (Pw.sto rfl rfl inferInstance rfl rfl rfl rfl rfl inferInstance rfl ?_))
    exact Pw.ret_ (x := ()) (.tmp rfl .nil) rfl trivial (fun w h => by trivial)
end Go.Proofs.Wk
/- What layer 2 answers, of formed fractions. -/
namespace Go.Proofs.Wk
set_option linter.unusedVariables false
set_option linter.unusedSimpArgs false

theorem mulS_bd {a b : List Int} (ha : fmB a = true) (hb : fmB b = true) : mulS a b = bdS (natL (val a * val b)) := by
  unfold mulS; rw [if_pos ⟨ha, hb⟩]; rfl
theorem addS_bd {a b : List Int} (ha : fmB a = true) (hb : fmB b = true) : addS a b = bdS (natL (val a + val b)) := by
  unfold addS; rw [if_pos ⟨ha, hb⟩]; rfl
theorem bd_ok {l : List Int} (h : l.length ≤ 400) : bdS l = (l, 0) := if_pos h
theorem bd_no {l : List Int} (h : ¬ l.length ≤ 400) : bdS l = ([], 4) := if_neg h
theorem makeS_natL {p q : Int} (hq : 0 < q) (h1 : (natL p).length ≤ 400) (h2 : (natL q).length ≤ 400) : makeS (natL p) (natL q) = ((lowS (natL p) (natL q)).1, (lowS (natL p) (natL q)).2, 0) := by
  unfold makeS
  rw [if_pos ⟨fmB_natL h1, fmB_natL h2⟩, if_neg (fun e => by have := (natL_len_zero (show 0 ≤ q by omega)).1 e; omega)]
theorem fm_pos {b : List Int} (hb : Lm b) (h : fmB b = true) (h0 : 0 < b.length) : 0 < val b := val_pos_of ((fmB_iff hb).1 h).2 (by omega)
section
variable {a b c d : List Int} (ha : Lm a) (hb : Lm b) (hc : Lm c) (hd : Lm d) (hf : formedR a b = true) (hg : formedR c d = true)
include ha hb hc hd hf hg
theorem rmulS_eq : rmulS a b c d = if (natL (val a * val c)).length ≤ 400 ∧ (natL (val b * val d)).length ≤ 400 then ((lowS (natL (val a * val c)) (natL (val b * val d))).1, (lowS (natL (val a * val c)) (natL (val b * val d))).2, 0) else ([], [], 4) := by
  obtain ⟨f1, f2, f3, _⟩ := formedR_spec ha hb hf
  obtain ⟨g1, g2, g3, _⟩ := formedR_spec hc hd hg
  have hq := Int.mul_pos (fm_pos hb f2 f3) (fm_pos hd g2 g3)
  unfold rmulS
  rw [if_pos (by simp [hf, hg]), mulS_bd f1 g1, mulS_bd f2 g2]
  by_cases h1 : (natL (val a * val c)).length ≤ 400 <;> by_cases h2 : (natL (val b * val d)).length ≤ 400
  · rw [bd_ok h1, bd_ok h2]; show endS 0 0 (natL _) (natL _) = _; rw [if_pos ⟨h1, h2⟩]; exact makeS_natL hq h1 h2
  · rw [bd_ok h1, bd_no h2]; show endS 4 0 (natL _) [] = _; rw [if_neg (fun h => h2 h.2)]; rfl
  · rw [bd_no h1, bd_ok h2]; show endS 4 0 [] (natL _) = _; rw [if_neg (fun h => h1 h.1)]; rfl
  · rw [bd_no h1, bd_no h2]; show endS 4 0 [] [] = _; rw [if_neg (fun h => h1 h.1)]; rfl
theorem rcmpS_eq : rcmpS a b c d = if (natL (val a * val d)).length ≤ 400 ∧ (natL (val c * val b)).length ≤ 400 then cmpS (val a * val d) (val c * val b) else 0 := by
  obtain ⟨f1, f2, f3, _⟩ := formedR_spec ha hb hf
  obtain ⟨g1, g2, g3, _⟩ := formedR_spec hc hd hg
  have p1 := Int.mul_nonneg (val_nonneg ha) (val_nonneg hd)
  have p2 := Int.mul_nonneg (val_nonneg hc) (val_nonneg hb)
  unfold rcmpS
  rw [if_pos (by simp [hf, hg]), mulS_bd f1 g2, mulS_bd g1 f2]
  by_cases h1 : (natL (val a * val d)).length ≤ 400 <;> by_cases h2 : (natL (val c * val b)).length ≤ 400
  · rw [bd_ok h1, bd_ok h2]
    show cmpF (natL _) (natL _) = _
    rw [if_pos ⟨h1, h2⟩]
    unfold cmpF
    rw [if_pos ⟨fmB_natL h1, fmB_natL h2⟩, val_natL p1, val_natL p2]
  · rw [bd_ok h1, bd_no h2]; show (0 : Int) = _; rw [if_neg (fun h => h2 h.2)]
  · rw [bd_no h1, bd_ok h2]; show (0 : Int) = _; rw [if_neg (fun h => h1 h.1)]
  · rw [bd_no h1, bd_no h2]; show (0 : Int) = _; rw [if_neg (fun h => h1 h.1)]
theorem raddS_eq : joinS addS a b c d = if (natL (val a * val d)).length ≤ 400 ∧ (natL (val c * val b)).length ≤ 400 ∧ (natL (val b * val d)).length ≤ 400 ∧ (natL (val a * val d + val c * val b)).length ≤ 400 then ((lowS (natL (val a * val d + val c * val b)) (natL (val b * val d))).1, (lowS (natL (val a * val d + val c * val b)) (natL (val b * val d))).2, 0) else ([], [], 4) := by
  obtain ⟨f1, f2, f3, _⟩ := formedR_spec ha hb hf
  obtain ⟨g1, g2, g3, _⟩ := formedR_spec hc hd hg
  have hq := Int.mul_pos (fm_pos hb f2 f3) (fm_pos hd g2 g3)
  have p1 := Int.mul_nonneg (val_nonneg ha) (val_nonneg hd)
  have p2 := Int.mul_nonneg (val_nonneg hc) (val_nonneg hb)
  unfold joinS
  rw [if_pos (by simp [hf, hg]), mulS_bd f1 g2, mulS_bd g1 f2, mulS_bd f2 g2]
  by_cases h1 : (natL (val a * val d)).length ≤ 400 <;> by_cases h2 : (natL (val c * val b)).length ≤ 400 <;> by_cases h3 : (natL (val b * val d)).length ≤ 400
  · rw [bd_ok h1, bd_ok h2, bd_ok h3]
    show endS 0 (addS (natL _) (natL _)).2 (addS (natL _) (natL _)).1 (natL _) = _
    rw [addS_bd (fmB_natL h1) (fmB_natL h2), val_natL p1, val_natL p2]
    by_cases h4 : (natL (val a * val d + val c * val b)).length ≤ 400
    · rw [bd_ok h4, if_pos ⟨h1, h2, h3, h4⟩]; exact makeS_natL hq h4 h3
    · rw [bd_no h4, if_neg (fun h => h4 h.2.2.2)]; rfl
  all_goals first
    | (rw [bd_ok h1, bd_ok h2, bd_no h3, if_neg (fun h => h3 h.2.2.1)]; rfl)
    | (rw [bd_ok h1, bd_no h2, bd_ok h3, if_neg (fun h => h2 h.2.1)]; rfl)
    | (rw [bd_ok h1, bd_no h2, bd_no h3, if_neg (fun h => h2 h.2.1)]; rfl)
    | (rw [bd_no h1, bd_ok h2, bd_ok h3, if_neg (fun h => h1 h.1)]; rfl)
    | (rw [bd_no h1, bd_ok h2, bd_no h3, if_neg (fun h => h1 h.1)]; rfl)
    | (rw [bd_no h1, bd_no h2, bd_ok h3, if_neg (fun h => h1 h.1)]; rfl)
    | (rw [bd_no h1, bd_no h2, bd_no h3, if_neg (fun h => h1 h.1)]; rfl)
theorem rsubS_eq : joinS subS a b c d = if (natL (val a * val d)).length ≤ 400 ∧ (natL (val c * val b)).length ≤ 400 ∧ (natL (val b * val d)).length ≤ 400 then (if val a * val d < val c * val b then ([], [], 3) else ((lowS (natL (val a * val d - val c * val b)) (natL (val b * val d))).1, (lowS (natL (val a * val d - val c * val b)) (natL (val b * val d))).2, 0)) else ([], [], 4) := by
  obtain ⟨f1, f2, f3, _⟩ := formedR_spec ha hb hf
  obtain ⟨g1, g2, g3, _⟩ := formedR_spec hc hd hg
  have hq := Int.mul_pos (fm_pos hb f2 f3) (fm_pos hd g2 g3)
  have p1 := Int.mul_nonneg (val_nonneg ha) (val_nonneg hd)
  have p2 := Int.mul_nonneg (val_nonneg hc) (val_nonneg hb)
  unfold joinS
  rw [if_pos (by simp [hf, hg]), mulS_bd f1 g2, mulS_bd g1 f2, mulS_bd f2 g2]
  by_cases h1 : (natL (val a * val d)).length ≤ 400 <;> by_cases h2 : (natL (val c * val b)).length ≤ 400 <;> by_cases h3 : (natL (val b * val d)).length ≤ 400
  · rw [bd_ok h1, bd_ok h2, bd_ok h3, if_pos ⟨h1, h2, h3⟩]
    show endS 0 (subS (natL _) (natL _)).2 (subS (natL _) (natL _)).1 (natL _) = _
    unfold subS
    rw [if_pos ⟨fmB_natL h1, fmB_natL h2⟩, val_natL p1, val_natL p2]
    by_cases h4 : val a * val d < val c * val b
    · rw [if_pos h4, if_pos h4]; rfl
    · rw [if_neg h4, if_neg h4]
      have l1 := val_lt_pw (natL_fm (val a * val d)).1
      rw [val_natL p1] at l1
      have l2 := natL_len_le (n := (natL (val a * val d)).length) (show 0 ≤ val a * val d - val c * val b by omega) (by omega)
      exact makeS_natL hq (by omega) h3
  all_goals first
    | (rw [bd_ok h1, bd_ok h2, bd_no h3, if_neg (fun h => h3 h.2.2)]; rfl)
    | (rw [bd_ok h1, bd_no h2, bd_ok h3, if_neg (fun h => h2 h.2.1)]; rfl)
    | (rw [bd_ok h1, bd_no h2, bd_no h3, if_neg (fun h => h2 h.2.1)]; rfl)
    | (rw [bd_no h1, bd_ok h2, bd_ok h3, if_neg (fun h => h1 h.1)]; rfl)
    | (rw [bd_no h1, bd_ok h2, bd_no h3, if_neg (fun h => h1 h.1)]; rfl)
    | (rw [bd_no h1, bd_no h2, bd_ok h3, if_neg (fun h => h1 h.1)]; rfl)
    | (rw [bd_no h1, bd_no h2, bd_no h3, if_neg (fun h => h1 h.1)]; rfl)
end
end Go.Proofs.Wk
/- Walks of the reference's fractions: reckoning. -/
namespace Go.Proofs.Wk
open Go.RowKit
set_option maxRecDepth 100000
attribute [local irreducible] Pw OpG
set_option linter.unusedVariables false
set_option linter.unusedSimpArgs false
def crossS (a b c d : List Int) : List Int × List Int × Int := if (natL (val a * val d)).length ≤ 400 ∧ (natL (val c * val b)).length ≤ 400 then (natL (val a * val d), natL (val c * val b), 0) else ([], [], 4)
theorem cross_ct (a b c d : List Int) (y z : Z2) (ha : Lm a) (hb : Lm b) (hc : Lm c) (hd : Lm d) (la : a.length < 1048576) (lb : b.length < 1048576) (lc : c.length < 1048576) (ld : d.length < 1048576) :
    Ct Try.prog 83 #[rt a b y, rt c d z] (fun W => R2 a b y W ∧ R2 c d z W) (fun x : Z2 => .tuple #[sl (crossS a b c d).1 x.1, sl (crossS a b c d).2.1 x.2, .int .i64 (crossS a b c d).2.2]) Tt (fun x => R2 (crossS a b c d).1 (crossS a b c d).2.1 x) := by
  refine Ct.start Try.func83 rfl rfl (slots_of rfl slots2) (fun D w0 => Pw.facts two2 ?_)
  unfold crossS
  repeat (first | (with_reducible first | refine Pw.seq ?_ | refine Pw.region ?_ | refine Pw.nil ?_ | refine Pw.then_ ?_ | refine Pw.skip ?_ | refine Pw.block ?_ | refine Pw.exit ?_ | refine Pw.inX ?_ | refine Pw.inN ?_ | refine Pw.inR ?_ | refine Pw.thenX ?_ | refine Pw.thenR ?_ | refine Pw.ret ?_) | refine Pw.list (Pw.pure rfl rfl rfl ?_) | refine Pw.inY rfl ?_ | refine Pw.list (Pw.off rfl rfl ?_) | refine Pw.condT rfl ?_ | refine Pw.condF rfl ?_ | refine Pw.list (Pw.box rfl rfl rfl rfl (fun _ => freeHead ?_)) | refine Pw.list (Pw.alloc rfl rfl rfl rfl rfl (fun _ => ?_)) | refine Pw.list (Pw.build rfl rfl rfl rfl ?_) | refine Pw.list (Pw.ld rfl inferInstance rfl rfl rfl ?_) | refine Pw.list (Pw.sto rfl rfl inferInstance rfl rfl rfl rfl rfl inferInstance rfl ?_))
  refine Pw.list (Pw.call (rmul_ct a d y.1 z.2 ha hd la ld) rfl rfl rfl (by kernel_rfl) rfl rfl (fun w h => ⟨(hv w h), (hv w h)⟩) ?_)
  intro z1 _
  repeat (first | (with_reducible first | refine Pw.seq ?_ | refine Pw.region ?_ | refine Pw.nil ?_ | refine Pw.then_ ?_ | refine Pw.skip ?_ | refine Pw.block ?_ | refine Pw.exit ?_ | refine Pw.inX ?_ | refine Pw.inN ?_ | refine Pw.inR ?_ | refine Pw.thenX ?_ | refine Pw.thenR ?_ | refine Pw.ret ?_) | refine Pw.list (Pw.pure rfl rfl rfl ?_) | refine Pw.inY rfl ?_ | refine Pw.list (Pw.off rfl rfl ?_) | refine Pw.condT rfl ?_ | refine Pw.condF rfl ?_ | refine Pw.list (Pw.box rfl rfl rfl rfl (fun _ => freeHead ?_)) | refine Pw.list (Pw.alloc rfl rfl rfl rfl rfl (fun _ => ?_)) | refine Pw.list (Pw.build rfl rfl rfl rfl ?_) | refine Pw.list (Pw.ld rfl inferInstance rfl rfl rfl ?_) | refine Pw.list (Pw.sto rfl rfl inferInstance rfl rfl rfl rfl rfl inferInstance rfl ?_))
  have hb1 := rbounded_ct (natL (val a * val d)) z1
  by_cases q1 : (natL (val a * val d)).length ≤ 400
  · rw [bd_ok q1] at hb1
    refine Pw.list (Pw.call hb1 rfl rfl rfl (by kernel_rfl) rfl rfl (fun w h => (hv w h)) ?_)
    intro z2 _
    repeat (first | (with_reducible first | refine Pw.seq ?_ | refine Pw.region ?_ | refine Pw.nil ?_ | refine Pw.then_ ?_ | refine Pw.skip ?_ | refine Pw.block ?_ | refine Pw.exit ?_ | refine Pw.inX ?_ | refine Pw.inN ?_ | refine Pw.inR ?_ | refine Pw.thenX ?_ | refine Pw.thenR ?_ | refine Pw.ret ?_) | refine Pw.list (Pw.pure rfl rfl rfl ?_) | refine Pw.inY rfl ?_ | refine Pw.list (Pw.off rfl rfl ?_) | refine Pw.condT rfl ?_ | refine Pw.condF rfl ?_ | refine Pw.list (Pw.box rfl rfl rfl rfl (fun _ => freeHead ?_)) | refine Pw.list (Pw.alloc rfl rfl rfl rfl rfl (fun _ => ?_)) | refine Pw.list (Pw.build rfl rfl rfl rfl ?_) | refine Pw.list (Pw.ld rfl inferInstance rfl rfl rfl ?_) | refine Pw.list (Pw.sto rfl rfl inferInstance rfl rfl rfl rfl rfl inferInstance rfl ?_))
    refine Pw.list (Pw.call (rmul_ct c b z.1 y.2 hc hb lc lb) rfl rfl rfl (by kernel_rfl) rfl rfl (fun w h => ⟨(hv w h), (hv w h)⟩) ?_)
    intro z3 _
    repeat (first | (with_reducible first | refine Pw.seq ?_ | refine Pw.region ?_ | refine Pw.nil ?_ | refine Pw.then_ ?_ | refine Pw.skip ?_ | refine Pw.block ?_ | refine Pw.exit ?_ | refine Pw.inX ?_ | refine Pw.inN ?_ | refine Pw.inR ?_ | refine Pw.thenX ?_ | refine Pw.thenR ?_ | refine Pw.ret ?_) | refine Pw.list (Pw.pure rfl rfl rfl ?_) | refine Pw.inY rfl ?_ | refine Pw.list (Pw.off rfl rfl ?_) | refine Pw.condT rfl ?_ | refine Pw.condF rfl ?_ | refine Pw.list (Pw.box rfl rfl rfl rfl (fun _ => freeHead ?_)) | refine Pw.list (Pw.alloc rfl rfl rfl rfl rfl (fun _ => ?_)) | refine Pw.list (Pw.build rfl rfl rfl rfl ?_) | refine Pw.list (Pw.ld rfl inferInstance rfl rfl rfl ?_) | refine Pw.list (Pw.sto rfl rfl inferInstance rfl rfl rfl rfl rfl inferInstance rfl ?_))
    have hb2 := rbounded_ct (natL (val c * val b)) z3
    by_cases q2 : (natL (val c * val b)).length ≤ 400
    · rw [bd_ok q2] at hb2
      rw [if_pos ⟨q1, q2⟩]
      refine Pw.list (Pw.call hb2 rfl rfl rfl (by kernel_rfl) rfl rfl (fun w h => (hv w h)) ?_)
      intro z4 _
      repeat (first | (with_reducible first | refine Pw.seq ?_ | refine Pw.region ?_ | refine Pw.nil ?_ | refine Pw.then_ ?_ | refine Pw.skip ?_ | refine Pw.block ?_ | refine Pw.exit ?_ | refine Pw.inX ?_ | refine Pw.inN ?_ | refine Pw.inR ?_ | refine Pw.thenX ?_ | refine Pw.thenR ?_ | refine Pw.ret ?_) | refine Pw.list (Pw.pure rfl rfl rfl ?_) | refine Pw.inY rfl ?_ | refine Pw.list (Pw.off rfl rfl ?_) | refine Pw.condT rfl ?_ | refine Pw.condF rfl ?_ | refine Pw.list (Pw.box rfl rfl rfl rfl (fun _ => freeHead ?_)) | refine Pw.list (Pw.alloc rfl rfl rfl rfl rfl (fun _ => ?_)) | refine Pw.list (Pw.build rfl rfl rfl rfl ?_) | refine Pw.list (Pw.ld rfl inferInstance rfl rfl rfl ?_) | refine Pw.list (Pw.sto rfl rfl inferInstance rfl rfl rfl rfl rfl inferInstance rfl ?_))
      exact Pw.ret_ (x := (z2, z4)) (.tmp rfl (.tmp rfl (.tmp rfl .nil))) rfl trivial (fun w h => ⟨(hv w h), (hv w h)⟩)
    · rw [bd_no q2] at hb2
      rw [if_neg (fun e => q2 e.2)]
      refine Pw.list (Pw.call hb2 rfl rfl rfl (by kernel_rfl) rfl rfl (fun w h => (hv w h)) ?_)
      intro z4 _
      repeat (first | (with_reducible first | refine Pw.seq ?_ | refine Pw.region ?_ | refine Pw.nil ?_ | refine Pw.then_ ?_ | refine Pw.skip ?_ | refine Pw.block ?_ | refine Pw.exit ?_ | refine Pw.inX ?_ | refine Pw.inN ?_ | refine Pw.inR ?_ | refine Pw.thenX ?_ | refine Pw.thenR ?_ | refine Pw.ret ?_) | refine Pw.list (Pw.pure rfl rfl rfl ?_) | refine Pw.inY rfl ?_ | refine Pw.list (Pw.off rfl rfl ?_) | refine Pw.condT rfl ?_ | refine Pw.condF rfl ?_ | refine Pw.list (Pw.box rfl rfl rfl rfl (fun _ => freeHead ?_)) | refine Pw.list (Pw.alloc rfl rfl rfl rfl rfl (fun _ => ?_)) | refine Pw.list (Pw.build rfl rfl rfl rfl ?_) | refine Pw.list (Pw.ld rfl inferInstance rfl rfl rfl ?_) | refine Pw.list (Pw.sto rfl rfl inferInstance rfl rfl rfl rfl rfl inferInstance rfl ?_))
      exact Pw.ret_ (x := z0) (.tmp rfl (.tmp rfl (.tmp rfl .nil))) rfl trivial (fun w h => R2.nil w)
  · rw [bd_no q1] at hb1
    rw [if_neg (fun e => q1 e.1)]
    refine Pw.list (Pw.call hb1 rfl rfl rfl (by kernel_rfl) rfl rfl (fun w h => (hv w h)) ?_)
    intro z2 _
    repeat (first | (with_reducible first | refine Pw.seq ?_ | refine Pw.region ?_ | refine Pw.nil ?_ | refine Pw.then_ ?_ | refine Pw.skip ?_ | refine Pw.block ?_ | refine Pw.exit ?_ | refine Pw.inX ?_ | refine Pw.inN ?_ | refine Pw.inR ?_ | refine Pw.thenX ?_ | refine Pw.thenR ?_ | refine Pw.ret ?_) | refine Pw.list (Pw.pure rfl rfl rfl ?_) | refine Pw.inY rfl ?_ | refine Pw.list (Pw.off rfl rfl ?_) | refine Pw.condT rfl ?_ | refine Pw.condF rfl ?_ | refine Pw.list (Pw.box rfl rfl rfl rfl (fun _ => freeHead ?_)) | refine Pw.list (Pw.alloc rfl rfl rfl rfl rfl (fun _ => ?_)) | refine Pw.list (Pw.build rfl rfl rfl rfl ?_) | refine Pw.list (Pw.ld rfl inferInstance rfl rfl rfl ?_) | refine Pw.list (Pw.sto rfl rfl inferInstance rfl rfl rfl rfl rfl inferInstance rfl ?_))
    refine Pw.list (Pw.call (rmul_ct c b z.1 y.2 hc hb lc lb) rfl rfl rfl (by kernel_rfl) rfl rfl (fun w h => ⟨(hv w h), (hv w h)⟩) ?_)
    intro z3 _
    repeat (first | (with_reducible first | refine Pw.seq ?_ | refine Pw.region ?_ | refine Pw.nil ?_ | refine Pw.then_ ?_ | refine Pw.skip ?_ | refine Pw.block ?_ | refine Pw.exit ?_ | refine Pw.inX ?_ | refine Pw.inN ?_ | refine Pw.inR ?_ | refine Pw.thenX ?_ | refine Pw.thenR ?_ | refine Pw.ret ?_) | refine Pw.list (Pw.pure rfl rfl rfl ?_) | refine Pw.inY rfl ?_ | refine Pw.list (Pw.off rfl rfl ?_) | refine Pw.condT rfl ?_ | refine Pw.condF rfl ?_ | refine Pw.list (Pw.box rfl rfl rfl rfl (fun _ => freeHead ?_)) | refine Pw.list (Pw.alloc rfl rfl rfl rfl rfl (fun _ => ?_)) | refine Pw.list (Pw.build rfl rfl rfl rfl ?_) | refine Pw.list (Pw.ld rfl inferInstance rfl rfl rfl ?_) | refine Pw.list (Pw.sto rfl rfl inferInstance rfl rfl rfl rfl rfl inferInstance rfl ?_))
    refine Pw.list (Pw.call (rbounded_ct (natL (val c * val b)) z3) rfl rfl rfl (by kernel_rfl) rfl rfl (fun w h => (hv w h)) ?_)
    intro z4 _
    repeat (first | (with_reducible first | refine Pw.seq ?_ | refine Pw.region ?_ | refine Pw.nil ?_ | refine Pw.then_ ?_ | refine Pw.skip ?_ | refine Pw.block ?_ | refine Pw.exit ?_ | refine Pw.inX ?_ | refine Pw.inN ?_ | refine Pw.inR ?_ | refine Pw.thenX ?_ | refine Pw.thenR ?_ | refine Pw.ret ?_) | refine Pw.list (Pw.pure rfl rfl rfl ?_) | refine Pw.inY rfl ?_ | refine Pw.list (Pw.off rfl rfl ?_) | refine Pw.condT rfl ?_ | refine Pw.condF rfl ?_ | refine Pw.list (Pw.box rfl rfl rfl rfl (fun _ => freeHead ?_)) | refine Pw.list (Pw.alloc rfl rfl rfl rfl rfl (fun _ => ?_)) | refine Pw.list (Pw.build rfl rfl rfl rfl ?_) | refine Pw.list (Pw.ld rfl inferInstance rfl rfl rfl ?_) | refine Pw.list (Pw.sto rfl rfl inferInstance rfl rfl rfl rfl rfl inferInstance rfl ?_))
    exact Pw.ret_ (x := z0) (.tmp rfl (.tmp rfl (.tmp rfl .nil))) rfl trivial (fun w h => R2.nil w)
theorem low_len {p q : Int} (hq : 0 < q) (h2 : (natL q).length ≤ 400) : (natL q).length ≠ 0 ∧ (natL q).length < 1048576 := ⟨fun e => by have := (natL_len_zero (show 0 ≤ q by omega)).1 e; omega, by omega⟩
theorem MulRatio_ct (a b c d : List Int) (y z : Z2) (ha : Lm a) (hb : Lm b) (hc : Lm c) (hd : Lm d) (la : a.length < 1048576) (lb : b.length < 1048576) (lc : c.length < 1048576) (ld : d.length < 1048576) :
    Ct Try.prog 31 #[rt a b y, rt c d z] (fun W => R2 a b y W ∧ R2 c d z W) (fun x : Z2 => .tuple #[rt (rmulS a b c d).1 (rmulS a b c d).2.1 x, .int .i64 (rmulS a b c d).2.2]) Tt (fun x => R2 (rmulS a b c d).1 (rmulS a b c d).2.1 x) := by
  refine Ct.start Try.func31 rfl rfl (slots_of rfl slots2) (fun D w0 => Pw.facts two2 ?_)
  have key := @rmulS_eq a b c d ha hb hc hd
  repeat (first | (with_reducible first | refine Pw.seq ?_ | refine Pw.region ?_ | refine Pw.nil ?_ | refine Pw.then_ ?_ | refine Pw.skip ?_ | refine Pw.block ?_ | refine Pw.exit ?_ | refine Pw.inX ?_ | refine Pw.inN ?_ | refine Pw.inR ?_ | refine Pw.thenX ?_ | refine Pw.thenR ?_ | refine Pw.ret ?_) | refine Pw.list (Pw.pure rfl rfl rfl ?_) | refine Pw.inY rfl ?_ | refine Pw.list (Pw.off rfl rfl ?_) | refine Pw.condT rfl ?_ | refine Pw.condF rfl ?_ | refine Pw.list (Pw.box rfl rfl rfl rfl (fun _ => freeHead ?_)) | refine Pw.list (Pw.alloc rfl rfl rfl rfl rfl (fun _ => ?_)) | refine Pw.list (Pw.build rfl rfl rfl rfl ?_) | refine Pw.list (Pw.ld rfl inferInstance rfl rfl rfl ?_) | refine Pw.list (Pw.sto rfl rfl inferInstance rfl rfl rfl rfl rfl inferInstance rfl ?_))
  refine Pw.list (Pw.call (FormedRatio_ct a b y ha hb la lb) rfl rfl rfl (by kernel_rfl) rfl rfl (fun w h => (hv w h)) ?_)
  intro _ _
  cases hf : formedR a b
  · rw [show rmulS a b c d = ([], [], 1) by unfold rmulS; rw [if_neg (by simp [hf])]]
    repeat (first | (with_reducible first | refine Pw.seq ?_ | refine Pw.region ?_ | refine Pw.nil ?_ | refine Pw.then_ ?_ | refine Pw.skip ?_ | refine Pw.block ?_ | refine Pw.exit ?_ | refine Pw.inX ?_ | refine Pw.inN ?_ | refine Pw.inR ?_ | refine Pw.thenX ?_ | refine Pw.thenR ?_ | refine Pw.ret ?_) | refine Pw.list (Pw.pure rfl rfl rfl ?_) | refine Pw.inY rfl ?_ | refine Pw.list (Pw.off rfl rfl ?_) | refine Pw.condT rfl ?_ | refine Pw.condF rfl ?_ | refine Pw.list (Pw.box rfl rfl rfl rfl (fun _ => freeHead ?_)) | refine Pw.list (Pw.alloc rfl rfl rfl rfl rfl (fun _ => ?_)) | refine Pw.list (Pw.build rfl rfl rfl rfl ?_) | refine Pw.list (Pw.ld rfl inferInstance rfl rfl rfl ?_) | refine Pw.list (Pw.sto rfl rfl inferInstance rfl rfl rfl rfl rfl inferInstance rfl ?_))
    exact Pw.ret_ (x := z0) (.cell rfl (fun w hs => hs.own _ (.head _)) rfl (.tmp rfl .nil)) rfl trivial (fun w h => R2.nil w)
  repeat (first | (with_reducible first | refine Pw.seq ?_ | refine Pw.region ?_ | refine Pw.nil ?_ | refine Pw.then_ ?_ | refine Pw.skip ?_ | refine Pw.block ?_ | refine Pw.exit ?_ | refine Pw.inX ?_ | refine Pw.inN ?_ | refine Pw.inR ?_ | refine Pw.thenX ?_ | refine Pw.thenR ?_ | refine Pw.ret ?_) | refine Pw.list (Pw.pure rfl rfl rfl ?_) | refine Pw.inY rfl ?_ | refine Pw.list (Pw.off rfl rfl ?_) | refine Pw.condT rfl ?_ | refine Pw.condF rfl ?_ | refine Pw.list (Pw.box rfl rfl rfl rfl (fun _ => freeHead ?_)) | refine Pw.list (Pw.alloc rfl rfl rfl rfl rfl (fun _ => ?_)) | refine Pw.list (Pw.build rfl rfl rfl rfl ?_) | refine Pw.list (Pw.ld rfl inferInstance rfl rfl rfl ?_) | refine Pw.list (Pw.sto rfl rfl inferInstance rfl rfl rfl rfl rfl inferInstance rfl ?_))
  refine Pw.list (Pw.call (FormedRatio_ct c d z hc hd lc ld) rfl rfl rfl (by kernel_rfl) rfl rfl (fun w h => (hv w h)) ?_)
  intro _ _
  cases hg : formedR c d
  · rw [show rmulS a b c d = ([], [], 1) by unfold rmulS; rw [if_neg (by simp [hg])]]
    repeat (first | (with_reducible first | refine Pw.seq ?_ | refine Pw.region ?_ | refine Pw.nil ?_ | refine Pw.then_ ?_ | refine Pw.skip ?_ | refine Pw.block ?_ | refine Pw.exit ?_ | refine Pw.inX ?_ | refine Pw.inN ?_ | refine Pw.inR ?_ | refine Pw.thenX ?_ | refine Pw.thenR ?_ | refine Pw.ret ?_) | refine Pw.list (Pw.pure rfl rfl rfl ?_) | refine Pw.inY rfl ?_ | refine Pw.list (Pw.off rfl rfl ?_) | refine Pw.condT rfl ?_ | refine Pw.condF rfl ?_ | refine Pw.list (Pw.box rfl rfl rfl rfl (fun _ => freeHead ?_)) | refine Pw.list (Pw.alloc rfl rfl rfl rfl rfl (fun _ => ?_)) | refine Pw.list (Pw.build rfl rfl rfl rfl ?_) | refine Pw.list (Pw.ld rfl inferInstance rfl rfl rfl ?_) | refine Pw.list (Pw.sto rfl rfl inferInstance rfl rfl rfl rfl rfl inferInstance rfl ?_))
    exact Pw.ret_ (x := z0) (.cell rfl (fun w hs => hs.own _ (.head _)) rfl (.tmp rfl .nil)) rfl trivial (fun w h => R2.nil w)
  rw [key hf hg]
  obtain ⟨f1, f2, f3, _⟩ := formedR_spec ha hb hf
  obtain ⟨g1, g2, g3, _⟩ := formedR_spec hc hd hg
  have hq := Int.mul_pos (fm_pos hb f2 f3) (fm_pos hd g2 g3)
  repeat (first | (with_reducible first | refine Pw.seq ?_ | refine Pw.region ?_ | refine Pw.nil ?_ | refine Pw.then_ ?_ | refine Pw.skip ?_ | refine Pw.block ?_ | refine Pw.exit ?_ | refine Pw.inX ?_ | refine Pw.inN ?_ | refine Pw.inR ?_ | refine Pw.thenX ?_ | refine Pw.thenR ?_ | refine Pw.ret ?_) | refine Pw.list (Pw.pure rfl rfl rfl ?_) | refine Pw.inY rfl ?_ | refine Pw.list (Pw.off rfl rfl ?_) | refine Pw.condT rfl ?_ | refine Pw.condF rfl ?_ | refine Pw.list (Pw.box rfl rfl rfl rfl (fun _ => freeHead ?_)) | refine Pw.list (Pw.alloc rfl rfl rfl rfl rfl (fun _ => ?_)) | refine Pw.list (Pw.build rfl rfl rfl rfl ?_) | refine Pw.list (Pw.ld rfl inferInstance rfl rfl rfl ?_) | refine Pw.list (Pw.sto rfl rfl inferInstance rfl rfl rfl rfl rfl inferInstance rfl ?_))
  refine Pw.list (Pw.call (rmul_ct a c y.1 z.1 ha hc la lc) rfl rfl rfl (by kernel_rfl) rfl rfl (fun w h => ⟨(hv w h), (hv w h)⟩) ?_)
  intro z1 _
  repeat (first | (with_reducible first | refine Pw.seq ?_ | refine Pw.region ?_ | refine Pw.nil ?_ | refine Pw.then_ ?_ | refine Pw.skip ?_ | refine Pw.block ?_ | refine Pw.exit ?_ | refine Pw.inX ?_ | refine Pw.inN ?_ | refine Pw.inR ?_ | refine Pw.thenX ?_ | refine Pw.thenR ?_ | refine Pw.ret ?_) | refine Pw.list (Pw.pure rfl rfl rfl ?_) | refine Pw.inY rfl ?_ | refine Pw.list (Pw.off rfl rfl ?_) | refine Pw.condT rfl ?_ | refine Pw.condF rfl ?_ | refine Pw.list (Pw.box rfl rfl rfl rfl (fun _ => freeHead ?_)) | refine Pw.list (Pw.alloc rfl rfl rfl rfl rfl (fun _ => ?_)) | refine Pw.list (Pw.build rfl rfl rfl rfl ?_) | refine Pw.list (Pw.ld rfl inferInstance rfl rfl rfl ?_) | refine Pw.list (Pw.sto rfl rfl inferInstance rfl rfl rfl rfl rfl inferInstance rfl ?_))
  have hb1 := rbounded_ct (natL (val a * val c)) z1
  by_cases q1 : (natL (val a * val c)).length ≤ 400
  · rw [bd_ok q1] at hb1
    refine Pw.list (Pw.call hb1 rfl rfl rfl (by kernel_rfl) rfl rfl (fun w h => (hv w h)) ?_)
    intro z2 _
    repeat (first | (with_reducible first | refine Pw.seq ?_ | refine Pw.region ?_ | refine Pw.nil ?_ | refine Pw.then_ ?_ | refine Pw.skip ?_ | refine Pw.block ?_ | refine Pw.exit ?_ | refine Pw.inX ?_ | refine Pw.inN ?_ | refine Pw.inR ?_ | refine Pw.thenX ?_ | refine Pw.thenR ?_ | refine Pw.ret ?_) | refine Pw.list (Pw.pure rfl rfl rfl ?_) | refine Pw.inY rfl ?_ | refine Pw.list (Pw.off rfl rfl ?_) | refine Pw.condT rfl ?_ | refine Pw.condF rfl ?_ | refine Pw.list (Pw.box rfl rfl rfl rfl (fun _ => freeHead ?_)) | refine Pw.list (Pw.alloc rfl rfl rfl rfl rfl (fun _ => ?_)) | refine Pw.list (Pw.build rfl rfl rfl rfl ?_) | refine Pw.list (Pw.ld rfl inferInstance rfl rfl rfl ?_) | refine Pw.list (Pw.sto rfl rfl inferInstance rfl rfl rfl rfl rfl inferInstance rfl ?_))
    refine Pw.list (Pw.call (rmul_ct b d y.2 z.2 hb hd lb ld) rfl rfl rfl (by kernel_rfl) rfl rfl (fun w h => ⟨(hv w h), (hv w h)⟩) ?_)
    intro z3 _
    repeat (first | (with_reducible first | refine Pw.seq ?_ | refine Pw.region ?_ | refine Pw.nil ?_ | refine Pw.then_ ?_ | refine Pw.skip ?_ | refine Pw.block ?_ | refine Pw.exit ?_ | refine Pw.inX ?_ | refine Pw.inN ?_ | refine Pw.inR ?_ | refine Pw.thenX ?_ | refine Pw.thenR ?_ | refine Pw.ret ?_) | refine Pw.list (Pw.pure rfl rfl rfl ?_) | refine Pw.inY rfl ?_ | refine Pw.list (Pw.off rfl rfl ?_) | refine Pw.condT rfl ?_ | refine Pw.condF rfl ?_ | refine Pw.list (Pw.box rfl rfl rfl rfl (fun _ => freeHead ?_)) | refine Pw.list (Pw.alloc rfl rfl rfl rfl rfl (fun _ => ?_)) | refine Pw.list (Pw.build rfl rfl rfl rfl ?_) | refine Pw.list (Pw.ld rfl inferInstance rfl rfl rfl ?_) | refine Pw.list (Pw.sto rfl rfl inferInstance rfl rfl rfl rfl rfl inferInstance rfl ?_))
    have hb2 := rbounded_ct (natL (val b * val d)) z3
    by_cases q2 : (natL (val b * val d)).length ≤ 400
    · rw [bd_ok q2] at hb2
      rw [if_pos ⟨q1, q2⟩]
      have hl := low_len (p := 0) hq q2
      refine Pw.list (Pw.call hb2 rfl rfl rfl (by kernel_rfl) rfl rfl (fun w h => (hv w h)) ?_)
      intro z4 _
      repeat (first | (with_reducible first | refine Pw.seq ?_ | refine Pw.region ?_ | refine Pw.nil ?_ | refine Pw.then_ ?_ | refine Pw.skip ?_ | refine Pw.block ?_ | refine Pw.exit ?_ | refine Pw.inX ?_ | refine Pw.inN ?_ | refine Pw.inR ?_ | refine Pw.thenX ?_ | refine Pw.thenR ?_ | refine Pw.ret ?_) | refine Pw.list (Pw.pure rfl rfl rfl ?_) | refine Pw.inY rfl ?_ | refine Pw.list (Pw.off rfl rfl ?_) | refine Pw.condT rfl ?_ | refine Pw.condF rfl ?_ | refine Pw.list (Pw.box rfl rfl rfl rfl (fun _ => freeHead ?_)) | refine Pw.list (Pw.alloc rfl rfl rfl rfl rfl (fun _ => ?_)) | refine Pw.list (Pw.build rfl rfl rfl rfl ?_) | refine Pw.list (Pw.ld rfl inferInstance rfl rfl rfl ?_) | refine Pw.list (Pw.sto rfl rfl inferInstance rfl rfl rfl rfl rfl inferInstance rfl ?_))
      refine Pw.list (Pw.call (lowest_ct (natL (val a * val c)) (natL (val b * val d)) z2 z4 (natL_fm _) (natL_fm _) hl.1 (by omega) hl.2) rfl rfl rfl (by kernel_rfl) rfl rfl (fun w h => ⟨(hv w h), (hv w h)⟩) ?_)
      intro z5 _
      repeat (first | (with_reducible first | refine Pw.seq ?_ | refine Pw.region ?_ | refine Pw.nil ?_ | refine Pw.then_ ?_ | refine Pw.skip ?_ | refine Pw.block ?_ | refine Pw.exit ?_ | refine Pw.inX ?_ | refine Pw.inN ?_ | refine Pw.inR ?_ | refine Pw.thenX ?_ | refine Pw.thenR ?_ | refine Pw.ret ?_) | refine Pw.list (Pw.pure rfl rfl rfl ?_) | refine Pw.inY rfl ?_ | refine Pw.list (Pw.off rfl rfl ?_) | refine Pw.condT rfl ?_ | refine Pw.condF rfl ?_ | refine Pw.list (Pw.box rfl rfl rfl rfl (fun _ => freeHead ?_)) | refine Pw.list (Pw.alloc rfl rfl rfl rfl rfl (fun _ => ?_)) | refine Pw.list (Pw.build rfl rfl rfl rfl ?_) | refine Pw.list (Pw.ld rfl inferInstance rfl rfl rfl ?_) | refine Pw.list (Pw.sto rfl rfl inferInstance rfl rfl rfl rfl rfl inferInstance rfl ?_))
      exact Pw.ret_ (x := z5) (.cell rfl (fun w hs => hs.own _ (.head _)) rfl (.tmp rfl .nil)) rfl trivial (fun w h => fact0 h)
    · rw [bd_no q2] at hb2
      rw [if_neg (fun e => q2 e.2)]
      refine Pw.list (Pw.call hb2 rfl rfl rfl (by kernel_rfl) rfl rfl (fun w h => (hv w h)) ?_)
      intro z4 _
      repeat (first | (with_reducible first | refine Pw.seq ?_ | refine Pw.region ?_ | refine Pw.nil ?_ | refine Pw.then_ ?_ | refine Pw.skip ?_ | refine Pw.block ?_ | refine Pw.exit ?_ | refine Pw.inX ?_ | refine Pw.inN ?_ | refine Pw.inR ?_ | refine Pw.thenX ?_ | refine Pw.thenR ?_ | refine Pw.ret ?_) | refine Pw.list (Pw.pure rfl rfl rfl ?_) | refine Pw.inY rfl ?_ | refine Pw.list (Pw.off rfl rfl ?_) | refine Pw.condT rfl ?_ | refine Pw.condF rfl ?_ | refine Pw.list (Pw.box rfl rfl rfl rfl (fun _ => freeHead ?_)) | refine Pw.list (Pw.alloc rfl rfl rfl rfl rfl (fun _ => ?_)) | refine Pw.list (Pw.build rfl rfl rfl rfl ?_) | refine Pw.list (Pw.ld rfl inferInstance rfl rfl rfl ?_) | refine Pw.list (Pw.sto rfl rfl inferInstance rfl rfl rfl rfl rfl inferInstance rfl ?_))
      exact Pw.ret_ (x := z0) (.cell rfl (fun w hs => hs.own _ (.head _)) rfl (.tmp rfl .nil)) rfl trivial (fun w h => R2.nil w)
  · rw [bd_no q1] at hb1
    rw [if_neg (fun e => q1 e.1)]
    refine Pw.list (Pw.call hb1 rfl rfl rfl (by kernel_rfl) rfl rfl (fun w h => (hv w h)) ?_)
    intro z2 _
    repeat (first | (with_reducible first | refine Pw.seq ?_ | refine Pw.region ?_ | refine Pw.nil ?_ | refine Pw.then_ ?_ | refine Pw.skip ?_ | refine Pw.block ?_ | refine Pw.exit ?_ | refine Pw.inX ?_ | refine Pw.inN ?_ | refine Pw.inR ?_ | refine Pw.thenX ?_ | refine Pw.thenR ?_ | refine Pw.ret ?_) | refine Pw.list (Pw.pure rfl rfl rfl ?_) | refine Pw.inY rfl ?_ | refine Pw.list (Pw.off rfl rfl ?_) | refine Pw.condT rfl ?_ | refine Pw.condF rfl ?_ | refine Pw.list (Pw.box rfl rfl rfl rfl (fun _ => freeHead ?_)) | refine Pw.list (Pw.alloc rfl rfl rfl rfl rfl (fun _ => ?_)) | refine Pw.list (Pw.build rfl rfl rfl rfl ?_) | refine Pw.list (Pw.ld rfl inferInstance rfl rfl rfl ?_) | refine Pw.list (Pw.sto rfl rfl inferInstance rfl rfl rfl rfl rfl inferInstance rfl ?_))
    refine Pw.list (Pw.call (rmul_ct b d y.2 z.2 hb hd lb ld) rfl rfl rfl (by kernel_rfl) rfl rfl (fun w h => ⟨(hv w h), (hv w h)⟩) ?_)
    intro z3 _
    repeat (first | (with_reducible first | refine Pw.seq ?_ | refine Pw.region ?_ | refine Pw.nil ?_ | refine Pw.then_ ?_ | refine Pw.skip ?_ | refine Pw.block ?_ | refine Pw.exit ?_ | refine Pw.inX ?_ | refine Pw.inN ?_ | refine Pw.inR ?_ | refine Pw.thenX ?_ | refine Pw.thenR ?_ | refine Pw.ret ?_) | refine Pw.list (Pw.pure rfl rfl rfl ?_) | refine Pw.inY rfl ?_ | refine Pw.list (Pw.off rfl rfl ?_) | refine Pw.condT rfl ?_ | refine Pw.condF rfl ?_ | refine Pw.list (Pw.box rfl rfl rfl rfl (fun _ => freeHead ?_)) | refine Pw.list (Pw.alloc rfl rfl rfl rfl rfl (fun _ => ?_)) | refine Pw.list (Pw.build rfl rfl rfl rfl ?_) | refine Pw.list (Pw.ld rfl inferInstance rfl rfl rfl ?_) | refine Pw.list (Pw.sto rfl rfl inferInstance rfl rfl rfl rfl rfl inferInstance rfl ?_))
    refine Pw.list (Pw.call (rbounded_ct (natL (val b * val d)) z3) rfl rfl rfl (by kernel_rfl) rfl rfl (fun w h => (hv w h)) ?_)
    intro z4 _
    repeat (first | (with_reducible first | refine Pw.seq ?_ | refine Pw.region ?_ | refine Pw.nil ?_ | refine Pw.then_ ?_ | refine Pw.skip ?_ | refine Pw.block ?_ | refine Pw.exit ?_ | refine Pw.inX ?_ | refine Pw.inN ?_ | refine Pw.inR ?_ | refine Pw.thenX ?_ | refine Pw.thenR ?_ | refine Pw.ret ?_) | refine Pw.list (Pw.pure rfl rfl rfl ?_) | refine Pw.inY rfl ?_ | refine Pw.list (Pw.off rfl rfl ?_) | refine Pw.condT rfl ?_ | refine Pw.condF rfl ?_ | refine Pw.list (Pw.box rfl rfl rfl rfl (fun _ => freeHead ?_)) | refine Pw.list (Pw.alloc rfl rfl rfl rfl rfl (fun _ => ?_)) | refine Pw.list (Pw.build rfl rfl rfl rfl ?_) | refine Pw.list (Pw.ld rfl inferInstance rfl rfl rfl ?_) | refine Pw.list (Pw.sto rfl rfl inferInstance rfl rfl rfl rfl rfl inferInstance rfl ?_))
    exact Pw.ret_ (x := z0) (.cell rfl (fun w hs => hs.own _ (.head _)) rfl (.tmp rfl .nil)) rfl trivial (fun w h => R2.nil w)
theorem rDivRatio_ct (a b c d : List Int) (y z : Z2) (ha : Lm a) (hb : Lm b) (hc : Lm c) (hd : Lm d) (la : a.length < 1048576) (lb : b.length < 1048576) (lc : c.length < 1048576) (ld : d.length < 1048576) :
    Ct Try.prog 33 #[rt a b y, rt c d z] (fun W => R2 a b y W ∧ R2 c d z W) (fun x : Z2 => .tuple #[rt (rdivS a b c d).1 (rdivS a b c d).2.1 x, .int .i64 (rdivS a b c d).2.2]) Tt (fun x => R2 (rdivS a b c d).1 (rdivS a b c d).2.1 x) := by
  refine Ct.start Try.func33 rfl rfl (slots_of rfl slots2) (fun D w0 => Pw.facts two2 ?_)
  unfold rdivS
  repeat (first | (with_reducible first | refine Pw.seq ?_ | refine Pw.region ?_ | refine Pw.nil ?_ | refine Pw.then_ ?_ | refine Pw.skip ?_ | refine Pw.block ?_ | refine Pw.exit ?_ | refine Pw.inX ?_ | refine Pw.inN ?_ | refine Pw.inR ?_ | refine Pw.thenX ?_ | refine Pw.thenR ?_ | refine Pw.ret ?_) | refine Pw.list (Pw.pure rfl rfl rfl ?_) | refine Pw.inY rfl ?_ | refine Pw.list (Pw.off rfl rfl ?_) | refine Pw.condT rfl ?_ | refine Pw.condF rfl ?_ | refine Pw.list (Pw.box rfl rfl rfl rfl (fun _ => freeHead ?_)) | refine Pw.list (Pw.alloc rfl rfl rfl rfl rfl (fun _ => ?_)) | refine Pw.list (Pw.build rfl rfl rfl rfl ?_) | refine Pw.list (Pw.ld rfl inferInstance rfl rfl rfl ?_) | refine Pw.list (Pw.sto rfl rfl inferInstance rfl rfl rfl rfl rfl inferInstance rfl ?_))
  refine Pw.list (Pw.call (FormedRatio_ct a b y ha hb la lb) rfl rfl rfl (by kernel_rfl) rfl rfl (fun w h => (hv w h)) ?_)
  intro _ _
  cases hf : formedR a b
  · rw [if_neg (by simp [hf])]
    repeat (first | (with_reducible first | refine Pw.seq ?_ | refine Pw.region ?_ | refine Pw.nil ?_ | refine Pw.then_ ?_ | refine Pw.skip ?_ | refine Pw.block ?_ | refine Pw.exit ?_ | refine Pw.inX ?_ | refine Pw.inN ?_ | refine Pw.inR ?_ | refine Pw.thenX ?_ | refine Pw.thenR ?_ | refine Pw.ret ?_) | refine Pw.list (Pw.pure rfl rfl rfl ?_) | refine Pw.inY rfl ?_ | refine Pw.list (Pw.off rfl rfl ?_) | refine Pw.condT rfl ?_ | refine Pw.condF rfl ?_ | refine Pw.list (Pw.box rfl rfl rfl rfl (fun _ => freeHead ?_)) | refine Pw.list (Pw.alloc rfl rfl rfl rfl rfl (fun _ => ?_)) | refine Pw.list (Pw.build rfl rfl rfl rfl ?_) | refine Pw.list (Pw.ld rfl inferInstance rfl rfl rfl ?_) | refine Pw.list (Pw.sto rfl rfl inferInstance rfl rfl rfl rfl rfl inferInstance rfl ?_))
    exact Pw.ret_ (x := z0) (.cell rfl (fun w hs => hs.own _ (.head _)) rfl (.tmp rfl .nil)) rfl trivial (fun w h => R2.nil w)
  repeat (first | (with_reducible first | refine Pw.seq ?_ | refine Pw.region ?_ | refine Pw.nil ?_ | refine Pw.then_ ?_ | refine Pw.skip ?_ | refine Pw.block ?_ | refine Pw.exit ?_ | refine Pw.inX ?_ | refine Pw.inN ?_ | refine Pw.inR ?_ | refine Pw.thenX ?_ | refine Pw.thenR ?_ | refine Pw.ret ?_) | refine Pw.list (Pw.pure rfl rfl rfl ?_) | refine Pw.inY rfl ?_ | refine Pw.list (Pw.off rfl rfl ?_) | refine Pw.condT rfl ?_ | refine Pw.condF rfl ?_ | refine Pw.list (Pw.box rfl rfl rfl rfl (fun _ => freeHead ?_)) | refine Pw.list (Pw.alloc rfl rfl rfl rfl rfl (fun _ => ?_)) | refine Pw.list (Pw.build rfl rfl rfl rfl ?_) | refine Pw.list (Pw.ld rfl inferInstance rfl rfl rfl ?_) | refine Pw.list (Pw.sto rfl rfl inferInstance rfl rfl rfl rfl rfl inferInstance rfl ?_))
  refine Pw.list (Pw.call (FormedRatio_ct c d z hc hd lc ld) rfl rfl rfl (by kernel_rfl) rfl rfl (fun w h => (hv w h)) ?_)
  intro _ _
  cases hg : formedR c d
  · rw [if_neg (by simp [hg])]
    repeat (first | (with_reducible first | refine Pw.seq ?_ | refine Pw.region ?_ | refine Pw.nil ?_ | refine Pw.then_ ?_ | refine Pw.skip ?_ | refine Pw.block ?_ | refine Pw.exit ?_ | refine Pw.inX ?_ | refine Pw.inN ?_ | refine Pw.inR ?_ | refine Pw.thenX ?_ | refine Pw.thenR ?_ | refine Pw.ret ?_) | refine Pw.list (Pw.pure rfl rfl rfl ?_) | refine Pw.inY rfl ?_ | refine Pw.list (Pw.off rfl rfl ?_) | refine Pw.condT rfl ?_ | refine Pw.condF rfl ?_ | refine Pw.list (Pw.box rfl rfl rfl rfl (fun _ => freeHead ?_)) | refine Pw.list (Pw.alloc rfl rfl rfl rfl rfl (fun _ => ?_)) | refine Pw.list (Pw.build rfl rfl rfl rfl ?_) | refine Pw.list (Pw.ld rfl inferInstance rfl rfl rfl ?_) | refine Pw.list (Pw.sto rfl rfl inferInstance rfl rfl rfl rfl rfl inferInstance rfl ?_))
    exact Pw.ret_ (x := z0) (.cell rfl (fun w hs => hs.own _ (.head _)) rfl (.tmp rfl .nil)) rfl trivial (fun w h => R2.nil w)
  rw [if_pos (by simp [hf, hg])]
  repeat (first | (with_reducible first | refine Pw.seq ?_ | refine Pw.region ?_ | refine Pw.nil ?_ | refine Pw.then_ ?_ | refine Pw.skip ?_ | refine Pw.block ?_ | refine Pw.exit ?_ | refine Pw.inX ?_ | refine Pw.inN ?_ | refine Pw.inR ?_ | refine Pw.thenX ?_ | refine Pw.thenR ?_ | refine Pw.ret ?_) | refine Pw.list (Pw.pure rfl rfl rfl ?_) | refine Pw.inY rfl ?_ | refine Pw.list (Pw.off rfl rfl ?_) | refine Pw.condT rfl ?_ | refine Pw.condF rfl ?_ | refine Pw.list (Pw.box rfl rfl rfl rfl (fun _ => freeHead ?_)) | refine Pw.list (Pw.alloc rfl rfl rfl rfl rfl (fun _ => ?_)) | refine Pw.list (Pw.build rfl rfl rfl rfl ?_) | refine Pw.list (Pw.ld rfl inferInstance rfl rfl rfl ?_) | refine Pw.list (Pw.sto rfl rfl inferInstance rfl rfl rfl rfl rfl inferInstance rfl ?_))
  refine Pw.condD rfl (fun c1 => ?_) (fun c1 => ?_)
  · rw [if_pos (by omega)]
    repeat (first | (with_reducible first | refine Pw.seq ?_ | refine Pw.region ?_ | refine Pw.nil ?_ | refine Pw.then_ ?_ | refine Pw.skip ?_ | refine Pw.block ?_ | refine Pw.exit ?_ | refine Pw.inX ?_ | refine Pw.inN ?_ | refine Pw.inR ?_ | refine Pw.thenX ?_ | refine Pw.thenR ?_ | refine Pw.ret ?_) | refine Pw.list (Pw.pure rfl rfl rfl ?_) | refine Pw.inY rfl ?_ | refine Pw.list (Pw.off rfl rfl ?_) | refine Pw.condT rfl ?_ | refine Pw.condF rfl ?_ | refine Pw.list (Pw.box rfl rfl rfl rfl (fun _ => freeHead ?_)) | refine Pw.list (Pw.alloc rfl rfl rfl rfl rfl (fun _ => ?_)) | refine Pw.list (Pw.build rfl rfl rfl rfl ?_) | refine Pw.list (Pw.ld rfl inferInstance rfl rfl rfl ?_) | refine Pw.list (Pw.sto rfl rfl inferInstance rfl rfl rfl rfl rfl inferInstance rfl ?_))
    exact Pw.ret_ (x := z0) (.cell rfl (fun w hs => hs.own _ (.head _)) rfl (.tmp rfl .nil)) rfl trivial (fun w h => R2.nil w)
  · rw [if_neg (by omega)]
    repeat (first | (with_reducible first | refine Pw.seq ?_ | refine Pw.region ?_ | refine Pw.nil ?_ | refine Pw.then_ ?_ | refine Pw.skip ?_ | refine Pw.block ?_ | refine Pw.exit ?_ | refine Pw.inX ?_ | refine Pw.inN ?_ | refine Pw.inR ?_ | refine Pw.thenX ?_ | refine Pw.thenR ?_ | refine Pw.ret ?_) | refine Pw.list (Pw.pure rfl rfl rfl ?_) | refine Pw.inY rfl ?_ | refine Pw.list (Pw.off rfl rfl ?_) | refine Pw.condT rfl ?_ | refine Pw.condF rfl ?_ | refine Pw.list (Pw.box rfl rfl rfl rfl (fun _ => freeHead ?_)) | refine Pw.list (Pw.alloc rfl rfl rfl rfl rfl (fun _ => ?_)) | refine Pw.list (Pw.build rfl rfl rfl rfl ?_) | refine Pw.list (Pw.ld rfl inferInstance rfl rfl rfl ?_) | refine Pw.list (Pw.sto rfl rfl inferInstance rfl rfl rfl rfl rfl inferInstance rfl ?_))
    refine Pw.list (Pw.call (MulRatio_ct a b d c y (z.2, z.1) ha hb hd hc la lb ld lc) rfl rfl rfl (by kernel_rfl) rfl rfl (fun w h => ⟨(hv w h), (And.intro (hv w h) (hv w h) : R2 d c (z.2, z.1) w)⟩) ?_)
    intro x _
    repeat (first | (with_reducible first | refine Pw.seq ?_ | refine Pw.region ?_ | refine Pw.nil ?_ | refine Pw.then_ ?_ | refine Pw.skip ?_ | refine Pw.block ?_ | refine Pw.exit ?_ | refine Pw.inX ?_ | refine Pw.inN ?_ | refine Pw.inR ?_ | refine Pw.thenX ?_ | refine Pw.thenR ?_ | refine Pw.ret ?_) | refine Pw.list (Pw.pure rfl rfl rfl ?_) | refine Pw.inY rfl ?_ | refine Pw.list (Pw.off rfl rfl ?_) | refine Pw.condT rfl ?_ | refine Pw.condF rfl ?_ | refine Pw.list (Pw.box rfl rfl rfl rfl (fun _ => freeHead ?_)) | refine Pw.list (Pw.alloc rfl rfl rfl rfl rfl (fun _ => ?_)) | refine Pw.list (Pw.build rfl rfl rfl rfl ?_) | refine Pw.list (Pw.ld rfl inferInstance rfl rfl rfl ?_) | refine Pw.list (Pw.sto rfl rfl inferInstance rfl rfl rfl rfl rfl inferInstance rfl ?_))
    exact Pw.ret_ (x := x) (.cell rfl (fun w hs => hs.own _ (.head _)) rfl (.tmp rfl .nil)) rfl trivial (fun w h => fact0 h)
theorem rFloor_ct (a b : List Int) (z : Z2) (ha : Lm a) (hb : Lm b) (la : a.length < 1048576) (lb : b.length < 1048576) :
    Ct Try.prog 35 #[rt a b z] (R2 a b z) (fun x : Option Addr × Nat => .tuple #[sl (rfloorS a b).1 x, .int .i64 (rfloorS a b).2]) Tt (fun x => S1 (rfloorS a b).1 x) := by
  refine Ct.start Try.func35 rfl rfl (slots_of rfl slots1) (fun D w0 => ?_)
  unfold rfloorS
  repeat (first | (with_reducible first | refine Pw.seq ?_ | refine Pw.region ?_ | refine Pw.nil ?_ | refine Pw.then_ ?_ | refine Pw.skip ?_ | refine Pw.block ?_ | refine Pw.exit ?_ | refine Pw.inX ?_ | refine Pw.inN ?_ | refine Pw.inR ?_ | refine Pw.thenX ?_ | refine Pw.thenR ?_ | refine Pw.ret ?_) | refine Pw.list (Pw.pure rfl rfl rfl ?_) | refine Pw.inY rfl ?_ | refine Pw.list (Pw.off rfl rfl ?_) | refine Pw.condT rfl ?_ | refine Pw.condF rfl ?_ | refine Pw.list (Pw.box rfl rfl rfl rfl (fun _ => freeHead ?_)) | refine Pw.list (Pw.alloc rfl rfl rfl rfl rfl (fun _ => ?_)) | refine Pw.list (Pw.build rfl rfl rfl rfl ?_) | refine Pw.list (Pw.ld rfl inferInstance rfl rfl rfl ?_) | refine Pw.list (Pw.sto rfl rfl inferInstance rfl rfl rfl rfl rfl inferInstance rfl ?_))
  refine Pw.list (Pw.call (FormedRatio_ct a b z ha hb la lb) rfl rfl rfl (by kernel_rfl) rfl rfl (fun w h => (hv w h)) ?_)
  intro _ _
  cases e : formedR a b
  · rw [if_neg (by simp)]
    repeat (first | (with_reducible first | refine Pw.seq ?_ | refine Pw.region ?_ | refine Pw.nil ?_ | refine Pw.then_ ?_ | refine Pw.skip ?_ | refine Pw.block ?_ | refine Pw.exit ?_ | refine Pw.inX ?_ | refine Pw.inN ?_ | refine Pw.inR ?_ | refine Pw.thenX ?_ | refine Pw.thenR ?_ | refine Pw.ret ?_) | refine Pw.list (Pw.pure rfl rfl rfl ?_) | refine Pw.inY rfl ?_ | refine Pw.list (Pw.off rfl rfl ?_) | refine Pw.condT rfl ?_ | refine Pw.condF rfl ?_ | refine Pw.list (Pw.box rfl rfl rfl rfl (fun _ => freeHead ?_)) | refine Pw.list (Pw.alloc rfl rfl rfl rfl rfl (fun _ => ?_)) | refine Pw.list (Pw.build rfl rfl rfl rfl ?_) | refine Pw.list (Pw.ld rfl inferInstance rfl rfl rfl ?_) | refine Pw.list (Pw.sto rfl rfl inferInstance rfl rfl rfl rfl rfl inferInstance rfl ?_))
    exact Pw.ret_ (x := (none, 0)) (.tmp rfl (.tmp rfl .nil)) rfl trivial (fun w h => Rows.nil _ _ _ _ _)
  rw [if_pos rfl]
  obtain ⟨h1, h2, h3, _⟩ := formedR_spec ha hb e
  repeat (first | (with_reducible first | refine Pw.seq ?_ | refine Pw.region ?_ | refine Pw.nil ?_ | refine Pw.then_ ?_ | refine Pw.skip ?_ | refine Pw.block ?_ | refine Pw.exit ?_ | refine Pw.inX ?_ | refine Pw.inN ?_ | refine Pw.inR ?_ | refine Pw.thenX ?_ | refine Pw.thenR ?_ | refine Pw.ret ?_) | refine Pw.list (Pw.pure rfl rfl rfl ?_) | refine Pw.inY rfl ?_ | refine Pw.list (Pw.off rfl rfl ?_) | refine Pw.condT rfl ?_ | refine Pw.condF rfl ?_ | refine Pw.list (Pw.box rfl rfl rfl rfl (fun _ => freeHead ?_)) | refine Pw.list (Pw.alloc rfl rfl rfl rfl rfl (fun _ => ?_)) | refine Pw.list (Pw.build rfl rfl rfl rfl ?_) | refine Pw.list (Pw.ld rfl inferInstance rfl rfl rfl ?_) | refine Pw.list (Pw.sto rfl rfl inferInstance rfl rfl rfl rfl rfl inferInstance rfl ?_))
  refine Pw.list (Pw.call (rdivMod_ct a b z.1 z.2 ((fmB_iff ha).1 h1).2 ((fmB_iff hb).1 h2).2 (by omega) la lb) rfl rfl rfl (by kernel_rfl) rfl rfl (fun w h => ⟨(hv w h), (hv w h)⟩) ?_)
  intro z1 _
  repeat (first | (with_reducible first | refine Pw.seq ?_ | refine Pw.region ?_ | refine Pw.nil ?_ | refine Pw.then_ ?_ | refine Pw.skip ?_ | refine Pw.block ?_ | refine Pw.exit ?_ | refine Pw.inX ?_ | refine Pw.inN ?_ | refine Pw.inR ?_ | refine Pw.thenX ?_ | refine Pw.thenR ?_ | refine Pw.ret ?_) | refine Pw.list (Pw.pure rfl rfl rfl ?_) | refine Pw.inY rfl ?_ | refine Pw.list (Pw.off rfl rfl ?_) | refine Pw.condT rfl ?_ | refine Pw.condF rfl ?_ | refine Pw.list (Pw.box rfl rfl rfl rfl (fun _ => freeHead ?_)) | refine Pw.list (Pw.alloc rfl rfl rfl rfl rfl (fun _ => ?_)) | refine Pw.list (Pw.build rfl rfl rfl rfl ?_) | refine Pw.list (Pw.ld rfl inferInstance rfl rfl rfl ?_) | refine Pw.list (Pw.sto rfl rfl inferInstance rfl rfl rfl rfl rfl inferInstance rfl ?_))
  exact Pw.ret_ (x := z1.1) (.tmp rfl (.tmp rfl .nil)) rfl trivial (fun w h => (fact0 h).1)
end Go.Proofs.Wk
/- Walks of the laws of layer 2: their helpers. -/
namespace Go.Proofs.Wk
open Go.RowKit
set_option maxRecDepth 100000
attribute [local irreducible] Pw OpG
set_option linter.unusedVariables false
set_option linter.unusedSimpArgs false
theorem natL_3 : natL 3 = [3] := by rw [natL_cons (by omega), show (3 : Int) / 4294967296 = 0 by decide, natL_zero]; rfl
theorem natL_2 : natL 2 = [2] := by rw [natL_cons (by omega), show (2 : Int) / 4294967296 = 0 by decide, natL_zero]; rfl
theorem make64 : makeS (ofN 6) (ofN 4) = ([3], [2], 0) := by
  rw [makeS_of (by omega) (by omega), if_neg (by decide)]
  unfold lowS
  rw [ofN_val (by omega) (by omega), ofN_val (by omega) (by omega), show gcdI 6 4 = 2 by decide, show (6 : Int) / 2 = 3 by decide, show (4 : Int) / 2 = 2 by decide, natL_3, natL_2]
theorem awake_ct : Ct Try.prog 20 #[] (fun _ => True) (fun _ : Unit => .bool true) Tt (fun _ _ => True) := by
  have hc := rat_Of_ct 6 4
  rw [make64] at hc
  refine Ct.start Try.func20 rfl rfl (slots_of rfl slots0) (fun D w0 => ?_)
  repeat (first | (with_reducible first | refine Pw.seq ?_ | refine Pw.region ?_ | refine Pw.nil ?_ | refine Pw.then_ ?_ | refine Pw.skip ?_ | refine Pw.block ?_ | refine Pw.exit ?_ | refine Pw.inX ?_ | refine Pw.inN ?_ | refine Pw.inR ?_ | refine Pw.thenX ?_ | refine Pw.thenR ?_ | refine Pw.ret ?_) | refine Pw.list (Pw.pure rfl rfl rfl ?_) | refine Pw.inY rfl ?_ | refine Pw.list (Pw.off rfl rfl ?_) | refine Pw.condT rfl ?_ | refine Pw.condF rfl ?_ | refine Pw.list (Pw.box rfl rfl rfl rfl (fun _ => ?_)) | refine Pw.list (Pw.alloc rfl rfl rfl rfl rfl (fun _ => ?_)) | refine Pw.list (Pw.build rfl rfl rfl rfl ?_) | refine Pw.list (Pw.ld rfl inferInstance rfl rfl rfl ?_) | refine Pw.list (Pw.sto rfl rfl inferInstance rfl rfl rfl rfl rfl inferInstance rfl ?_))
  refine Pw.list (Pw.call hc rfl rfl rfl (by kernel_rfl) rfl rfl (fun w h => trivial) ?_)
  rintro ⟨⟨A, c⟩, z2⟩ _
  refine Pw.use (p := A.isSome = true) (fun w h => (fact0 h).1.has (i := 0) (by omega) (by simp)) (fun hA => ?_)
  obtain ⟨ad, rfl⟩ := some_of hA
  repeat (first | (with_reducible first | refine Pw.seq ?_ | refine Pw.region ?_ | refine Pw.nil ?_ | refine Pw.then_ ?_ | refine Pw.skip ?_ | refine Pw.block ?_ | refine Pw.exit ?_ | refine Pw.inX ?_ | refine Pw.inN ?_ | refine Pw.inR ?_ | refine Pw.thenX ?_ | refine Pw.thenR ?_ | refine Pw.ret ?_) | refine Pw.list (Pw.pure rfl rfl rfl ?_) | refine Pw.inY rfl ?_ | refine Pw.list (Pw.off rfl rfl ?_) | refine Pw.condT rfl ?_ | refine Pw.condF rfl ?_ | refine Pw.list (Pw.box rfl rfl rfl rfl (fun _ => ?_)) | refine Pw.list (Pw.alloc rfl rfl rfl rfl rfl (fun _ => ?_)) | refine Pw.list (Pw.build rfl rfl rfl rfl ?_) | refine Pw.list (Pw.ld rfl inferInstance rfl rfl rfl ?_) | refine Pw.list (Pw.sto rfl rfl inferInstance rfl rfl rfl rfl rfl inferInstance rfl ?_))
  refine Pw.list (Pw.indexS rfl rfl rfl rfl (Int.le_refl 0) (by show (0 : Int) < 1; omega) rfl rfl ?_)
  refine Pw.list (Pw.load1 rfl rfl (fun w hs => (fact0 hs.all).1.cell (i := 0) (Int.le_refl 0) (by show (0 : Int) < 1; omega)) rfl rfl ?_)
  repeat (first | (with_reducible first | refine Pw.seq ?_ | refine Pw.region ?_ | refine Pw.nil ?_ | refine Pw.then_ ?_ | refine Pw.skip ?_ | refine Pw.block ?_ | refine Pw.exit ?_ | refine Pw.inX ?_ | refine Pw.inN ?_ | refine Pw.inR ?_ | refine Pw.thenX ?_ | refine Pw.thenR ?_ | refine Pw.ret ?_) | refine Pw.list (Pw.pure rfl rfl rfl ?_) | refine Pw.inY rfl ?_ | refine Pw.list (Pw.off rfl rfl ?_) | refine Pw.condT rfl ?_ | refine Pw.condF rfl ?_ | refine Pw.list (Pw.box rfl rfl rfl rfl (fun _ => ?_)) | refine Pw.list (Pw.alloc rfl rfl rfl rfl rfl (fun _ => ?_)) | refine Pw.list (Pw.build rfl rfl rfl rfl ?_) | refine Pw.list (Pw.ld rfl inferInstance rfl rfl rfl ?_) | refine Pw.list (Pw.sto rfl rfl inferInstance rfl rfl rfl rfl rfl inferInstance rfl ?_))
  exact Pw.ret_ (x := ()) (.tmp rfl .nil) rfl trivial (fun w h => by trivial)
theorem Theirs_ct (a b : List Int) (z : Z2) : Ct Try.prog 28 #[rt a b z] (fun _ => True) (fun _ : Unit => rt a b z) Tt (fun _ _ => True) := by
  refine Ct.start Try.func28 rfl rfl (slots_of rfl slots1) (fun D w0 => ?_)
  repeat (first | (with_reducible first | refine Pw.seq ?_ | refine Pw.region ?_ | refine Pw.nil ?_ | refine Pw.then_ ?_ | refine Pw.skip ?_ | refine Pw.block ?_ | refine Pw.exit ?_ | refine Pw.inX ?_ | refine Pw.inN ?_ | refine Pw.inR ?_ | refine Pw.thenX ?_ | refine Pw.thenR ?_ | refine Pw.ret ?_) | refine Pw.list (Pw.pure rfl rfl rfl ?_) | refine Pw.inY rfl ?_ | refine Pw.list (Pw.off rfl rfl ?_) | refine Pw.condT rfl ?_ | refine Pw.condF rfl ?_ | refine Pw.list (Pw.box rfl rfl rfl rfl (fun _ => freeHead ?_)) | refine Pw.list (Pw.alloc rfl rfl rfl rfl rfl (fun _ => ?_)) | refine Pw.list (Pw.build rfl rfl rfl rfl ?_) | refine Pw.list (Pw.ld rfl inferInstance rfl rfl rfl ?_) | refine Pw.list (Pw.sto rfl rfl inferInstance rfl rfl rfl rfl rfl inferInstance rfl ?_))
  exact Pw.ret_ (x := ()) (.cell rfl (fun w hs => hs.own _ (.head _)) rfl .nil) rfl trivial (fun w h => by trivial)
theorem Ours_ct (a b : List Int) (z : Z2) : Ct Try.prog 68 #[rt a b z] (fun _ => True) (fun _ : Unit => rt a b z) Tt (fun _ _ => True) := by
  refine Ct.start Try.func68 rfl rfl (slots_of rfl slots1) (fun D w0 => ?_)
  repeat (first | (with_reducible first | refine Pw.seq ?_ | refine Pw.region ?_ | refine Pw.nil ?_ | refine Pw.then_ ?_ | refine Pw.skip ?_ | refine Pw.block ?_ | refine Pw.exit ?_ | refine Pw.inX ?_ | refine Pw.inN ?_ | refine Pw.inR ?_ | refine Pw.thenX ?_ | refine Pw.thenR ?_ | refine Pw.ret ?_) | refine Pw.list (Pw.pure rfl rfl rfl ?_) | refine Pw.inY rfl ?_ | refine Pw.list (Pw.off rfl rfl ?_) | refine Pw.condT rfl ?_ | refine Pw.condF rfl ?_ | refine Pw.list (Pw.box rfl rfl rfl rfl (fun _ => freeHead ?_)) | refine Pw.list (Pw.alloc rfl rfl rfl rfl rfl (fun _ => ?_)) | refine Pw.list (Pw.build rfl rfl rfl rfl ?_) | refine Pw.list (Pw.ld rfl inferInstance rfl rfl rfl ?_) | refine Pw.list (Pw.sto rfl rfl inferInstance rfl rfl rfl rfl rfl inferInstance rfl ?_))
  exact Pw.ret_ (x := ()) (.cell rfl (fun w hs => hs.own _ (.head _)) rfl .nil) rfl trivial (fun w h => by trivial)
theorem rat_Same_ct (a b : List Int) (y z : Z2) (ha : Fm a) (hb : Fm b) (la : a.length < 1048576) (lb : b.length < 1048576) :
    Ct Try.prog 25 #[rt a b y, rt a b z] (fun W => R2 a b y W ∧ R2 a b z W) (fun _ : Unit => .bool true) Tt (fun _ _ => True) := by
  refine Ct.start Try.func25 rfl rfl (slots_of rfl slots2) (fun D w0 => Pw.facts two2 ?_)
  repeat (first | (with_reducible first | refine Pw.seq ?_ | refine Pw.region ?_ | refine Pw.nil ?_ | refine Pw.then_ ?_ | refine Pw.skip ?_ | refine Pw.block ?_ | refine Pw.exit ?_ | refine Pw.inX ?_ | refine Pw.inN ?_ | refine Pw.inR ?_ | refine Pw.thenX ?_ | refine Pw.thenR ?_ | refine Pw.ret ?_) | refine Pw.list (Pw.pure rfl rfl rfl ?_) | refine Pw.inY rfl ?_ | refine Pw.list (Pw.off rfl rfl ?_) | refine Pw.condT rfl ?_ | refine Pw.condF rfl ?_ | refine Pw.list (Pw.box rfl rfl rfl rfl (fun _ => freeHead ?_)) | refine Pw.list (Pw.alloc rfl rfl rfl rfl rfl (fun _ => ?_)) | refine Pw.list (Pw.build rfl rfl rfl rfl ?_) | refine Pw.list (Pw.ld rfl inferInstance rfl rfl rfl ?_) | refine Pw.list (Pw.sto rfl rfl inferInstance rfl rfl rfl rfl rfl inferInstance rfl ?_))
  have hs := SameRatio_ct a b a b y z ha hb ha hb la lb la lb
  rw [decide_eq_true rfl, decide_eq_true rfl] at hs
  refine Pw.drawnG mixed rfl rfl ?_
  refine Pw.takeF 0 (nb 5 1) rfl rfl inferInstance rfl rfl rfl (by kernel_rfl) np sf ?_
  refine Pw.takeF 2 (nb 5 5) rfl rfl inferInstance rfl rfl rfl (by kernel_rfl) np sf ?_
  refine Pw.one 1 (nb 5 7) rfl (by kernel_rfl) ?_
  refine Pw.call (Ours_ct a b y) rfl rfl rfl (by kernel_rfl) rfl rfl (fun w h => trivial) ?_
  intro _ _
  refine Pw.held sf ?_
  refine Pw.one 3 (nb 5 15) rfl (by kernel_rfl) ?_
  refine Pw.call hs rfl rfl rfl (by kernel_rfl) rfl rfl (fun w h => ⟨(by first | exact fact3 h | exact fact3 (allTail h) | exact fact2 h), (by first | exact fact3 (allTail h) | exact fact3 h)⟩) ?_
  intro _ _
  refine Pw.held sf ?_
  refine Pw.takeP 4 (nb 5 31) rfl rfl rfl rfl (by kernel_rfl) np sf ?_
  refine Pw.done (by kernel_rfl) ?_
  skip
  repeat (first | (with_reducible first | refine Pw.seq ?_ | refine Pw.region ?_ | refine Pw.nil ?_ | refine Pw.then_ ?_ | refine Pw.skip ?_ | refine Pw.block ?_ | refine Pw.exit ?_ | refine Pw.inX ?_ | refine Pw.inN ?_ | refine Pw.inR ?_ | refine Pw.thenX ?_ | refine Pw.thenR ?_ | refine Pw.ret ?_) | refine Pw.list (Pw.pure rfl rfl rfl ?_) | refine Pw.inY rfl ?_ | refine Pw.list (Pw.off rfl rfl ?_) | refine Pw.condT rfl ?_ | refine Pw.condF rfl ?_)
  exact Pw.ret_ (x := ()) (.tmp rfl .nil) rfl trivial (fun w h => by trivial)
theorem Few_ct (a b c d : List Int) (y z : Z2) (g : Nat) : Ct Try.prog 21 #[.slice (some ⟨g, 0, none⟩) 2 2] (fun W => W.heap[g]? = some (row [sl a y.1, sl b y.2, sl c z.1, sl d z.2] 39)) (fun r : Bool => .bool r) (fun r => r = true → a.length ≤ 24 ∧ b.length ≤ 24 ∧ c.length ≤ 24 ∧ d.length ≤ 24) (fun _ _ => True) := by
  refine Ct.start Try.func21 rfl rfl (slots_of rfl slots1) (fun D w0 => ?_)
  repeat (first | (with_reducible first | refine Pw.seq ?_ | refine Pw.region ?_ | refine Pw.nil ?_ | refine Pw.then_ ?_ | refine Pw.skip ?_ | refine Pw.block ?_ | refine Pw.exit ?_ | refine Pw.inX ?_ | refine Pw.inN ?_ | refine Pw.inR ?_ | refine Pw.thenX ?_ | refine Pw.thenR ?_ | refine Pw.ret ?_) | refine Pw.list (Pw.pure rfl rfl rfl ?_) | refine Pw.inY rfl ?_ | refine Pw.list (Pw.off rfl rfl ?_) | refine Pw.condT rfl ?_ | refine Pw.condF rfl ?_ | refine Pw.list (Pw.box rfl rfl rfl rfl (fun _ => ?_)) | refine Pw.list (Pw.alloc rfl rfl rfl rfl rfl (fun _ => ?_)) | refine Pw.list (Pw.build rfl rfl rfl rfl ?_) | refine Pw.list (Pw.ld rfl inferInstance rfl rfl rfl ?_) | refine Pw.list (Pw.sto rfl rfl inferInstance rfl rfl rfl rfl rfl inferInstance rfl ?_))
  refine Pw.rounds 3 (Pw.round ?_)
  repeat (first | (with_reducible first | refine Pw.seq ?_ | refine Pw.region ?_ | refine Pw.nil ?_ | refine Pw.then_ ?_ | refine Pw.skip ?_ | refine Pw.block ?_ | refine Pw.exit ?_ | refine Pw.inX ?_ | refine Pw.inN ?_ | refine Pw.inR ?_ | refine Pw.thenX ?_ | refine Pw.thenR ?_ | refine Pw.ret ?_) | refine Pw.list (Pw.pure rfl rfl rfl ?_) | refine Pw.inY rfl ?_ | refine Pw.list (Pw.off rfl rfl ?_) | refine Pw.condT rfl ?_ | refine Pw.condF rfl ?_ | refine Pw.list (Pw.box rfl rfl rfl rfl (fun _ => ?_)) | refine Pw.list (Pw.alloc rfl rfl rfl rfl rfl (fun _ => ?_)) | refine Pw.list (Pw.build rfl rfl rfl rfl ?_) | refine Pw.list (Pw.ld rfl inferInstance rfl rfl rfl ?_) | refine Pw.list (Pw.sto rfl rfl inferInstance rfl rfl rfl rfl rfl inferInstance rfl ?_))
  refine Pw.list (Pw.indexO rfl rfl rfl rfl (Int.le_refl 0) (by show (0 : Int) < 2; omega) rfl rfl ?_)
  repeat (first | (with_reducible first | refine Pw.seq ?_ | refine Pw.region ?_ | refine Pw.nil ?_ | refine Pw.then_ ?_ | refine Pw.skip ?_ | refine Pw.block ?_ | refine Pw.exit ?_ | refine Pw.inX ?_ | refine Pw.inN ?_ | refine Pw.inR ?_ | refine Pw.thenX ?_ | refine Pw.thenR ?_ | refine Pw.ret ?_) | refine Pw.list (Pw.pure rfl rfl rfl ?_) | refine Pw.inY rfl ?_ | refine Pw.list (Pw.off rfl rfl ?_) | refine Pw.condT rfl ?_ | refine Pw.condF rfl ?_ | refine Pw.list (Pw.box rfl rfl rfl rfl (fun _ => ?_)) | refine Pw.list (Pw.alloc rfl rfl rfl rfl rfl (fun _ => ?_)) | refine Pw.list (Pw.build rfl rfl rfl rfl ?_) | refine Pw.list (Pw.ld rfl inferInstance rfl rfl rfl ?_) | refine Pw.list (Pw.sto rfl rfl inferInstance rfl rfl rfl rfl rfl inferInstance rfl ?_))
  refine Pw.split 16 rfl (fun c1 => ?_) (fun c1 => ?_)
  · repeat (first | (with_reducible first | refine Pw.seq ?_ | refine Pw.region ?_ | refine Pw.nil ?_ | refine Pw.then_ ?_ | refine Pw.skip ?_ | refine Pw.block ?_ | refine Pw.exit ?_ | refine Pw.inX ?_ | refine Pw.inN ?_ | refine Pw.inR ?_ | refine Pw.thenX ?_ | refine Pw.thenR ?_ | refine Pw.ret ?_) | refine Pw.list (Pw.pure rfl rfl rfl ?_) | refine Pw.inY rfl ?_ | refine Pw.list (Pw.off rfl rfl ?_) | refine Pw.condT rfl ?_ | refine Pw.condF rfl ?_ | refine Pw.list (Pw.box rfl rfl rfl rfl (fun _ => ?_)) | refine Pw.list (Pw.alloc rfl rfl rfl rfl rfl (fun _ => ?_)) | refine Pw.list (Pw.build rfl rfl rfl rfl ?_) | refine Pw.list (Pw.ld rfl inferInstance rfl rfl rfl ?_) | refine Pw.list (Pw.sto rfl rfl inferInstance rfl rfl rfl rfl rfl inferInstance rfl ?_))
    exact Pw.ret_ (x := false) (.tmp rfl .nil) rfl (fun e => by cases e) (fun w h => by trivial)
  repeat (first | (with_reducible first | refine Pw.seq ?_ | refine Pw.region ?_ | refine Pw.nil ?_ | refine Pw.then_ ?_ | refine Pw.skip ?_ | refine Pw.block ?_ | refine Pw.exit ?_ | refine Pw.inX ?_ | refine Pw.inN ?_ | refine Pw.inR ?_ | refine Pw.thenX ?_ | refine Pw.thenR ?_ | refine Pw.ret ?_) | refine Pw.list (Pw.pure rfl rfl rfl ?_) | refine Pw.inY rfl ?_ | refine Pw.list (Pw.off rfl rfl ?_) | refine Pw.condT rfl ?_ | refine Pw.condF rfl ?_ | refine Pw.list (Pw.box rfl rfl rfl rfl (fun _ => ?_)) | refine Pw.list (Pw.alloc rfl rfl rfl rfl rfl (fun _ => ?_)) | refine Pw.list (Pw.build rfl rfl rfl rfl ?_) | refine Pw.list (Pw.ld rfl inferInstance rfl rfl rfl ?_) | refine Pw.list (Pw.sto rfl rfl inferInstance rfl rfl rfl rfl rfl inferInstance rfl ?_))
  refine Pw.list (Pw.indexO rfl rfl rfl rfl (Int.le_refl 0) (by show (0 : Int) < 2; omega) rfl rfl ?_)
  repeat (first | (with_reducible first | refine Pw.seq ?_ | refine Pw.region ?_ | refine Pw.nil ?_ | refine Pw.then_ ?_ | refine Pw.skip ?_ | refine Pw.block ?_ | refine Pw.exit ?_ | refine Pw.inX ?_ | refine Pw.inN ?_ | refine Pw.inR ?_ | refine Pw.thenX ?_ | refine Pw.thenR ?_ | refine Pw.ret ?_) | refine Pw.list (Pw.pure rfl rfl rfl ?_) | refine Pw.inY rfl ?_ | refine Pw.list (Pw.off rfl rfl ?_) | refine Pw.condT rfl ?_ | refine Pw.condF rfl ?_ | refine Pw.list (Pw.box rfl rfl rfl rfl (fun _ => ?_)) | refine Pw.list (Pw.alloc rfl rfl rfl rfl rfl (fun _ => ?_)) | refine Pw.list (Pw.build rfl rfl rfl rfl ?_) | refine Pw.list (Pw.ld rfl inferInstance rfl rfl rfl ?_) | refine Pw.list (Pw.sto rfl rfl inferInstance rfl rfl rfl rfl rfl inferInstance rfl ?_))
  refine Pw.condD rfl (fun c2 => ?_) (fun c2 => ?_)
  · repeat (first | (with_reducible first | refine Pw.seq ?_ | refine Pw.region ?_ | refine Pw.nil ?_ | refine Pw.then_ ?_ | refine Pw.skip ?_ | refine Pw.block ?_ | refine Pw.exit ?_ | refine Pw.inX ?_ | refine Pw.inN ?_ | refine Pw.inR ?_ | refine Pw.thenX ?_ | refine Pw.thenR ?_ | refine Pw.ret ?_) | refine Pw.list (Pw.pure rfl rfl rfl ?_) | refine Pw.inY rfl ?_ | refine Pw.list (Pw.off rfl rfl ?_) | refine Pw.condT rfl ?_ | refine Pw.condF rfl ?_ | refine Pw.list (Pw.box rfl rfl rfl rfl (fun _ => ?_)) | refine Pw.list (Pw.alloc rfl rfl rfl rfl rfl (fun _ => ?_)) | refine Pw.list (Pw.build rfl rfl rfl rfl ?_) | refine Pw.list (Pw.ld rfl inferInstance rfl rfl rfl ?_) | refine Pw.list (Pw.sto rfl rfl inferInstance rfl rfl rfl rfl rfl inferInstance rfl ?_))
    exact Pw.ret_ (x := false) (.tmp rfl .nil) rfl (fun e => by cases e) (fun w h => by trivial)
  repeat (first | (with_reducible first | refine Pw.seq ?_ | refine Pw.region ?_ | refine Pw.nil ?_ | refine Pw.then_ ?_ | refine Pw.skip ?_ | refine Pw.block ?_ | refine Pw.exit ?_ | refine Pw.inX ?_ | refine Pw.inN ?_ | refine Pw.inR ?_ | refine Pw.thenX ?_ | refine Pw.thenR ?_ | refine Pw.ret ?_) | refine Pw.list (Pw.pure rfl rfl rfl ?_) | refine Pw.inY rfl ?_ | refine Pw.list (Pw.off rfl rfl ?_) | refine Pw.condT rfl ?_ | refine Pw.condF rfl ?_ | refine Pw.list (Pw.box rfl rfl rfl rfl (fun _ => ?_)) | refine Pw.list (Pw.alloc rfl rfl rfl rfl rfl (fun _ => ?_)) | refine Pw.list (Pw.build rfl rfl rfl rfl ?_) | refine Pw.list (Pw.ld rfl inferInstance rfl rfl rfl ?_) | refine Pw.list (Pw.sto rfl rfl inferInstance rfl rfl rfl rfl rfl inferInstance rfl ?_))
  refine Pw.re (d := 6) (v' := .int .i64 1) rfl (congrArg (Value.int .i64) (wi64 (by omega) (by omega))) ?_
  refine Pw.round ?_
  repeat (first | (with_reducible first | refine Pw.seq ?_ | refine Pw.region ?_ | refine Pw.nil ?_ | refine Pw.then_ ?_ | refine Pw.skip ?_ | refine Pw.block ?_ | refine Pw.exit ?_ | refine Pw.inX ?_ | refine Pw.inN ?_ | refine Pw.inR ?_ | refine Pw.thenX ?_ | refine Pw.thenR ?_ | refine Pw.ret ?_) | refine Pw.list (Pw.pure rfl rfl rfl ?_) | refine Pw.inY rfl ?_ | refine Pw.list (Pw.off rfl rfl ?_) | refine Pw.condT rfl ?_ | refine Pw.condF rfl ?_ | refine Pw.list (Pw.box rfl rfl rfl rfl (fun _ => ?_)) | refine Pw.list (Pw.alloc rfl rfl rfl rfl rfl (fun _ => ?_)) | refine Pw.list (Pw.build rfl rfl rfl rfl ?_) | refine Pw.list (Pw.ld rfl inferInstance rfl rfl rfl ?_) | refine Pw.list (Pw.sto rfl rfl inferInstance rfl rfl rfl rfl rfl inferInstance rfl ?_))
  refine Pw.list (Pw.indexO rfl rfl rfl rfl (show (0 : Int) ≤ 1 by omega) (by show (1 : Int) < 2; omega) rfl rfl ?_)
  repeat (first | (with_reducible first | refine Pw.seq ?_ | refine Pw.region ?_ | refine Pw.nil ?_ | refine Pw.then_ ?_ | refine Pw.skip ?_ | refine Pw.block ?_ | refine Pw.exit ?_ | refine Pw.inX ?_ | refine Pw.inN ?_ | refine Pw.inR ?_ | refine Pw.thenX ?_ | refine Pw.thenR ?_ | refine Pw.ret ?_) | refine Pw.list (Pw.pure rfl rfl rfl ?_) | refine Pw.inY rfl ?_ | refine Pw.list (Pw.off rfl rfl ?_) | refine Pw.condT rfl ?_ | refine Pw.condF rfl ?_ | refine Pw.list (Pw.box rfl rfl rfl rfl (fun _ => ?_)) | refine Pw.list (Pw.alloc rfl rfl rfl rfl rfl (fun _ => ?_)) | refine Pw.list (Pw.build rfl rfl rfl rfl ?_) | refine Pw.list (Pw.ld rfl inferInstance rfl rfl rfl ?_) | refine Pw.list (Pw.sto rfl rfl inferInstance rfl rfl rfl rfl rfl inferInstance rfl ?_))
  refine Pw.split 16 rfl (fun c3 => ?_) (fun c3 => ?_)
  · repeat (first | (with_reducible first | refine Pw.seq ?_ | refine Pw.region ?_ | refine Pw.nil ?_ | refine Pw.then_ ?_ | refine Pw.skip ?_ | refine Pw.block ?_ | refine Pw.exit ?_ | refine Pw.inX ?_ | refine Pw.inN ?_ | refine Pw.inR ?_ | refine Pw.thenX ?_ | refine Pw.thenR ?_ | refine Pw.ret ?_) | refine Pw.list (Pw.pure rfl rfl rfl ?_) | refine Pw.inY rfl ?_ | refine Pw.list (Pw.off rfl rfl ?_) | refine Pw.condT rfl ?_ | refine Pw.condF rfl ?_ | refine Pw.list (Pw.box rfl rfl rfl rfl (fun _ => ?_)) | refine Pw.list (Pw.alloc rfl rfl rfl rfl rfl (fun _ => ?_)) | refine Pw.list (Pw.build rfl rfl rfl rfl ?_) | refine Pw.list (Pw.ld rfl inferInstance rfl rfl rfl ?_) | refine Pw.list (Pw.sto rfl rfl inferInstance rfl rfl rfl rfl rfl inferInstance rfl ?_))
    exact Pw.ret_ (x := false) (.tmp rfl .nil) rfl (fun e => by cases e) (fun w h => by trivial)
  repeat (first | (with_reducible first | refine Pw.seq ?_ | refine Pw.region ?_ | refine Pw.nil ?_ | refine Pw.then_ ?_ | refine Pw.skip ?_ | refine Pw.block ?_ | refine Pw.exit ?_ | refine Pw.inX ?_ | refine Pw.inN ?_ | refine Pw.inR ?_ | refine Pw.thenX ?_ | refine Pw.thenR ?_ | refine Pw.ret ?_) | refine Pw.list (Pw.pure rfl rfl rfl ?_) | refine Pw.inY rfl ?_ | refine Pw.list (Pw.off rfl rfl ?_) | refine Pw.condT rfl ?_ | refine Pw.condF rfl ?_ | refine Pw.list (Pw.box rfl rfl rfl rfl (fun _ => ?_)) | refine Pw.list (Pw.alloc rfl rfl rfl rfl rfl (fun _ => ?_)) | refine Pw.list (Pw.build rfl rfl rfl rfl ?_) | refine Pw.list (Pw.ld rfl inferInstance rfl rfl rfl ?_) | refine Pw.list (Pw.sto rfl rfl inferInstance rfl rfl rfl rfl rfl inferInstance rfl ?_))
  refine Pw.list (Pw.indexO rfl rfl rfl rfl (show (0 : Int) ≤ 1 by omega) (by show (1 : Int) < 2; omega) rfl rfl ?_)
  repeat (first | (with_reducible first | refine Pw.seq ?_ | refine Pw.region ?_ | refine Pw.nil ?_ | refine Pw.then_ ?_ | refine Pw.skip ?_ | refine Pw.block ?_ | refine Pw.exit ?_ | refine Pw.inX ?_ | refine Pw.inN ?_ | refine Pw.inR ?_ | refine Pw.thenX ?_ | refine Pw.thenR ?_ | refine Pw.ret ?_) | refine Pw.list (Pw.pure rfl rfl rfl ?_) | refine Pw.inY rfl ?_ | refine Pw.list (Pw.off rfl rfl ?_) | refine Pw.condT rfl ?_ | refine Pw.condF rfl ?_ | refine Pw.list (Pw.box rfl rfl rfl rfl (fun _ => ?_)) | refine Pw.list (Pw.alloc rfl rfl rfl rfl rfl (fun _ => ?_)) | refine Pw.list (Pw.build rfl rfl rfl rfl ?_) | refine Pw.list (Pw.ld rfl inferInstance rfl rfl rfl ?_) | refine Pw.list (Pw.sto rfl rfl inferInstance rfl rfl rfl rfl rfl inferInstance rfl ?_))
  refine Pw.condD rfl (fun c4 => ?_) (fun c4 => ?_)
  · repeat (first | (with_reducible first | refine Pw.seq ?_ | refine Pw.region ?_ | refine Pw.nil ?_ | refine Pw.then_ ?_ | refine Pw.skip ?_ | refine Pw.block ?_ | refine Pw.exit ?_ | refine Pw.inX ?_ | refine Pw.inN ?_ | refine Pw.inR ?_ | refine Pw.thenX ?_ | refine Pw.thenR ?_ | refine Pw.ret ?_) | refine Pw.list (Pw.pure rfl rfl rfl ?_) | refine Pw.inY rfl ?_ | refine Pw.list (Pw.off rfl rfl ?_) | refine Pw.condT rfl ?_ | refine Pw.condF rfl ?_ | refine Pw.list (Pw.box rfl rfl rfl rfl (fun _ => ?_)) | refine Pw.list (Pw.alloc rfl rfl rfl rfl rfl (fun _ => ?_)) | refine Pw.list (Pw.build rfl rfl rfl rfl ?_) | refine Pw.list (Pw.ld rfl inferInstance rfl rfl rfl ?_) | refine Pw.list (Pw.sto rfl rfl inferInstance rfl rfl rfl rfl rfl inferInstance rfl ?_))
    exact Pw.ret_ (x := false) (.tmp rfl .nil) rfl (fun e => by cases e) (fun w h => by trivial)
  repeat (first | (with_reducible first | refine Pw.seq ?_ | refine Pw.region ?_ | refine Pw.nil ?_ | refine Pw.then_ ?_ | refine Pw.skip ?_ | refine Pw.block ?_ | refine Pw.exit ?_ | refine Pw.inX ?_ | refine Pw.inN ?_ | refine Pw.inR ?_ | refine Pw.thenX ?_ | refine Pw.thenR ?_ | refine Pw.ret ?_) | refine Pw.list (Pw.pure rfl rfl rfl ?_) | refine Pw.inY rfl ?_ | refine Pw.list (Pw.off rfl rfl ?_) | refine Pw.condT rfl ?_ | refine Pw.condF rfl ?_ | refine Pw.list (Pw.box rfl rfl rfl rfl (fun _ => ?_)) | refine Pw.list (Pw.alloc rfl rfl rfl rfl rfl (fun _ => ?_)) | refine Pw.list (Pw.build rfl rfl rfl rfl ?_) | refine Pw.list (Pw.ld rfl inferInstance rfl rfl rfl ?_) | refine Pw.list (Pw.sto rfl rfl inferInstance rfl rfl rfl rfl rfl inferInstance rfl ?_))
  refine Pw.re (d := 6) (v' := .int .i64 2) rfl (congrArg (Value.int .i64) (wi64 (by omega) (by omega))) ?_
  refine Pw.round ?_
  repeat (first | (with_reducible first | refine Pw.seq ?_ | refine Pw.region ?_ | refine Pw.nil ?_ | refine Pw.then_ ?_ | refine Pw.skip ?_ | refine Pw.block ?_ | refine Pw.exit ?_ | refine Pw.inX ?_ | refine Pw.inN ?_ | refine Pw.inR ?_ | refine Pw.thenX ?_ | refine Pw.thenR ?_ | refine Pw.ret ?_) | refine Pw.list (Pw.pure rfl rfl rfl ?_) | refine Pw.inY rfl ?_ | refine Pw.list (Pw.off rfl rfl ?_) | refine Pw.condT rfl ?_ | refine Pw.condF rfl ?_ | refine Pw.list (Pw.box rfl rfl rfl rfl (fun _ => ?_)) | refine Pw.list (Pw.alloc rfl rfl rfl rfl rfl (fun _ => ?_)) | refine Pw.list (Pw.build rfl rfl rfl rfl ?_) | refine Pw.list (Pw.ld rfl inferInstance rfl rfl rfl ?_) | refine Pw.list (Pw.sto rfl rfl inferInstance rfl rfl rfl rfl rfl inferInstance rfl ?_))
  exact Pw.ret_ (x := true) (.tmp rfl .nil) rfl (fun _ => ⟨by omega, by omega, by omega, by omega⟩) (fun w h => by trivial)
end Go.Proofs.Wk
/- The mathematics of RatioLong: a long odd natural and 2. -/
namespace Go.Proofs.Wk
set_option linter.unusedVariables false
set_option linter.unusedSimpArgs false
/-- The law's natural: its lowest limb odd, all others full. -/
def lg (lo : Int) (m : Nat) : List Int := lo :: List.replicate (m + 1) 4294967295
theorem val_full : ∀ m : Nat, val (List.replicate m 4294967295) = pw m - 1
  | 0 => by rw [pw_zero]; rfl
  | m + 1 => by rw [List.replicate_succ, pw_succ]; simp only [val]; rw [val_full m]; omega
theorem lg_val (lo : Int) (m : Nat) : val (lg lo m) = lo + 4294967296 * (pw (m + 1) - 1) := by
  unfold lg; simp only [val]; rw [val_full]
theorem lg_lm {lo : Int} (h0 : 0 ≤ lo) (h1 : lo ≤ 4294967295) (m : Nat) : Lm (lg lo m) := Lm.cons ⟨h0, h1⟩ (fun x hx => by rw [List.eq_of_mem_replicate hx]; omega)
theorem lg_len (lo : Int) (m : Nat) : (lg lo m).length = m + 2 := by simp [lg]
theorem lg_fm {lo : Int} (h0 : 0 ≤ lo) (h1 : lo ≤ 4294967295) (m : Nat) : Fm (lg lo m) := (Fm.iff (lg_lm h0 h1 m)).2 (.inr (by
  rw [lg_len]
  unfold rd lg
  rw [List.getD_eq_getElem?_getD, show (((m + 2 : Nat) : Int) - 1).toNat = m + 1 by omega, List.getElem?_cons_succ, List.getElem?_replicate, if_pos (by omega)]
  simp))
theorem gcd_odd {v : Int} (h0 : 0 ≤ v) (h : v % 2 = 1) : gcdI v 2 = 1 ∧ gcdI 2 v = 1 := by
  have h1 : v.toNat % 2 = 1 := by omega
  have h2 : Nat.gcd v.toNat 2 = 1 := by
    rw [Nat.gcd_comm, Nat.gcd_rec, h1]; decide
  unfold gcdI
  exact ⟨by rw [show (2 : Int).toNat = 2 from rfl, h2]; rfl, by rw [show (2 : Int).toNat = 2 from rfl, Nat.gcd_comm, h2]; rfl⟩
/-- What is known of the law's natural. -/
theorem lg_facts {lo : Int} (h0 : 0 ≤ lo) (h1 : lo ≤ 4294967295) (ho : lo % 2 = 1) (m : Nat) : pw (m + 2) - 4294967296 < val (lg lo m) ∧ val (lg lo m) < pw (m + 2) ∧ val (lg lo m) % 2 = 1 := by
  rw [lg_val, pw_succ (m + 1)]
  have := pw_pos (m + 1)
  omega
theorem lg_sq {lo : Int} (h0 : 0 ≤ lo) (h1 : lo ≤ 4294967295) (ho : lo % 2 = 1) (m : Nat) : (natL (val (lg lo m) * val (lg lo m))).length = 2 * (m + 2) := by
  obtain ⟨a1, a2, _⟩ := lg_facts h0 h1 ho m
  have p0 := pw_pos (m + 1)
  have e1 : pw (m + 2) = pw (m + 1) * 4294967296 := pw_succ _
  have v0 : 0 ≤ val (lg lo m) := by omega
  generalize val (lg lo m) = v at a1 a2 v0
  have hv := Int.mul_nonneg v0 v0
  have up : v * v < pw (2 * (m + 2)) := by
    rw [show 2 * (m + 2) = (m + 2) + (m + 2) by omega, pw_add]
    exact Int.lt_of_le_of_lt (Int.mul_le_mul_of_nonneg_left (show v ≤ pw (m + 2) by omega) v0) (Int.mul_lt_mul_of_pos_right a2 (pw_pos _))
  have dn : ¬ v * v < pw (2 * m + 3) := by
    rw [show 2 * m + 3 = (m + 1) + (m + 2) by omega, pw_add]
    have h2 : pw (m + 1) ≤ v := by omega
    have h3 : pw (m + 1) * 2147483648 ≤ v := by
      have : 1 ≤ pw (m + 1) := by omega
      have := pw_le (show 1 ≤ m + 1 by omega)
      rw [show pw 1 = 4294967296 by simp [pw]] at this
      omega
    have h4 := Int.mul_le_mul h3 h3 (by omega) v0
    have h5 : pw (m + 1) * 2147483648 * (pw (m + 1) * 2147483648) = pw (m + 1) * pw (m + 1) * 4611686018427387904 := by grind
    have h6 : pw (m + 1) * pw (m + 2) = pw (m + 1) * pw (m + 1) * 4294967296 := by rw [e1]; grind
    have h7 := Int.mul_pos p0 p0
    generalize pw (m + 1) * pw (m + 1) = q at h5 h6 h7
    omega
  have l1 := natL_len_le hv up
  have l2 : ¬ (natL (v * v)).length ≤ 2 * m + 3 := fun e => dn (by have := ((natL_fm (v * v)).len_le _).1 e; rwa [val_natL hv] at this)
  omega
theorem or_one {x : Int} (h0 : 0 ≤ x) (h1 : x ≤ 4294967295) : 0 ≤ Go.bits .or .u32 x 1 ∧ Go.bits .or .u32 x 1 ≤ 4294967295 ∧ Go.bits .or .u32 x 1 % 2 = 1 := by
  obtain ⟨n, rfl⟩ := Int.eq_ofNat_of_zero_le h0
  have e : Go.bits .or .u32 (n : Int) 1 = ((n ||| 1 : Nat) : Int) := Go.u32_or_nat n 1 (by omega) (by omega)
  rw [e]
  have a := Nat.or_lt_two_pow (x := n) (y := 1) (n := 32) (by omega) (by omega)
  have b : (n ||| 1) % 2 = 1 := by
    have := Nat.or_mod_two_eq_one (a := n) (b := 1)
    simp [this]
  omega
end Go.Proofs.Wk
/- RatioLong: what layer 2 answers there. -/
namespace Go.Proofs.Wk
set_option linter.unusedVariables false
set_option linter.unusedSimpArgs false
set_option linter.unusedSectionVars false
theorem two_of : ofN 2 = [2] := by rw [ofN_natL (by omega) (by omega), natL_2]
theorem two_fm : Fm [2] := by rw [← natL_2]; exact natL_fm 2
theorem two_val : val [2] = 2 := by simp [val]
theorem two_fmB : fmB [2] = true := (fmB_iff two_fm.1).2 ⟨by simp, two_fm⟩
section
variable {lo : Int} (h0 : 0 ≤ lo) (h1 : lo ≤ 4294967295) (ho : lo % 2 = 1) {m : Nat} (hm : m + 2 ≤ 400)
include h0 h1 ho hm
theorem lg_fmB : fmB (lg lo m) = true := (fmB_iff (lg_lm h0 h1 m)).2 ⟨by rw [lg_len]; exact hm, lg_fm h0 h1 m⟩
theorem lg_gcd : gcdI (val (lg lo m)) 2 = 1 ∧ gcdI 2 (val (lg lo m)) = 1 := gcd_odd (val_nonneg (lg_lm h0 h1 m)) (lg_facts h0 h1 ho m).2.2
theorem lg_make : makeS (lg lo m) (ofN 2) = (lg lo m, [2], 0) := by
  unfold makeS lowS
  rw [two_of, if_pos ⟨lg_fmB h0 h1 ho hm, two_fmB⟩, if_neg (by simp), two_val, (lg_gcd h0 h1 ho hm).1, Int.ediv_one, Int.ediv_one, ← (lg_fm h0 h1 m).natL, natL_2]
theorem lg_make2 : makeS (ofN 2) (lg lo m) = ([2], lg lo m, 0) := by
  unfold makeS lowS
  rw [two_of, if_pos ⟨two_fmB, lg_fmB h0 h1 ho hm⟩, if_neg (by rw [lg_len]; omega), two_val, (lg_gcd h0 h1 ho hm).2, Int.ediv_one, Int.ediv_one, ← (lg_fm h0 h1 m).natL, natL_2]
theorem lg_formed : formedR (lg lo m) [2] = true ∧ formedR [2] (lg lo m) = true := by
  unfold formedR
  rw [lg_fmB h0 h1 ho hm, two_fmB, two_val, (lg_gcd h0 h1 ho hm).1, (lg_gcd h0 h1 ho hm).2]
  simp [lg_len]
theorem lg_four : (natL (val [2] * val [2])).length ≤ 400 := by
  rw [two_val]
  have := natL_len_le (v := 2 * 2) (n := 1) (by omega) (by rw [show pw 1 = 4294967296 by simp [pw]]; omega)
  omega
theorem lg_mul : (rmulS (lg lo m) [2] (lg lo m) [2]).2.2 = if 2 * (m + 2) ≤ 400 then 0 else 4 := by
  obtain ⟨f1, f2⟩ := lg_formed h0 h1 ho hm
  rw [rmulS_eq (lg_lm h0 h1 m) two_fm.1 (lg_lm h0 h1 m) two_fm.1 f1 f1, lg_sq h0 h1 ho m]
  by_cases h : 2 * (m + 2) ≤ 400
  · rw [if_pos ⟨h, lg_four h0 h1 ho hm⟩, if_pos h]
  · rw [if_neg (fun e => h e.1), if_neg h]
theorem lg_div : rdivS (lg lo m) [2] [2] (lg lo m) = rmulS (lg lo m) [2] (lg lo m) [2] := by
  obtain ⟨f1, f2⟩ := lg_formed h0 h1 ho hm
  unfold rdivS
  rw [if_pos (by simp [f1, f2]), if_neg (by simp)]
theorem lg_cmp : rcmpS (lg lo m) [2] [2] (lg lo m) = (if 2 * (m + 2) ≤ 400 then 1 else 0) ∧ rcmpS [2] (lg lo m) (lg lo m) [2] = (if 2 * (m + 2) ≤ 400 then -1 else 0) := by
  obtain ⟨f1, f2⟩ := lg_formed h0 h1 ho hm
  have l4 := lg_four h0 h1 ho hm
  have lq := lg_sq h0 h1 ho m
  have big : 4 < val (lg lo m) * val (lg lo m) := by
    obtain ⟨a1, a2, a3⟩ := lg_facts h0 h1 ho m
    have p := pw_le (show 2 ≤ m + 2 by omega)
    rw [show pw 2 = 18446744073709551616 by simp [pw]] at p
    have h3 : 3 ≤ val (lg lo m) := by omega
    have := Int.mul_le_mul h3 h3 (by omega) (by omega)
    omega
  rw [rcmpS_eq (lg_lm h0 h1 m) two_fm.1 two_fm.1 (lg_lm h0 h1 m) f1 f2, rcmpS_eq two_fm.1 (lg_lm h0 h1 m) (lg_lm h0 h1 m) two_fm.1 f2 f1]
  rw [lq]
  by_cases h : 2 * (m + 2) ≤ 400
  · constructor
    · rw [if_pos h, if_pos ⟨h, l4⟩, two_val]
      unfold cmpS
      rw [if_neg (by omega), if_neg (by omega)]
    · rw [if_pos h, if_pos ⟨l4, h⟩, two_val]
      unfold cmpS
      rw [if_pos (by omega)]
  · constructor
    · rw [if_neg h, if_neg (fun e => h e.1)]
    · rw [if_neg h, if_neg (fun e => h e.2)]
theorem lg_add (hm2 : m ≤ 300) : (joinS addS (lg lo m) [2] (lg lo m) [2]).2.2 = 0 := by
  obtain ⟨f1, f2⟩ := lg_formed h0 h1 ho hm
  obtain ⟨a1, a2, a3⟩ := lg_facts h0 h1 ho m
  have v0 := val_nonneg (lg_lm h0 h1 m)
  have e1 : pw (m + 3) = pw (m + 2) * 4294967296 := pw_succ _
  rw [raddS_eq (lg_lm h0 h1 m) two_fm.1 (lg_lm h0 h1 m) two_fm.1 f1 f1]
  have l4 := lg_four h0 h1 ho hm
  rw [two_val] at l4 ⊢
  have s1 := natL_len_le (v := val (lg lo m) * 2) (n := m + 3) (by omega) (by omega)
  have s2 := natL_len_le (v := val (lg lo m) * 2 + val (lg lo m) * 2) (n := m + 3) (by omega) (by omega)
  rw [if_pos ⟨by omega, by omega, l4, by omega⟩]
end
end Go.Proofs.Wk
/- The law RatioLong walked. -/
namespace Go.Proofs.Wk
open Go.RowKit
set_option maxRecDepth 100000
set_option maxHeartbeats 4000000
attribute [local irreducible] Pw OpG
set_option linter.unusedVariables false
set_option linter.unusedSimpArgs false
/-- The law's row, i limbs of it filled. -/
def fil (k i : Nat) : List Int := List.replicate i 4294967295 ++ List.replicate (k - i) 0
theorem fil_len {k i : Nat} (h : i ≤ k) : (fil k i).length = k := by simp [fil]; omega
theorem fil_set {k i : Nat} (h : i < k) : (fil k i).set i 4294967295 = fil k (i + 1) := by
  unfold fil
  rw [List.set_append_right _ _ (by simp), List.length_replicate, Nat.sub_self, show k - i = (k - (i + 1)) + 1 by omega, List.replicate_succ, List.set_cons_zero, List.replicate_succ' (n := i), List.append_assoc]; rfl
theorem fil_lg {k : Nat} (h : 2 ≤ k) (lo : Int) : (fil k k).set 0 lo = lg lo (k - 2) := by
  obtain ⟨m, rfl⟩ : ∃ m, k = m + 2 := ⟨k - 2, by omega⟩
  unfold fil lg
  rw [Nat.sub_self, List.replicate_zero, List.append_nil, List.replicate_succ, List.set_cons_zero]; rfl
theorem RatioLong_ct (n low : Int) (n0 : 0 ≤ n) (n1 : n ≤ 255) (l0 : 0 ≤ low) (l1 : low ≤ 4294967295) :
    Ct Try.prog 6 #[.int .u8 n, .int .u32 low] (fun _ => True) (fun _ : Unit => .bool true) Tt (fun _ _ => True) := by
  refine Ct.start Try.func6 rfl rfl (slots_of rfl slots2) (fun D w0 => ?_)
  repeat (first | (with_reducible first | refine Pw.seq ?_ | refine Pw.region ?_ | refine Pw.nil ?_ | refine Pw.then_ ?_ | refine Pw.skip ?_ | refine Pw.block ?_ | refine Pw.exit ?_ | refine Pw.inX ?_ | refine Pw.inN ?_ | refine Pw.inR ?_ | refine Pw.thenX ?_ | refine Pw.thenR ?_ | refine Pw.ret ?_) | refine Pw.list (Pw.pure rfl rfl rfl ?_) | refine Pw.inY rfl ?_ | refine Pw.list (Pw.off rfl rfl ?_) | refine Pw.condT rfl ?_ | refine Pw.condF rfl ?_ | refine Pw.list (Pw.box rfl rfl rfl rfl (fun _ => ?_)) | refine Pw.list (Pw.alloc rfl rfl rfl rfl rfl (fun _ => ?_)) | refine Pw.list (Pw.build rfl rfl rfl rfl ?_) | refine Pw.list (Pw.ld rfl inferInstance rfl rfl rfl ?_) | refine Pw.list (Pw.sto rfl rfl inferInstance rfl rfl rfl rfl rfl inferInstance rfl ?_))
  refine Pw.list (Pw.call awake_ct rfl rfl rfl (by kernel_rfl) rfl rfl (fun w h => trivial) ?_)
  intro _ _
  repeat (first | (with_reducible first | refine Pw.seq ?_ | refine Pw.region ?_ | refine Pw.nil ?_ | refine Pw.then_ ?_ | refine Pw.skip ?_ | refine Pw.block ?_ | refine Pw.exit ?_ | refine Pw.inX ?_ | refine Pw.inN ?_ | refine Pw.inR ?_ | refine Pw.thenX ?_ | refine Pw.thenR ?_ | refine Pw.ret ?_) | refine Pw.list (Pw.pure rfl rfl rfl ?_) | refine Pw.inY rfl ?_ | refine Pw.list (Pw.off rfl rfl ?_) | refine Pw.condT rfl ?_ | refine Pw.condF rfl ?_ | refine Pw.list (Pw.box rfl rfl rfl rfl (fun _ => ?_)) | refine Pw.list (Pw.alloc rfl rfl rfl rfl rfl (fun _ => ?_)) | refine Pw.list (Pw.build rfl rfl rfl rfl ?_) | refine Pw.list (Pw.ld rfl inferInstance rfl rfl rfl ?_) | refine Pw.list (Pw.sto rfl rfl inferInstance rfl rfl rfl rfl rfl inferInstance rfl ?_))
  obtain ⟨k, hk⟩ : ∃ k, k = 150 + (n % 60).toNat := ⟨_, rfl⟩
  have e1 : wrap64 (150 + (wrap64 n).tmod 60) = (k : Int) := by
    rw [wi64 (n := n) (by omega) (by omega), Int.tmod_eq_emod_of_nonneg n0, wi64 (by omega) (by omega)]; omega
  rw [e1]
  have hk1 : 150 ≤ k ∧ k ≤ 209 := by omega
  refine Pw.join (σ := Nat × Nat) (fun _ => True) (fun s => ⟨[(1, .int .u32 low), (5, .int .i64 k), (6, .slice (some ⟨s.1, 0, none⟩) k k), (7, .slice (some ⟨s.2, 0, none⟩) k k)], [⟨s.1, row ((fil k 0).map (Value.int .u32)) 64⟩, ⟨s.2, row ((fil k 0).map (Value.int .u32)) 64⟩], []⟩) ?_ ?_
  · skip
    have ez : List.replicate k (Value.int .u32 0) = (fil k 0).map (Value.int .u32) := by simp [fil]
    refine Pw.drawnG mixed rfl rfl ?_
    refine Pw.takeP 0 (nb 6 1) rfl rfl rfl rfl (by kernel_rfl) np sf ?_
    refine Pw.takeP 2 (nb 6 5) rfl rfl rfl rfl (by kernel_rfl) np sf ?_
    refine Pw.two 1 3 (nb 6 7) (nb 6 13) rfl rfl (by kernel_rfl) ?_ ?_
    · skip
      refine Pw.make rfl rfl rfl rfl rfl rfl (show 4 * k ≤ _ by omega) (by simp only [maxLen]; omega) rfl rfl (fun g1 => ?_)
      refine Pw.held sf ?_
      refine Pw.takeP 4 (nb 6 23) rfl rfl rfl rfl (by kernel_rfl) np sf ?_
      refine Pw.one 3 (nb 6 31) rfl (by kernel_rfl) ?_
      refine Pw.make rfl rfl rfl rfl rfl rfl (show 4 * k ≤ _ by omega) (by simp only [maxLen]; omega) rfl rfl (fun g2 => ?_)
      refine Pw.held sf ?_
      refine Pw.takeP 5 (nb 6 63) rfl rfl rfl rfl (by kernel_rfl) np sf ?_
      refine Pw.done (by kernel_rfl) ?_
      rw [ez]
      first | exact Pw.arrive (g1, g2) trivial ⟨rfl, rfl, rfl, rfl, trivial⟩ rfl (fun w h => allNil) | exact Pw.perm (.swap ..) (Pw.arrive (g1, g2) trivial ⟨rfl, rfl, rfl, rfl, trivial⟩ rfl (fun w h => allNil))
    · skip
      refine Pw.make rfl rfl rfl rfl rfl rfl (show 4 * k ≤ _ by omega) (by simp only [maxLen]; omega) rfl rfl (fun g2 => ?_)
      refine Pw.held sf ?_
      refine Pw.one 1 (nb 6 15) rfl (by kernel_rfl) ?_
      refine Pw.make rfl rfl rfl rfl rfl rfl (show 4 * k ≤ _ by omega) (by simp only [maxLen]; omega) rfl rfl (fun g1 => ?_)
      refine Pw.held sf ?_
      refine Pw.takeP 4 (nb 6 31) rfl rfl rfl rfl (by kernel_rfl) np sf ?_
      refine Pw.takeP 5 (nb 6 63) rfl rfl rfl rfl (by kernel_rfl) np sf ?_
      refine Pw.done (by kernel_rfl) ?_
      rw [ez]
      first | exact Pw.arrive (g1, g2) trivial ⟨rfl, rfl, rfl, rfl, trivial⟩ rfl (fun w h => allNil) | exact Pw.perm (.swap ..) (Pw.arrive (g1, g2) trivial ⟨rfl, rfl, rfl, rfl, trivial⟩ rfl (fun w h => allNil))
  rintro ⟨g1, g2⟩ _
  dsimp only
  repeat (first | (with_reducible first | refine Pw.seq ?_ | refine Pw.region ?_ | refine Pw.nil ?_ | refine Pw.then_ ?_ | refine Pw.skip ?_ | refine Pw.block ?_ | refine Pw.exit ?_ | refine Pw.inX ?_ | refine Pw.inN ?_ | refine Pw.inR ?_ | refine Pw.thenX ?_ | refine Pw.thenR ?_ | refine Pw.ret ?_) | refine Pw.list (Pw.pure rfl rfl rfl ?_) | refine Pw.inY rfl ?_ | refine Pw.list (Pw.off rfl rfl ?_) | refine Pw.condT rfl ?_ | refine Pw.condF rfl ?_)
  refine Pw.loopJ (σ := Nat) (fun i => i ≤ k) (fun i => ⟨[(1, .int .u32 low), (5, .int .i64 k), (6, .slice (some ⟨g1, 0, none⟩) k k), (7, .slice (some ⟨g2, 0, none⟩) k k), (30, .int .i64 k), (31, .int .i64 i)], [⟨g1, row ((fil k i).map (Value.int .u32)) 64⟩, ⟨g2, row ((fil k i).map (Value.int .u32)) 64⟩], []⟩) (fun i => k - i) 0 (Nat.zero_le _) (Pw.enter ⟨rfl, rfl, rfl, rfl, rfl, rfl, trivial⟩ (fun _ h => h)) ?_
  rintro i hi
  dsimp only at hi ⊢
  have hfl := fil_len hi
  repeat (first | (with_reducible first | refine Pw.seq ?_ | refine Pw.region ?_ | refine Pw.nil ?_ | refine Pw.then_ ?_ | refine Pw.skip ?_ | refine Pw.block ?_ | refine Pw.exit ?_ | refine Pw.inX ?_ | refine Pw.inN ?_ | refine Pw.inR ?_ | refine Pw.thenX ?_ | refine Pw.thenR ?_ | refine Pw.ret ?_) | refine Pw.list (Pw.pure rfl rfl rfl ?_) | refine Pw.inY rfl ?_ | refine Pw.list (Pw.off rfl rfl ?_) | refine Pw.condT rfl ?_ | refine Pw.condF rfl ?_)
  refine Pw.condD rfl (fun c3 => ?_) (fun c3 => ?_)
  · have hs := fil_set (k := k) (i := i) (by omega)
    have hs' : (fil k i).set (i : Int).toNat 4294967295 = fil k (i + 1) := hs
    repeat (first | (with_reducible first | refine Pw.seq ?_ | refine Pw.region ?_ | refine Pw.nil ?_ | refine Pw.then_ ?_ | refine Pw.skip ?_ | refine Pw.block ?_ | refine Pw.exit ?_ | refine Pw.inX ?_ | refine Pw.inN ?_ | refine Pw.inR ?_ | refine Pw.thenX ?_ | refine Pw.thenR ?_ | refine Pw.ret ?_) | refine Pw.list (Pw.pure rfl rfl rfl ?_) | refine Pw.inY rfl ?_ | refine Pw.list (Pw.off rfl rfl ?_) | refine Pw.condT rfl ?_ | refine Pw.condF rfl ?_)
    refine Pw.list (Pw.indexO rfl rfl rfl rfl (by omega) (by omega) rfl rfl ?_)
    refine Pw.list (Pw.storeI rfl rfl rfl rfl rfl (by omega) (by omega) .head rfl ?_)
    rw [hs']
    refine Pw.list (Pw.indexO rfl rfl rfl rfl (by omega) (by omega) rfl rfl ?_)
    refine Pw.list (Pw.storeI rfl rfl rfl rfl rfl (by omega) (by omega) (.tail .head) rfl ?_)
    rw [hs']
    repeat (first | (with_reducible first | refine Pw.seq ?_ | refine Pw.region ?_ | refine Pw.nil ?_ | refine Pw.then_ ?_ | refine Pw.skip ?_ | refine Pw.block ?_ | refine Pw.exit ?_ | refine Pw.inX ?_ | refine Pw.inN ?_ | refine Pw.inR ?_ | refine Pw.thenX ?_ | refine Pw.thenR ?_ | refine Pw.ret ?_) | refine Pw.list (Pw.pure rfl rfl rfl ?_) | refine Pw.inY rfl ?_ | refine Pw.list (Pw.off rfl rfl ?_) | refine Pw.condT rfl ?_ | refine Pw.condF rfl ?_)
    refine Pw.re (d := 31) (v' := .int .i64 ((i + 1 : Nat) : Int)) rfl (congrArg (Value.int .i64) (by rw [wi64 (by omega) (by omega)]; rfl)) ?_
    exact Pw.again (i + 1) (by omega) (by show k - (i + 1) < k - i; omega) ⟨rfl, rfl, rfl, rfl, rfl, rfl, trivial⟩ rfl (fun w h => h)
  obtain rfl : i = k := by omega
  have hlg := fil_lg (k := i) (by omega) (bits .or .u32 low 1)
  repeat (first | (with_reducible first | refine Pw.seq ?_ | refine Pw.region ?_ | refine Pw.nil ?_ | refine Pw.then_ ?_ | refine Pw.skip ?_ | refine Pw.block ?_ | refine Pw.exit ?_ | refine Pw.inX ?_ | refine Pw.inN ?_ | refine Pw.inR ?_ | refine Pw.thenX ?_ | refine Pw.thenR ?_ | refine Pw.ret ?_) | refine Pw.list (Pw.pure rfl rfl rfl ?_) | refine Pw.inY rfl ?_ | refine Pw.list (Pw.off rfl rfl ?_) | refine Pw.condT rfl ?_ | refine Pw.condF rfl ?_)
  refine Pw.list (Pw.indexO rfl rfl rfl rfl (Int.le_refl 0) (by omega) rfl rfl ?_)
  refine Pw.list (Pw.storeI rfl rfl rfl rfl rfl (Int.le_refl 0) (by omega) .head rfl ?_)
  rw [show (fil i i).set (0 : Int).toNat (bits .or .u32 low 1) = _ from hlg]
  refine Pw.list (Pw.indexO rfl rfl rfl rfl (Int.le_refl 0) (by omega) rfl rfl ?_)
  refine Pw.list (Pw.storeI rfl rfl rfl rfl rfl (Int.le_refl 0) (by omega) (.tail .head) rfl ?_)
  rw [show (fil i i).set (0 : Int).toNat (bits .or .u32 low 1) = _ from hlg]
  obtain ⟨b0, b1, b2⟩ := or_one l0 l1
  generalize bits .or .u32 low 1 = lo at b0 b1 b2 hlg ⊢
  refine freeHead (freeHead ?_)
  obtain ⟨m, rfl⟩ : ∃ m, i = m + 2 := ⟨i - 2, by omega⟩
  rw [show m + 2 - 2 = m from rfl]
  have hlen := lg_len lo m
  have hlm := lg_lm b0 b1 m
  have hm : m + 2 ≤ 400 := by omega
  have h2 : (ofN 2).length < 1048576 := by have := ofN_len 2; omega
  have hl2 : (lg lo m).length < 1048576 := by omega
  have f2 := two_fm
  repeat (first | (with_reducible first | refine Pw.seq ?_ | refine Pw.region ?_ | refine Pw.nil ?_ | refine Pw.then_ ?_ | refine Pw.skip ?_ | refine Pw.block ?_ | refine Pw.exit ?_ | refine Pw.inX ?_ | refine Pw.inN ?_ | refine Pw.inR ?_ | refine Pw.thenX ?_ | refine Pw.thenR ?_ | refine Pw.ret ?_) | refine Pw.list (Pw.pure rfl rfl rfl ?_) | refine Pw.inY rfl ?_ | refine Pw.list (Pw.off rfl rfl ?_) | refine Pw.condT rfl ?_ | refine Pw.condF rfl ?_ | refine Pw.list (Pw.box rfl rfl rfl rfl (fun _ => ?_)) | refine Pw.list (Pw.alloc rfl rfl rfl rfl rfl (fun _ => ?_)) | refine Pw.list (Pw.build rfl rfl rfl rfl ?_) | refine Pw.list (Pw.ld rfl inferInstance rfl rfl rfl ?_) | refine Pw.list (Pw.sto rfl rfl inferInstance rfl rfl rfl rfl rfl inferInstance rfl ?_))
  refine Pw.list (Pw.call (Of_ct 2) rfl rfl rfl (by kernel_rfl) rfl rfl (fun w h => trivial) ?_)
  intro y1 _
  have mk1 := Make_ct (lg lo m) (ofN 2) (some ⟨g1, 0, none⟩, m + 2) y1 hlm (ofN_fm 2).1 hl2 h2
  rw [lg_make b0 b1 b2 hm] at mk1
  repeat (first | (with_reducible first | refine Pw.seq ?_ | refine Pw.region ?_ | refine Pw.nil ?_ | refine Pw.then_ ?_ | refine Pw.skip ?_ | refine Pw.block ?_ | refine Pw.exit ?_ | refine Pw.inX ?_ | refine Pw.inN ?_ | refine Pw.inR ?_ | refine Pw.thenX ?_ | refine Pw.thenR ?_ | refine Pw.ret ?_) | refine Pw.list (Pw.pure rfl rfl rfl ?_) | refine Pw.inY rfl ?_ | refine Pw.list (Pw.off rfl rfl ?_) | refine Pw.condT rfl ?_ | refine Pw.condF rfl ?_ | refine Pw.list (Pw.box rfl rfl rfl rfl (fun _ => ?_)) | refine Pw.list (Pw.alloc rfl rfl rfl rfl rfl (fun _ => ?_)) | refine Pw.list (Pw.build rfl rfl rfl rfl ?_) | refine Pw.list (Pw.ld rfl inferInstance rfl rfl rfl ?_) | refine Pw.list (Pw.sto rfl rfl inferInstance rfl rfl rfl rfl rfl inferInstance rfl ?_))
  refine Pw.re (d := 50) (v' := sl (lg lo m) (some ⟨g1, 0, none⟩, m + 2)) rfl (congrArg (fun q => Value.slice (some ⟨g1, 0, none⟩) q (m + 2)) hlen.symm) ?_
  refine Pw.list (Pw.call mk1 rfl rfl rfl (by kernel_rfl) rfl rfl (fun w h => ⟨ints_of_row' (by first | exact fact1 h | exact fact2 h) (by omega) (by simp only [maxLen]; omega), (hv w h)⟩) ?_)
  intro x1 _
  repeat (first | (with_reducible first | refine Pw.seq ?_ | refine Pw.region ?_ | refine Pw.nil ?_ | refine Pw.then_ ?_ | refine Pw.skip ?_ | refine Pw.block ?_ | refine Pw.exit ?_ | refine Pw.inX ?_ | refine Pw.inN ?_ | refine Pw.inR ?_ | refine Pw.thenX ?_ | refine Pw.thenR ?_ | refine Pw.ret ?_) | refine Pw.list (Pw.pure rfl rfl rfl ?_) | refine Pw.inY rfl ?_ | refine Pw.list (Pw.off rfl rfl ?_) | refine Pw.condT rfl ?_ | refine Pw.condF rfl ?_ | refine Pw.list (Pw.box rfl rfl rfl rfl (fun _ => ?_)) | refine Pw.list (Pw.alloc rfl rfl rfl rfl rfl (fun _ => ?_)) | refine Pw.list (Pw.build rfl rfl rfl rfl ?_) | refine Pw.list (Pw.ld rfl inferInstance rfl rfl rfl ?_) | refine Pw.list (Pw.sto rfl rfl inferInstance rfl rfl rfl rfl rfl inferInstance rfl ?_))
  refine Pw.list (Pw.call (Of_ct 2) rfl rfl rfl (by kernel_rfl) rfl rfl (fun w h => trivial) ?_)
  intro y2 _
  have mk2 := Make_ct (ofN 2) (lg lo m) y2 (some ⟨g2, 0, none⟩, m + 2) (ofN_fm 2).1 hlm h2 hl2
  rw [lg_make2 b0 b1 b2 hm] at mk2
  repeat (first | (with_reducible first | refine Pw.seq ?_ | refine Pw.region ?_ | refine Pw.nil ?_ | refine Pw.then_ ?_ | refine Pw.skip ?_ | refine Pw.block ?_ | refine Pw.exit ?_ | refine Pw.inX ?_ | refine Pw.inN ?_ | refine Pw.inR ?_ | refine Pw.thenX ?_ | refine Pw.thenR ?_ | refine Pw.ret ?_) | refine Pw.list (Pw.pure rfl rfl rfl ?_) | refine Pw.inY rfl ?_ | refine Pw.list (Pw.off rfl rfl ?_) | refine Pw.condT rfl ?_ | refine Pw.condF rfl ?_ | refine Pw.list (Pw.box rfl rfl rfl rfl (fun _ => ?_)) | refine Pw.list (Pw.alloc rfl rfl rfl rfl rfl (fun _ => ?_)) | refine Pw.list (Pw.build rfl rfl rfl rfl ?_) | refine Pw.list (Pw.ld rfl inferInstance rfl rfl rfl ?_) | refine Pw.list (Pw.sto rfl rfl inferInstance rfl rfl rfl rfl rfl inferInstance rfl ?_))
  refine Pw.re (d := 57) (v' := sl (lg lo m) (some ⟨g2, 0, none⟩, m + 2)) rfl (congrArg (fun q => Value.slice (some ⟨g2, 0, none⟩) q (m + 2)) hlen.symm) ?_
  refine Pw.list (Pw.call mk2 rfl rfl rfl (by kernel_rfl) rfl rfl (fun w h => ⟨(hv w h), ints_of_row' (by first | exact fact1 h | exact fact2 h | exact fact3 h | exact fact3 (allTail h) | exact fact3 (allTail (allTail h))) (by omega) (by simp only [maxLen]; omega)⟩) ?_)
  intro x2 _
  repeat (first | (with_reducible first | refine Pw.seq ?_ | refine Pw.region ?_ | refine Pw.nil ?_ | refine Pw.then_ ?_ | refine Pw.skip ?_ | refine Pw.block ?_ | refine Pw.exit ?_ | refine Pw.inX ?_ | refine Pw.inN ?_ | refine Pw.inR ?_ | refine Pw.thenX ?_ | refine Pw.thenR ?_ | refine Pw.ret ?_) | refine Pw.list (Pw.pure rfl rfl rfl ?_) | refine Pw.inY rfl ?_ | refine Pw.list (Pw.off rfl rfl ?_) | refine Pw.condT rfl ?_ | refine Pw.condF rfl ?_ | refine Pw.list (Pw.box rfl rfl rfl rfl (fun _ => ?_)) | refine Pw.list (Pw.alloc rfl rfl rfl rfl rfl (fun _ => ?_)) | refine Pw.list (Pw.build rfl rfl rfl rfl ?_) | refine Pw.list (Pw.ld rfl inferInstance rfl rfl rfl ?_) | refine Pw.list (Pw.sto rfl rfl inferInstance rfl rfl rfl rfl rfl inferInstance rfl ?_))
  have c1 := rat_Mul_ct (lg lo m) [2] (lg lo m) [2] x1 x1 hlm f2.1 hlm f2.1 hl2 (by simp) hl2 (by simp)
  rw [lg_mul b0 b1 b2 hm] at c1
  have c2 := rat_Add_ct (lg lo m) [2] (lg lo m) [2] x1 x1 hlm f2.1 hlm f2.1 hl2 (by simp) hl2 (by simp)
  rw [lg_add b0 b1 b2 hm (by omega)] at c2
  have c4 := rat_Div_ct (lg lo m) [2] [2] (lg lo m) x1 x2 hlm f2.1 f2.1 hlm hl2 (by simp) (by simp) hl2
  rw [lg_div b0 b1 b2 hm, lg_mul b0 b1 b2 hm] at c4
  have ew : wrap64 (2 * ((m + 2 : Nat) : Int)) = 2 * ((m + 2 : Nat) : Int) := wi64 (by omega) (by omega)
  have c5 := rat_Cmp_ct (lg lo m) [2] [2] (lg lo m) x1 x2 hlm f2.1 f2.1 hlm hl2 (by simp) (by simp) hl2
  have c6 := rat_Cmp_ct [2] (lg lo m) (lg lo m) [2] x2 x1 f2.1 hlm hlm f2.1 (by simp) hl2 hl2 (by simp)
  rw [(lg_cmp b0 b1 b2 hm).1] at c5
  rw [(lg_cmp b0 b1 b2 hm).2] at c6
  by_cases hh : 2 * (m + 2) ≤ 400
  · rw [if_pos hh] at c1 c4 c5 c6
    refine Pw.list (Pw.call c1 rfl rfl rfl (by kernel_rfl) rfl rfl (fun w h => ⟨(hv w h), (hv w h)⟩) ?_)
    intro x3 _
    repeat (first | (with_reducible first | refine Pw.seq ?_ | refine Pw.region ?_ | refine Pw.nil ?_ | refine Pw.then_ ?_ | refine Pw.skip ?_ | refine Pw.block ?_ | refine Pw.exit ?_ | refine Pw.inX ?_ | refine Pw.inN ?_ | refine Pw.inR ?_ | refine Pw.thenX ?_ | refine Pw.thenR ?_ | refine Pw.ret ?_) | refine Pw.list (Pw.pure rfl rfl rfl ?_) | refine Pw.inY rfl ?_ | refine Pw.list (Pw.off rfl rfl ?_) | refine Pw.condT rfl ?_ | refine Pw.condF rfl ?_ | refine Pw.list (Pw.box rfl rfl rfl rfl (fun _ => ?_)) | refine Pw.list (Pw.alloc rfl rfl rfl rfl rfl (fun _ => ?_)) | refine Pw.list (Pw.build rfl rfl rfl rfl ?_) | refine Pw.list (Pw.ld rfl inferInstance rfl rfl rfl ?_) | refine Pw.list (Pw.sto rfl rfl inferInstance rfl rfl rfl rfl rfl inferInstance rfl ?_))
    refine Pw.list (Pw.call c2 rfl rfl rfl (by kernel_rfl) rfl rfl (fun w h => ⟨(hv w h), (hv w h)⟩) ?_)
    intro x4 _
    repeat (first | (with_reducible first | refine Pw.seq ?_ | refine Pw.region ?_ | refine Pw.nil ?_ | refine Pw.then_ ?_ | refine Pw.skip ?_ | refine Pw.block ?_ | refine Pw.exit ?_ | refine Pw.inX ?_ | refine Pw.inN ?_ | refine Pw.inR ?_ | refine Pw.thenX ?_ | refine Pw.thenR ?_ | refine Pw.ret ?_) | refine Pw.list (Pw.pure rfl rfl rfl ?_) | refine Pw.inY rfl ?_ | refine Pw.list (Pw.off rfl rfl ?_) | refine Pw.condT rfl ?_ | refine Pw.condF rfl ?_ | refine Pw.list (Pw.box rfl rfl rfl rfl (fun _ => ?_)) | refine Pw.list (Pw.alloc rfl rfl rfl rfl rfl (fun _ => ?_)) | refine Pw.list (Pw.build rfl rfl rfl rfl ?_) | refine Pw.list (Pw.ld rfl inferInstance rfl rfl rfl ?_) | refine Pw.list (Pw.sto rfl rfl inferInstance rfl rfl rfl rfl rfl inferInstance rfl ?_))
    refine Pw.list (Pw.call c4 rfl rfl rfl (by kernel_rfl) rfl rfl (fun w h => ⟨(hv w h), (hv w h)⟩) ?_)
    intro x5 _
    repeat (first | (with_reducible first | refine Pw.seq ?_ | refine Pw.region ?_ | refine Pw.nil ?_ | refine Pw.then_ ?_ | refine Pw.skip ?_ | refine Pw.block ?_ | refine Pw.exit ?_ | refine Pw.inX ?_ | refine Pw.inN ?_ | refine Pw.inR ?_ | refine Pw.thenX ?_ | refine Pw.thenR ?_ | refine Pw.ret ?_) | refine Pw.list (Pw.pure rfl rfl rfl ?_) | refine Pw.inY rfl ?_ | refine Pw.list (Pw.off rfl rfl ?_) | refine Pw.condT rfl ?_ | refine Pw.condF rfl ?_ | refine Pw.list (Pw.box rfl rfl rfl rfl (fun _ => ?_)) | refine Pw.list (Pw.alloc rfl rfl rfl rfl rfl (fun _ => ?_)) | refine Pw.list (Pw.build rfl rfl rfl rfl ?_) | refine Pw.list (Pw.ld rfl inferInstance rfl rfl rfl ?_) | refine Pw.list (Pw.sto rfl rfl inferInstance rfl rfl rfl rfl rfl inferInstance rfl ?_))
    refine Pw.condD rfl (fun c9 => absurd c9 (by rw [ew]; omega)) (fun c9 => ?_)
    repeat (first | (with_reducible first | refine Pw.seq ?_ | refine Pw.region ?_ | refine Pw.nil ?_ | refine Pw.then_ ?_ | refine Pw.skip ?_ | refine Pw.block ?_ | refine Pw.exit ?_ | refine Pw.inX ?_ | refine Pw.inN ?_ | refine Pw.inR ?_ | refine Pw.thenX ?_ | refine Pw.thenR ?_ | refine Pw.ret ?_) | refine Pw.list (Pw.pure rfl rfl rfl ?_) | refine Pw.inY rfl ?_ | refine Pw.list (Pw.off rfl rfl ?_) | refine Pw.condT rfl ?_ | refine Pw.condF rfl ?_ | refine Pw.list (Pw.box rfl rfl rfl rfl (fun _ => ?_)) | refine Pw.list (Pw.alloc rfl rfl rfl rfl rfl (fun _ => ?_)) | refine Pw.list (Pw.build rfl rfl rfl rfl ?_) | refine Pw.list (Pw.ld rfl inferInstance rfl rfl rfl ?_) | refine Pw.list (Pw.sto rfl rfl inferInstance rfl rfl rfl rfl rfl inferInstance rfl ?_))
    refine Pw.list (Pw.call c5 rfl rfl rfl (by kernel_rfl) rfl rfl (fun w h => ⟨(hv w h), (hv w h)⟩) ?_)
    intro _ _
    repeat (first | (with_reducible first | refine Pw.seq ?_ | refine Pw.region ?_ | refine Pw.nil ?_ | refine Pw.then_ ?_ | refine Pw.skip ?_ | refine Pw.block ?_ | refine Pw.exit ?_ | refine Pw.inX ?_ | refine Pw.inN ?_ | refine Pw.inR ?_ | refine Pw.thenX ?_ | refine Pw.thenR ?_ | refine Pw.ret ?_) | refine Pw.list (Pw.pure rfl rfl rfl ?_) | refine Pw.inY rfl ?_ | refine Pw.list (Pw.off rfl rfl ?_) | refine Pw.condT rfl ?_ | refine Pw.condF rfl ?_ | refine Pw.list (Pw.box rfl rfl rfl rfl (fun _ => ?_)) | refine Pw.list (Pw.alloc rfl rfl rfl rfl rfl (fun _ => ?_)) | refine Pw.list (Pw.build rfl rfl rfl rfl ?_) | refine Pw.list (Pw.ld rfl inferInstance rfl rfl rfl ?_) | refine Pw.list (Pw.sto rfl rfl inferInstance rfl rfl rfl rfl rfl inferInstance rfl ?_))
    refine Pw.list (Pw.call c6 rfl rfl rfl (by kernel_rfl) rfl rfl (fun w h => ⟨(hv w h), (hv w h)⟩) ?_)
    intro _ _
    repeat (first | (with_reducible first | refine Pw.seq ?_ | refine Pw.region ?_ | refine Pw.nil ?_ | refine Pw.then_ ?_ | refine Pw.skip ?_ | refine Pw.block ?_ | refine Pw.exit ?_ | refine Pw.inX ?_ | refine Pw.inN ?_ | refine Pw.inR ?_ | refine Pw.thenX ?_ | refine Pw.thenR ?_ | refine Pw.ret ?_) | refine Pw.list (Pw.pure rfl rfl rfl ?_) | refine Pw.inY rfl ?_ | refine Pw.list (Pw.off rfl rfl ?_) | refine Pw.condT rfl ?_ | refine Pw.condF rfl ?_ | refine Pw.list (Pw.box rfl rfl rfl rfl (fun _ => ?_)) | refine Pw.list (Pw.alloc rfl rfl rfl rfl rfl (fun _ => ?_)) | refine Pw.list (Pw.build rfl rfl rfl rfl ?_) | refine Pw.list (Pw.ld rfl inferInstance rfl rfl rfl ?_) | refine Pw.list (Pw.sto rfl rfl inferInstance rfl rfl rfl rfl rfl inferInstance rfl ?_))
    exact Pw.ret_ (x := ()) (.tmp rfl .nil) rfl trivial (fun w h => by trivial)
  · rw [if_neg hh] at c1 c4 c5 c6
    refine Pw.list (Pw.call c1 rfl rfl rfl (by kernel_rfl) rfl rfl (fun w h => ⟨(hv w h), (hv w h)⟩) ?_)
    intro x3 _
    repeat (first | (with_reducible first | refine Pw.seq ?_ | refine Pw.region ?_ | refine Pw.nil ?_ | refine Pw.then_ ?_ | refine Pw.skip ?_ | refine Pw.block ?_ | refine Pw.exit ?_ | refine Pw.inX ?_ | refine Pw.inN ?_ | refine Pw.inR ?_ | refine Pw.thenX ?_ | refine Pw.thenR ?_ | refine Pw.ret ?_) | refine Pw.list (Pw.pure rfl rfl rfl ?_) | refine Pw.inY rfl ?_ | refine Pw.list (Pw.off rfl rfl ?_) | refine Pw.condT rfl ?_ | refine Pw.condF rfl ?_ | refine Pw.list (Pw.box rfl rfl rfl rfl (fun _ => ?_)) | refine Pw.list (Pw.alloc rfl rfl rfl rfl rfl (fun _ => ?_)) | refine Pw.list (Pw.build rfl rfl rfl rfl ?_) | refine Pw.list (Pw.ld rfl inferInstance rfl rfl rfl ?_) | refine Pw.list (Pw.sto rfl rfl inferInstance rfl rfl rfl rfl rfl inferInstance rfl ?_))
    refine Pw.list (Pw.call c2 rfl rfl rfl (by kernel_rfl) rfl rfl (fun w h => ⟨(hv w h), (hv w h)⟩) ?_)
    intro x4 _
    repeat (first | (with_reducible first | refine Pw.seq ?_ | refine Pw.region ?_ | refine Pw.nil ?_ | refine Pw.then_ ?_ | refine Pw.skip ?_ | refine Pw.block ?_ | refine Pw.exit ?_ | refine Pw.inX ?_ | refine Pw.inN ?_ | refine Pw.inR ?_ | refine Pw.thenX ?_ | refine Pw.thenR ?_ | refine Pw.ret ?_) | refine Pw.list (Pw.pure rfl rfl rfl ?_) | refine Pw.inY rfl ?_ | refine Pw.list (Pw.off rfl rfl ?_) | refine Pw.condT rfl ?_ | refine Pw.condF rfl ?_ | refine Pw.list (Pw.box rfl rfl rfl rfl (fun _ => ?_)) | refine Pw.list (Pw.alloc rfl rfl rfl rfl rfl (fun _ => ?_)) | refine Pw.list (Pw.build rfl rfl rfl rfl ?_) | refine Pw.list (Pw.ld rfl inferInstance rfl rfl rfl ?_) | refine Pw.list (Pw.sto rfl rfl inferInstance rfl rfl rfl rfl rfl inferInstance rfl ?_))
    refine Pw.list (Pw.call c4 rfl rfl rfl (by kernel_rfl) rfl rfl (fun w h => ⟨(hv w h), (hv w h)⟩) ?_)
    intro x5 _
    repeat (first | (with_reducible first | refine Pw.seq ?_ | refine Pw.region ?_ | refine Pw.nil ?_ | refine Pw.then_ ?_ | refine Pw.skip ?_ | refine Pw.block ?_ | refine Pw.exit ?_ | refine Pw.inX ?_ | refine Pw.inN ?_ | refine Pw.inR ?_ | refine Pw.thenX ?_ | refine Pw.thenR ?_ | refine Pw.ret ?_) | refine Pw.list (Pw.pure rfl rfl rfl ?_) | refine Pw.inY rfl ?_ | refine Pw.list (Pw.off rfl rfl ?_) | refine Pw.condT rfl ?_ | refine Pw.condF rfl ?_ | refine Pw.list (Pw.box rfl rfl rfl rfl (fun _ => ?_)) | refine Pw.list (Pw.alloc rfl rfl rfl rfl rfl (fun _ => ?_)) | refine Pw.list (Pw.build rfl rfl rfl rfl ?_) | refine Pw.list (Pw.ld rfl inferInstance rfl rfl rfl ?_) | refine Pw.list (Pw.sto rfl rfl inferInstance rfl rfl rfl rfl rfl inferInstance rfl ?_))
    refine Pw.condD rfl (fun c9 => ?_) (fun c9 => absurd (show 2 * ((m + 2 : Nat) : Int) > 400 by omega) (by rw [← ew]; exact c9))
    repeat (first | (with_reducible first | refine Pw.seq ?_ | refine Pw.region ?_ | refine Pw.nil ?_ | refine Pw.then_ ?_ | refine Pw.skip ?_ | refine Pw.block ?_ | refine Pw.exit ?_ | refine Pw.inX ?_ | refine Pw.inN ?_ | refine Pw.inR ?_ | refine Pw.thenX ?_ | refine Pw.thenR ?_ | refine Pw.ret ?_) | refine Pw.list (Pw.pure rfl rfl rfl ?_) | refine Pw.inY rfl ?_ | refine Pw.list (Pw.off rfl rfl ?_) | refine Pw.condT rfl ?_ | refine Pw.condF rfl ?_ | refine Pw.list (Pw.box rfl rfl rfl rfl (fun _ => ?_)) | refine Pw.list (Pw.alloc rfl rfl rfl rfl rfl (fun _ => ?_)) | refine Pw.list (Pw.build rfl rfl rfl rfl ?_) | refine Pw.list (Pw.ld rfl inferInstance rfl rfl rfl ?_) | refine Pw.list (Pw.sto rfl rfl inferInstance rfl rfl rfl rfl rfl inferInstance rfl ?_))
    refine Pw.list (Pw.call c5 rfl rfl rfl (by kernel_rfl) rfl rfl (fun w h => ⟨(hv w h), (hv w h)⟩) ?_)
    intro _ _
    repeat (first | (with_reducible first | refine Pw.seq ?_ | refine Pw.region ?_ | refine Pw.nil ?_ | refine Pw.then_ ?_ | refine Pw.skip ?_ | refine Pw.block ?_ | refine Pw.exit ?_ | refine Pw.inX ?_ | refine Pw.inN ?_ | refine Pw.inR ?_ | refine Pw.thenX ?_ | refine Pw.thenR ?_ | refine Pw.ret ?_) | refine Pw.list (Pw.pure rfl rfl rfl ?_) | refine Pw.inY rfl ?_ | refine Pw.list (Pw.off rfl rfl ?_) | refine Pw.condT rfl ?_ | refine Pw.condF rfl ?_ | refine Pw.list (Pw.box rfl rfl rfl rfl (fun _ => ?_)) | refine Pw.list (Pw.alloc rfl rfl rfl rfl rfl (fun _ => ?_)) | refine Pw.list (Pw.build rfl rfl rfl rfl ?_) | refine Pw.list (Pw.ld rfl inferInstance rfl rfl rfl ?_) | refine Pw.list (Pw.sto rfl rfl inferInstance rfl rfl rfl rfl rfl inferInstance rfl ?_))
    exact Pw.ret_ (x := ()) (.tmp rfl .nil) rfl trivial (fun w h => by trivial)
end Go.Proofs.Wk
