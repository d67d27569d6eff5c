/- Walks and their mathematics, merged. No conditions beyond those written. -/
import Derived.Test.YtbfcmjaomkdpgaaWmPagesCut0
import Derived.RangeFuncIn
import Derived.RangeFuncRecord
import Derived.RangeFuncLeaves
import Derived.RangeFuncOwn
import Derived.OwnWalkIn
import Derived.TacticsIn
import Derived.RowKit
import Derived.WalkArith
import Derived.Shelf.SlSortCmp.NoneTotal
import Derived.Laws.StructEq
/- A range over a function: what a walk owes, and what it gets. -/
namespace Go.Proofs.Wk
open Go.RowKit
set_option linter.unusedVariables false
set_option linter.unusedSimpArgs false
abbrev FR (r : Option Nat) : Fence := { fn := fun _ => True, depth := none, alive := false, round := r }
theorem callsFR {P : Program} {f : FuncId} {args : Array Value} {w : World} {R : Ending → World → Prop} (r : Option Nat) (m : Nat) (h : Calls P f args w R) : CallsIn (FR r) m P f args w R := by
  have h2 : CallsIn Fence.wide m P f args w R := callsIn_wide.2 h
  exact h2
theorem rowsFR {P : Program} {row : String} {args : Array Value} {w : World} {R : Value → World → Prop} (r : Option Nat) (m : Nat) (h : Go.Rows P row args w R) : RowsIn (FR r) m P row args w R := fun c cs _ =>
  let ⟨v, w', rr, s⟩ := h c cs
  ⟨v, w', rr, (stepsIn_wide (P := P)).2 s⟩
def noDef (o : Oper) : Bool := match o.op with | .defer _ => false | _ => true
theorem noDef_spec {o : Oper} (h : noDef o = true) : ∀ c, o.op ≠ .defer c := fun c e => by simp [noDef, e] at h
section
variable {P : Program} {ops : Array Oper} {Q : Exit → Act → World → Prop} {N : Act → World → Prop} {o : Oper} {a : Act} {w : World} {r : Option Nat} {m : Nat}
theorem oper_in (hd : noDef o = true) (h : o.wp P a w N Q) : o.wpIn (FR r) m P a w N Q := by
  refine ⟨fun _ _ => trivial, ?_⟩
  rw [Oper.semAt_plain (FR r) a.eval o (noDef_spec hd)]
  unfold Oper.wp at h
  generalize (execOp a.eval o).run P w = res at h ⊢
  unfold Oper.upon at h
  split at h
  next => exact h
  next => exact h
  next => exact h
  next => exact ⟨fun e => absurd e (by simp), callsFR r _ h⟩
  next => exact ⟨fun e => absurd e (by simp), rowsFR r _ h⟩
  next => exact h
  next => exact h.elim
theorem opG_in (hd : noDef o = true) (h : OpG P ops o N Q a w) : (if Region.wanted o (yielded ops a.tmps) = true then o.wpIn (FR r) m P a w N Q else (∀ f, o.about P w a.eval = some f → (FR r).fn f) ∧ N (a.put o.dst undef) w) := by
  unfold OpG at h
  split at h
  next hw => rw [if_pos hw]; exact oper_in hd h
  next hw => rw [if_neg hw]; exact ⟨fun _ _ => trivial, h⟩
theorem list_in (hQ : ∀ a w, ¬ Q .outgrown a w) : ∀ (l : List Oper), l.all noDef = true → ∀ a w, wpList P ops Q l a w → wpListIn (FR r) m P ops Q l a w
  | [], _, a, w, h => h
  | o :: l, hl, a, w, h => by
    rw [List.all_cons, Bool.and_eq_true] at hl
    unfold wpList at h
    unfold wpListIn
    split at h
    next hw =>
      rw [if_pos hw]
      rcases h with h | ⟨_, a0, w0, h⟩
      · have h2 := oper_in (r := r) (m := m) hl.1 h
        exact Oper.wpIn_mono (fun a w k => list_in hQ l hl.2 a w k) h2
      · exact absurd h (hQ _ _)
    next hw => rw [if_neg hw]; exact ⟨fun _ _ => trivial, list_in hQ l hl.2 _ _ h⟩
theorem ops_in (hQ : ∀ a w, ¬ Q .outgrown a w) (hall : ∀ (i : Nat) (o : Oper), ops[i]? = some o → noDef o = true) : ∀ (l : List Nat) a w, wpOps P ops Q l a w → wpOpsIn (FR r) m P ops Q l a w
  | [], a, w, h => h
  | i :: l, a, w, h => by
    unfold wpOps at h
    unfold wpOpsIn
    cases ho : ops[i]? with
    | none => rw [ho] at h; exact ops_in hQ hall l a w h
    | some o =>
      rw [ho] at h
      dsimp only at h ⊢
      split at h
      next hw =>
        rw [if_pos hw]
        rcases h with h | ⟨_, a0, w0, h⟩
        · exact Oper.wpIn_mono (fun a w k => ops_in hQ hall l a w k) (oper_in (r := r) (m := m) (hall i o ho) h)
        · exact absurd h (hQ _ _)
      next hw => rw [if_neg hw]; exact ⟨fun _ _ => trivial, ops_in hQ hall l _ _ h⟩
end
class NOut (Q : Exit → Act → World → Prop) : Prop where
  h : ∀ a w, ¬ Q .outgrown a w
instance {Q : Exit → Act → World → Prop} {N : Act → World → Prop} [i : NOut Q] : NOut (Exit.then N Q) := ⟨i.h⟩
instance {Q : Exit → Act → World → Prop} {n : Nat} [i : NOut Q] : NOut (Exit.inBlock n Q) := ⟨i.h⟩
instance : NOut (fun _ _ _ => False) := ⟨fun _ _ h => h⟩
/-- A round's end. -/
def RoundEnd (Y : Act → World → Prop) : Exit → Act → World → Prop
  | .normal, a, w => Y a w
  | _, _, _ => False
instance {Y : Act → World → Prop} : NOut (RoundEnd Y) := ⟨fun _ _ h => h⟩
instance {Y : Act → World → Prop} : NPan (RoundEnd Y) := ⟨fun c a w d v h => h⟩
instance : NPan (fun _ _ _ => False) := ⟨fun c a w d v h => h⟩
section
variable {P : Program} {w0 : World} {M O : Nat → Prop} {n : Nat} {K : Slots} {L : List Blk} {G : List (World → Prop)} {Q : Exit → Act → World → Prop} {ops : Array Oper} {rest : List Oper} {w : World} {a : Act} {X : Act → World → Prop}
  {d : Nat} {ty : TypeId} {pos : String} {af : Array Edge} {gd : Option (Nat × Bool)} {N : Act → World → Prop} {r : Option Nat} {m : Nat}
theorem Pw.listI {o : Oper} (hd : noDef o = true) (h : Pw w0 M O n K L G (OpG P ops o (wpListIn (FR r) m P ops Q rest) Q)) : Pw w0 M O n K L G (wpListIn (FR r) m P ops Q (o :: rest)) := fun a w ha hs => by
  have := opG_in (r := r) (m := m) hd (h a w ha hs)
  unfold wpListIn
  exact this
theorem Pw.nilI (h : Pw w0 M O n K L G (Q .normal)) : Pw w0 M O n K L G (wpListIn (FR r) m P ops Q []) := h
/-- A region in which yield is called. -/
theorem Pw.regionY {i : Nat} {l : List Oper} (h : Pw w0 M O n K L G (wpListIn (FR none) 1 P l.toArray Q l)) : Pw w0 M O n K L G ((Code.region i l.toArray false).wp P Q) := fun a w ha hs =>
  (wpIn_wide (n := 1)).1 (wpIn_region_lit (h a w ha hs))
theorem Pw.regionI {i : Nat} {l : List Oper} (hl : l.all noDef = true) [hQ : NOut Q] (h : Pw w0 M O n K L G (wpList P l.toArray Q l)) : Pw w0 M O n K L G ((Code.region i l.toArray false).wpIn (FR r) m P Q) := fun a w ha hs =>
  wpIn_region_lit (list_in hQ.h l hl a w (h a w ha hs))
theorem Pw.regionD {i : Nat} {l : List Oper} {sz : Nat} {bs : Array Bool} {S : World → Prop} (hm : P.follows .mixedOrders = true) (hl : l.all noDef = true) [hQ : NOut Q] (hsz : l.toArray.size = sz) (hbs : Array.replicate sz false = bs) (h : Pw w0 M O n K L G (wpAnyH P .any l.toArray Q S sz bs)) :
    Pw w0 M O n K L G ((Code.region i l.toArray true).wpIn (FR r) m P Q) := fun a w ha hs => by
  subst hbs hsz
  have h1 := h a w.drew ha hs.drew
  refine wpIn_region_draw fun t => ?_
  simp only [Region.schedule, hm, Bool.true_or, if_true]
  refine ops_in hQ.h (fun i o ho => List.all_eq_true.1 hl o (List.mem_of_getElem? (by simpa using ho))) _ _ _ ?_
  exact wpAny_sound _ t _ a _ (wpAny_of_held _ _ _ _ h1)
theorem Pw.seqI {x y : Code} (h : Pw w0 M O n K L G (x.wpIn (FR r) m P (Exit.then (y.wpIn (FR r) m P Q) Q))) : Pw w0 M O n K L G ((Code.seq x y).wpIn (FR r) m P Q) := fun a w ha hw => wpIn_seq (h a w ha hw)
theorem Pw.blockI {i : Nat} {c : Code} (h : Pw w0 M O n K L G (c.wpIn (FR r) m P (Exit.inBlock i Q))) : Pw w0 M O n K L G ((Code.block i c).wpIn (FR r) m P Q) := fun a w ha hw => wpIn_block (h a w ha hw)
theorem Pw.skipI (h : Pw w0 M O n K L G (Q .normal)) : Pw w0 M O n K L G (Code.skip.wpIn (FR r) m P Q) := fun a w ha hw => wpIn_skip (h a w ha hw)
theorem Pw.roundEnd {Y : Act → World → Prop} (h : Pw w0 M O n K L G Y) : Pw w0 M O n K L G (RoundEnd Y .normal) := h

/-! ### The iterator's side -/
/-- What is known of yield: each call ends in the next state. -/
def Yd (P : Program) (r : Nat) (N : Nat) (enc : Nat → Value) (J : Nat → World → Prop) : Prop :=
  ∀ i w1, i < N → J i w1 → ∀ m, YieldAt (FR none) m P r #[enc i] w1 (fun e w2 => e = .returned (.bool true) ∧ J (i + 1) w2)
def Iter (P : Program) (gf : FuncId) (lb : Array Value) (N : Nat) (enc : Nat → Value) (pre : World → Prop) : Prop :=
  ∀ (r : Nat) (J : Nat → World → Prop) (w : World), Yd P r N enc J → (∀ i w1 w2, J i w1 → Keep (fun _ => False) w1 w2 → J i w2) → (∀ i w1, J i w1 → pre w1) → J 0 w →
    Calls P gf (#[.func (.yield r) #[] #[]] ++ lb) w (fun e w' => (∃ v, e = .returned v) ∧ J N w')
theorem yield_run {x : Operand} {rr : Nat} {az : Array Operand} {ts : Array TypeId} {vs : List Value} (hx : ev K x = some (.func (.yield rr) #[] #[])) (hargs : evs K az.toList = some vs) (ha : Sat n K a) {dd : Option Tmp} {fn : FuncId} {tmps : Array Value} {assign body : Code}
    (hy : (Instr.yield rr vs.toArray).run P w = .ok (.round rr fn tmps assign body) w) :
    (execOp a.eval ⟨dd, .call ⟨.value x, az, ts⟩, ty, pos, af, gd⟩).run P w = .ok (.round rr fn tmps assign body) w := by
  have h1 : az.map a.eval = vs.toArray := by rw [← Array.toList_inj]; simp [evs_map ha hargs]
  simp [execOp, resolve, Deferred.ofValue, invoke, ha.eval hx, h1, hy]
theorem Pw.yield {x : Operand} {rr i NN : Nat} {az : Array Operand} {ts : Array TypeId} {enc : Nat → Value} {J : Nat → World → Prop} {pre : World → Prop} (hY : Yd P rr NN enc J) (hst : ∀ i w1 w2, J i w1 → Keep (fun _ => False) w1 w2 → J i w2) (hpre : ∀ i w1, J i w1 → pre w1) (hi : i < NN) (hJ : J i w0)
    (hx : ev K x = some (.func (.yield rr) #[] #[])) (hargs : evs K az.toList = some [enc i]) (hw : wantB K ops gd = some true) (hn : Nat.blt d n = true)
    (h : ∀ w3, J (i + 1) w3 → Pw w3 (fun _ => False) (fun _ => False) n ((d, .bool true) :: K) [] [pre] (wpListIn (FR none) m P ops Q rest)) :
    Pw w0 (fun _ => False) O n K L G (wpListIn (FR none) m P ops Q (⟨some d, .call ⟨.value x, az, ts⟩, ty, pos, af, gd⟩ :: rest)) := fun a w ha hs => by
  unfold wpListIn
  rw [if_pos (wantB_spec (o := ⟨some d, .call ⟨.value x, az, ts⟩, ty, pos, af, gd⟩) hw ha)]
  refine ⟨fun _ _ => trivial, ?_⟩
  rw [Oper.semAt_plain (FR none) a.eval _ (fun c e => by cases e)]
  obtain ⟨fn, tmps, assign, body, hy, hR⟩ := hY i w hi (hst _ _ _ hJ hs.keep) (m - 1)
  rw [yield_run hx hargs ha hy, Oper.uponIn_round]
  refine ⟨fun e => absurd e (by simp), hR.mono ?_⟩
  rintro e w3 ⟨rfl, hJ3⟩
  exact h w3 hJ3 _ w3 (ha.put hn _) ⟨Keep.refl _ _, by simp, List.Pairwise.nil, by simp, by simp, fun b e => e.elim, fun φ hφ w' k => by
    rw [List.mem_singleton.1 hφ]
    exact hpre _ _ (hst _ _ _ hJ3 (k.mono fun b _ e => e.elim id (fun ⟨x, hx, _⟩ => by cases hx)))⟩
/-- An iterator's rounds. -/
def NxtY (J : Nat → World → Prop) (Kh : Nat → Slots) (NN i n : Nat) (a : Act) (w : World) : Prop := ∃ j, i < j ∧ j ≤ NN ∧ Sat n (Kh j) a ∧ J j w
theorem Pw.loopY {c : Code} {NN : Nat} {J : Nat → World → Prop} {pre : World → Prop} (hst : ∀ i w1 w2, J i w1 → Keep (fun _ => False) w1 w2 → J i w2) (hpre : ∀ i w1, J i w1 → pre w1) (Kh : Nat → Slots) (hJ : J 0 w0) (hK : Sub (Kh 0) K)
    (hb : ∀ i w1, i ≤ NN → J i w1 → Pw w1 (fun _ => False) (fun _ => False) n (Kh i) [] [pre] (c.wp P (Exit.then (NxtY J Kh NN i n) Q))) : Pw w0 (fun _ => False) O n K L G ((Code.loop c).wp P Q) := fun a w ha hs => by
  have st : ∀ {i w1}, J i w1 → St w1 (fun _ => False) (fun _ => False) [] [pre] w1 := fun {i w1} h => ⟨Keep.refl _ _, by simp, List.Pairwise.nil, by simp, by simp, fun b e => e.elim, fun φ hφ w' k => by
    rw [List.mem_singleton.1 hφ]
    exact hpre _ _ (hst _ _ _ h (k.mono fun b _ e => e.elim id (fun ⟨x, hx, _⟩ => by cases hx)))⟩
  have key : ∀ (k i : Nat) a w, NN - i ≤ k → i ≤ NN → Sat n (Kh i) a → J i w → Code.rounds P c Q (k + 1) a w := by
    intro k
    induction k with
    | zero =>
      intro i a w hk hi ha hJ
      refine Code.wp_mono ?_ (hb i w hi hJ a w ha (st hJ))
      intro e a w h
      cases e with
      | normal => obtain ⟨j, h1, h2, _⟩ := h; omega
      | _ => exact h
    | succ k ih =>
      intro i a w hk hi ha hJ
      refine Code.wp_mono ?_ (hb i w hi hJ a w ha (st hJ))
      intro e a w h
      cases e with
      | normal => obtain ⟨j, h1, h2, h3, h4⟩ := h; exact ih j a w (by omega) h2 h3 h4
      | _ => exact h
  exact wp_loop_rounds _ (key NN 0 a w (by omega) (Nat.zero_le _) ⟨ha.defers, ha.size, fun d v e => ha.slot d v (hK.lk d v e)⟩ (hst _ _ _ hJ hs.keep))
theorem Pw.againY {NN i : Nat} {J : Nat → World → Prop} {Kh : Nat → Slots} (hst : ∀ i w1 w2, J i w1 → Keep (fun _ => False) w1 w2 → J i w2) (j : Nat) (hi : i < j) (hj : j ≤ NN) (hJ : J j w0) (hK : Sub (Kh j) K) : Pw w0 (fun _ => False) O n K L G (NxtY J Kh NN i n) := fun a w ha hs =>
  ⟨j, hi, hj, ⟨ha.defers, ha.size, fun d v e => ha.slot d v (hK.lk d v e)⟩, hst _ _ _ hJ hs.keep⟩
theorem Pw.retY {fn : Func} {NN : Nat} {J : Nat → World → Prop} {vs : List Value} (hst : ∀ i w1 w2, J i w1 → Keep (fun _ => False) w1 w2 → J i w2) (hJ : J NN w0) (hv : Vs P K (St w0 (fun _ => False) O L G) fn.results.toList vs) :
    Pw w0 (fun _ => False) O n K L G (bodyPost P fn (fun e w' => (∃ v, e = .returned v) ∧ J NN w') .normal) := fun a w ha hs =>
  ⟨ha.defers, _, results_run ha hs hv, ⟨_, rfl⟩, hst _ _ _ hJ hs.keep⟩
theorem Iter.start {gf : FuncId} {fn : Func} {c : Code} {lb : Array Value} {NN : Nat} {enc : Nat → Value} {pre : World → Prop} {n : Nat} (hf : P.funcs[gf]? = some fn) (hb : fn.body = some c) (K : Nat → Slots)
    (hn : ∀ r, (#[Value.func (.yield r) #[] #[]] ++ lb).size + (fn.ntmps - (#[Value.func (.yield r) #[] #[]] ++ lb).size) = n)
    (hK : ∀ r d v, lk (K r) d = some v → ((#[Value.func (.yield r) #[] #[]] ++ lb) ++ Array.replicate (fn.ntmps - (#[Value.func (.yield r) #[] #[]] ++ lb).size) undef).getD d undef = v)
    (h : ∀ r J, Yd P r NN enc J → (∀ i w1 w2, J i w1 → Keep (fun _ => False) w1 w2 → J i w2) → (∀ i w1, J i w1 → pre w1) → ∀ w0, J 0 w0 → Pw w0 (fun _ => False) (fun _ => False) n (K r) [] [pre] (c.wp P (bodyPost P fn (fun e w' => (∃ v, e = .returned v) ∧ J NN w')))) :
    Iter P gf lb NN enc pre := fun r J w hY hst hpre h0 =>
  calls_of_wp hf hb (h r J hY hst hpre w h0 _ w ⟨rfl, by have := hn r; simp at this ⊢; omega, hK r⟩ ⟨Keep.refl _ _, by simp, List.Pairwise.nil, by simp, by simp, fun b e => e.elim, fun φ hφ w' k => by
    rw [List.mem_singleton.1 hφ]
    exact hpre _ _ (hst _ _ _ h0 (k.mono fun b _ e => e.elim id (fun ⟨x, hx, _⟩ => by cases hx)))⟩)

/-! ### The caller's side -/
theorem Upd.append {L L' T : List Blk} {b : Blk} {o : Obj} (h : Upd L b o L') : Upd (L ++ T) b o (L' ++ T) := by
  induction h with
  | head => exact .head
  | tail _ ih => exact .tail ih
theorem Upd.behind {T T' : List Blk} {b : Blk} {o : Obj} (h : Upd T b o T') : ∀ L : List Blk, Upd (L ++ T) b o (L ++ T')
  | [] => h
  | x :: L => .tail (h.behind L)
theorem putObj_keep {w : World} {l : Nat} {o : Obj} : Keep (fun b => b = l) w (w.putObj l o) := ⟨rfl, rfl, rfl, by simp [World.putObj], fun b _ hn => World.putObj_heap_other hn, Nat.le_refl _⟩
theorem St.putO {w0 : World} {M O : Nat → Prop} {L L' : List Blk} {G : List (World → Prop)} {w : World} {l : Nat} {o o' : Obj} (h : St w0 M O L G w) (hu : Upd L ⟨l, o⟩ o' L') : St w0 M O L' G (w.putObj l o') :=
  h.turn hu putObj_keep (World.putObj_heap_same (own_lt (h.own _ hu.mem)))
/-- What a round begins and ends with. -/
structure Rd where
  L : List Blk
  G : List (World → Prop)
abbrev mark (D : Nat) : Deferred := { target := .collected D, args := #[] }
def shD (D : Nat) (a : Act) : Act := { a with defers := a.defers ++ [mark D] }
end
end Go.Proofs.Wk
/- A range over a function: the statement. -/
namespace Go.Proofs.Wk
open Go.RowKit
set_option linter.unusedVariables false
set_option linter.unusedSimpArgs false
section
variable {P : Program} {w0 : World} {M O : Nat → Prop} {n : Nat} {K : Slots} {L : List Blk} {G : List (World → Prop)} {Q : Exit → Act → World → Prop} {ops : Array Oper} {rest : List Oper} {w : World} {a : Act} {X : Act → World → Prop}
  {d : Nat} {ty : TypeId} {pos : String} {af : Array Edge} {gd : Option (Nat × Bool)} {N : Act → World → Prop} {r : Option Nat} {m : Nat}
set_option maxHeartbeats 400000 in
theorem Pw.rangeFunc {σ τ : Type} {g : Operand} {p : Tmp} {assign body : Code} {gf : FuncId} {lb : Array Value} {NN : Nat} {enc : Nat → Value} {pre : World → Prop} (J : Nat → σ → Prop) (I : Nat → σ → Rd) (s0 : σ) (A : Nat → σ → τ → Prop) (B : Nat → σ → τ → Hd)
    (hg : ev K g = some (.func (.func gf) #[] lb)) (hgf : ∀ args w, (callFunc gf args).run P w = .ok (.enter gf args) w) (hit : Iter P gf lb NN enc pre) (hp : Nat.blt p n = true)
    (hJ0 : J 0 s0) (hL0 : L = (I 0 s0).L) (hG0 : ∀ w, All G w → All (I 0 s0).G w) (hpre : ∀ i s, J i s → ∀ w, All (I i s).G w → pre w)
    (hassign : ∀ i s T rr, i < NN → J i s → Pw w0 M O n ((p, enc i) :: K) ((I i s).L ++ T) (I i s).G (assign.wpIn (FR (some rr)) 0 P (Exit.then (fun a w => ∃ t, A i s t ∧ Sat n (B i s t).K a ∧ St w0 M O ((B i s t).L ++ T) (B i s t).G w) (fun _ _ _ => False))))
    (hbody : ∀ i s t T rr, i < NN → J i s → A i s t → Pw w0 M O n (B i s t).K ((B i s t).L ++ T) (B i s t).G (body.wpIn (FR (some rr)) 0 P (RoundEnd (fun a w => ∃ s', J (i + 1) s' ∧ St w0 M O ((I (i + 1) s').L ++ T) (I (i + 1) s').G w))))
    (hdone : ∀ s D, J NN s → Pw w0 M O n K (⟨D, .deferred (some [])⟩ :: (I NN s).L) (I NN s).G (fun a w => Q .normal (shD D a) w)) :
    Pw w0 M O n K L G ((Code.rangeFunc g #[p] assign body).wp P Q) := fun a w ha hs => by
  refine (wpIn_wide (n := 1)).1 (wpIn_rangeFunc (fun fn _ => ?_))
  obtain ⟨rec, hrec⟩ : ∃ rec : LoopState → Option Code → Loop, rec = fun st pe => { state := st, pending := pe, fn, tmps := a.tmps, params := #[p], assign, body, defers := w.heap.size } := ⟨_, rfl⟩
  obtain ⟨W1, hW1⟩ : ∃ W1, (w.alloc (.deferred (some []))).alloc (.loop (rec .ready none)) = W1 := ⟨_, rfl⟩
  obtain ⟨D, hD⟩ : ∃ D, D = w.heap.size := ⟨_, rfl⟩
  obtain ⟨l, hl⟩ : ∃ l, l = w.heap.size + 1 := ⟨_, rfl⟩
  have hs0 : St w0 M O L (I 0 s0).G w := ⟨hs.keep, hs.own, hs.nd, hs.base, hs.nob, hs.ob, fun φ hφ w' k => hG0 w' (fun ψ hψ => hs.cl ψ hψ w' k) φ hφ⟩
  have hs1 : St w0 M O ((I 0 s0).L ++ [⟨l, .loop (rec .ready none)⟩, ⟨D, .deferred (some [])⟩]) (I 0 s0).G W1 := by
    have h1 := (hs0.new (.deferred (some []))).new (.loop (rec .ready none))
    rw [hW1, World.size_alloc, ← hl, ← hD, hL0] at h1
    have hp : (([⟨l, .loop (rec .ready none)⟩, ⟨D, .deferred (some [])⟩] : List Blk) ++ (I 0 s0).L).Perm ((I 0 s0).L ++ ([⟨l, .loop (rec .ready none)⟩, ⟨D, .deferred (some [])⟩] : List Blk)) := List.perm_append_comm
    exact h1.perm hp
  obtain ⟨Jt, hJt⟩ : ∃ Jt : Nat → World → Prop, Jt = fun i W => ∃ s, J i s ∧ St w0 M O ((I i s).L ++ [⟨l, .loop (rec .ready none)⟩, ⟨D, .deferred (some [])⟩]) (I i s).G W := ⟨_, rfl⟩
  have lm : ∀ {X : List Blk} {o : Obj} {T : List Blk}, (⟨l, o⟩ : Blk) ∈ X ++ (⟨l, o⟩ :: T) := List.mem_append_right _ (List.mem_cons_self ..)
  have hcall := hit l Jt W1 ?yd ?st ?pr ?j0
  refine ⟨l, [mark D], W1, { target := .fn (.func gf) lb, args := #[.func (.yield l) #[] #[]] }, W1, gf, #[.func (.yield l) #[] #[]] ++ lb, W1, ?_, ?_, fun _ _ => trivial, ?_, fun e => absurd e (by simp [Fence.wide]), ?call⟩
  · rw [← hW1, hrec, hl, hD]; exact run_enterLoop_outer _ _ _ _ _
  · simp [resolve, ha.eval hg, Deferred.ofValue, show ∀ v, a.eval (.const v) = v from fun _ => rfl]
  · simp [invoke, hgf]
  case call =>
    refine (callsIn_wide (n := 1 - 1)).2 (hcall.mono ?_)
    rintro e W ⟨⟨v, rfl⟩, hJW⟩
    rw [hJt] at hJW
    obtain ⟨s, hJ, hW⟩ := hJW
    have hl0 := hW.own _ lm
    refine ⟨none, _, by have := run_endLoop (P := P) hl0 (by rw [hrec]; simp); rw [hrec] at this; exact this, ?_⟩
    rw [show ({ a with defers := [mark D] ++ a.defers } : Act) = shD D a by simp [shD, ha.defers]]
    refine hdone s D hJ a _ ha ?_
    have h4 := hW.putO (o' := .loop { rec .ready none with state := .exhausted }) (Upd.behind .head (I NN s).L)
    have h5 := h4.perm (List.perm_append_comm (l₁ := (I NN s).L))
    rw [hrec] at h5
    exact h5.drop
  case j0 => rw [hJt]; exact ⟨s0, hJ0, hs1⟩
  case pr =>
    intro i W h
    rw [hJt] at h
    obtain ⟨s, hJ, hW⟩ := h
    exact hpre i s hJ W hW.all
  case st =>
    intro i W W' h k
    rw [hJt] at h ⊢
    obtain ⟨s, hJ, hW⟩ := h
    exact ⟨s, hJ, hW.grow k⟩
  case yd =>
    intro i W hi hJW m
    rw [hJt] at hJW
    obtain ⟨s, hJ, hW⟩ := hJW
    have hl0 := hW.own _ lm
    have hy := run_yield (P := P) (args := #[enc i]) hl0 (by rw [hrec]; rfl)
    rw [hrec] at hy
    refine ⟨fn, _, assign, body, hy, roundIn_of_wpIn trivial ?_⟩
    have hsat : Sat n ((p, enc i) :: K) { tmps := (#[p].zip #[enc i]).foldl (fun tmps (t, a) => tmps.setIfInBounds t a) a.tmps, defers := [] } := by
      have h1 := ha.put hp (enc i)
      exact ⟨rfl, by simpa [Act.put] using h1.size, fun d v hd => by simpa [Act.put] using h1.slot d v hd⟩
    have hm : ∀ {c : Code} {Q Q' : Exit → Act → World → Prop} {a : Act} {w : World}, c.wpIn (FR (some l)) 0 P Q a w → (∀ e a w, Q e a w → Q' e a w) → c.wpIn (Fence.wide.inRound l) m P Q' a w := fun h1 h2 b k cs hro hb hr => by
      obtain ⟨e, a', w', q, r⟩ := h1 b k cs hro hb (fun d hd => by cases hd)
      exact ⟨e, a', w', h2 _ _ _ q, r⟩
    refine hm (hassign i s _ l hi hJ _ W hsat hW) ?_
    intro e a1 w1 h
    cases e with
    | normal =>
      obtain ⟨t, hA, ha1, hs1⟩ := h
      have hl1 := hs1.own _ lm
      refine ⟨_, run_beginRound hl1 (by rw [hrec]), ?_⟩
      have hs2 := hs1.putO (o' := .loop { rec .ready none with state := .busy }) (Upd.behind .head (B i s t).L)
      refine hm (hbody i s t _ l hi hJ hA a1 _ ha1 hs2) ?_
      intro e a3 w3 h
      cases e with
      | normal =>
        obtain ⟨s', hJ', hs3⟩ := h
        have hl3 := hs3.own _ lm
        have hend := run_endRound (P := P) none hl3
        refine ⟨_, _, hend, rfl, ?_⟩
        rw [hJt]
        refine ⟨s', hJ', ?_⟩
        have h4 := hs3.putO (o' := .loop (rec .ready none)) (Upd.behind .head (I (i + 1) s').L)
        have e1 : ({ (rec .ready none) with state := .busy } : Loop) = rec .busy none := by rw [hrec]
        rw [hrec] at h4 ⊢
        exact h4
      | _ => exact h.elim
    | _ => exact h.elim
end
end Go.Proofs.Wk
/- Functions that hold a range over a function: their end. Functions that hand blocks over. -/
namespace Go.Proofs.Wk
open Go.RowKit
set_option linter.unusedVariables false
set_option linter.unusedSimpArgs false
section
variable {P : Program} {w0 : World} {M O : Nat → Prop} {n : Nat} {K : Slots} {L : List Blk} {G : List (World → Prop)} {Q : Exit → Act → World → Prop} {ops : Array Oper} {rest : List Oper} {w : World} {a : Act} {X : Act → World → Prop}
  {d : Nat} {ty : TypeId} {pos : String} {af : Array Edge} {gd : Option (Nat × Bool)} {N : Act → World → Prop} {α : Type} {D : Nat → Prop}
theorem shD_put (D : Nat) (a : Act) (dst : Option Tmp) (v : Value) : (shD D a).put dst v = shD D (a.put dst v) := by cases dst <;> rfl
theorem list_sh (D : Nat) {Q' : Exit → Act → World → Prop} (hq : ∀ e a w, Q' e a w → Q e (shD D a) w) : ∀ (l : List Oper) (a : Act) (w : World), l.all noDef = true → wpList P ops Q' l a w → wpList P ops Q l (shD D a) w
  | [], a, w, _, h => hq _ _ _ h
  | o :: l, a, w, hl, h => by
    rw [List.all_cons, Bool.and_eq_true] at hl
    unfold wpList at h ⊢
    have hy : yielded ops (shD D a).tmps = yielded ops a.tmps := rfl
    rw [hy]
    split at h
    next hw =>
      rw [if_pos hw]
      rcases h with h | ⟨h1, a0, w1, h2⟩
      · refine .inl ?_
        unfold Oper.wp at h ⊢
        have he : execOp (shD D a).eval o = execOp a.eval o := rfl
        rw [he]
        generalize hres : (execOp a.eval o).run P w = res at h ⊢
        unfold Oper.upon at h ⊢
        split at h
        next => rw [shD_put]; exact list_sh D hq l _ _ hl.2 h
        next => rw [shD_put]; exact list_sh D hq l _ _ hl.2 h
        next d w' =>
          have e1 : ({ shD D a with defers := d :: (shD D a).defers } : Act).put o.dst undef = shD D (({ a with defers := d :: a.defers } : Act).put o.dst undef) := by
            rw [← shD_put]; rfl
          show wpList P ops Q l (({ shD D a with defers := d :: (shD D a).defers } : Act).put o.dst undef) w'
          rw [e1]; exact list_sh D hq l _ _ hl.2 h
        next f args w' =>
          refine Calls.mono h ?_
          intro e w'' h
          cases e with
          | returned v => show wpList P ops Q l ((shD D a).put o.dst v) w''; rw [shD_put]; exact list_sh D hq l _ _ hl.2 h
          | panicked c => exact hq _ _ _ h
          | outgrown => obtain ⟨a0, w1, h⟩ := h; exact ⟨_, _, hq _ _ _ h⟩
        next row args w' =>
          refine Go.Rows.mono h ?_
          intro v w'' h
          rw [shD_put]; exact list_sh D hq l _ _ hl.2 h
        next => exact hq _ _ _ h
        next => exact h
      · exact .inr ⟨h1, _, _, hq _ _ _ h2⟩
    next hw => rw [if_neg hw, shD_put]; exact list_sh D hq l _ _ hl.2 h
theorem Pw.tail {D i : Nat} {l : List Oper} (hl : l.all noDef = true) (h : Pw w0 M O n K L G (wpList P l.toArray (fun e a w => Exit.then (fun a w => Q .ret a w) Q e (shD D a) w) l)) :
    Pw w0 M O n K L G (fun a w => (Code.seq (Code.region i l.toArray false) Code.ret).wp P Q (shD D a) w) := fun a w ha hs => by
  refine wp_seq (wp_region_lit ?_)
  refine list_sh D (fun e a w h => ?_) l a w hl (h a w ha hs)
  cases e with
  | normal => exact wp_ret h
  | _ => exact h
/-! ### The end, the loop's mark being there -/
theorem calls_of_wp_marks {f : FuncId} {fn : Func} {c : Code} {args : Array Value} {w : World} {R : Ending → World → Prop} (hf : P.funcs[f]? = some fn) (hb : fn.body = some c)
    (h : c.wp P (bodyPostM Fence.wide 1 P fn R) { tmps := args ++ Array.replicate (fn.ntmps - args.size) undef, defers := [] } w) : Calls P f args w R :=
  (callsIn_wide (n := 1)).1 (callsIn_of_wp_marks hf hb trivial (wpIn_wide.2 h))
theorem leavesM {fn : Func} {R : Ending → World → Prop} {Dm : Nat} {v : Value} (ha : Sat n K a) (hD : w.heap[Dm]? = some (.deferred (some []))) (hr : (results fn a.tmps).run P (w.putObj Dm (.deferred none)) = .ok v (w.putObj Dm (.deferred none))) (h : R (.returned v) (w.putObj Dm (.deferred none))) :
    bodyPostM Fence.wide 1 P fn R .ret (shD Dm a) w := by
  show LeavesInM Fence.wide 1 P fn a.tmps R (a.defers ++ [mark Dm]) .returning w
  rw [ha.defers]
  exact ⟨by simp, .inl ⟨_, _, rfl, run_takeDeferred hD, _, hr, h⟩⟩
/-! ### Contracts of functions that hand blocks over -/
def CtPL (D : Nat → Prop) (w : World) (r : α → Value) (p : α → Prop) (bl : α → List Blk) (Ψ : α → World → Prop) (e : Ending) (w' : World) : Prop :=
  ∃ x, e = .returned (r x) ∧ p x ∧ Keep (fun _ => False) w w' ∧ (∀ b ∈ bl x, w.heap.size ≤ b.g ∧ w'.heap[b.g]? = some b.o) ∧ (bl x).Pairwise (fun x y => x.g ≠ y.g) ∧ Cls (fun b => D b ∨ ∃ y ∈ bl x, y.g = b) w' (Ψ x)
def CtL (P : Program) (f : FuncId) (args : Array Value) (pre : World → Prop) (r : α → Value) (p : α → Prop) (bl : α → List Blk) (Ψ : α → World → Prop) : Prop :=
  ∀ D w, (∀ b, D b → b < w.heap.size) → Cls D w pre → Calls P f args w (CtPL D w r p bl Ψ)
theorem St.gotL (h : St w0 M O L G w) {w' : World} (k : Keep (fun _ => False) w w') {B : List Blk} {φ : World → Prop} (hB : ∀ b ∈ B, w.heap.size ≤ b.g ∧ w'.heap[b.g]? = some b.o) (hnd : B.Pairwise (fun x y => x.g ≠ y.g)) (hφ : Cls (fun b => Dt O L b ∨ ∃ y ∈ B, y.g = b) w' φ) : St w0 M O (B ++ L) (φ :: G) w' := by
  have h' := h.grow k
  refine ⟨h'.keep, ?_, ?_, ?_, ?_, h.ob, ?_⟩
  · intro b hb
    rcases List.mem_append.1 hb with hb | hb
    · exact (hB b hb).2
    · exact h'.own b hb
  · refine List.pairwise_append.2 ⟨hnd, h.nd, fun x hx y hy e => ?_⟩
    have h1 := own_lt (h.own y hy)
    have h2 := (hB x hx).1
    omega
  · intro b hb
    rcases List.mem_append.1 hb with hb | hb
    · exact .inl (Nat.le_trans h.keep.size (hB b hb).1)
    · exact h'.base b hb
  · intro b hb
    rcases List.mem_append.1 hb with hb | hb
    · intro e; have h1 := h.ob _ e; have h2 := h.keep.size; have h3 := (hB b hb).1; omega
    · exact h'.nob b hb
  · intro ψ hψ
    rcases List.mem_cons.1 hψ with rfl | hψ
    · refine hφ.mono fun b _ e => ?_
      rcases e with e | ⟨x, hx, rfl⟩
      · exact .inl (.inl e)
      · rcases List.mem_append.1 hx with hx | hx
        · exact .inr ⟨x, hx, rfl⟩
        · exact .inl (.inr ⟨x, hx, rfl⟩)
    · intro w'' k'
      refine h.cl ψ hψ w'' ⟨k'.os.trans k.os, k'.tape.trans k.tape, k'.output.trans k.output, Nat.le_trans k.size k'.size, fun b hb hn => ?_, Nat.le_trans k.drawn k'.drawn⟩
      rw [k'.block b (Nat.lt_of_lt_of_le hb k.size) ?_, k.block b hb id]
      rintro (e | ⟨x, hx, rfl⟩)
      · exact hn (.inl e)
      · rcases List.mem_append.1 hx with hx | hx
        · have := (hB x hx).1; omega
        · exact hn (.inr ⟨x, hx, rfl⟩)
theorem Pw.callL {x : Operand} {f : FuncId} {fst cap : Array Value} {az : Array Operand} {ts : Array TypeId} {vs vs' : List Value} {pre : World → Prop} {r : α → Value} {p : α → Prop} {bl : α → List Blk} {Ψ : α → World → Prop}
    (hc : CtL P f vs'.toArray pre r p bl Ψ) (hx : ev K x = some (.func (.func f) fst cap)) (hargs : evs K az.toList = some vs) (hvs : fst.toList ++ vs ++ cap.toList = vs') (hcal : callB P f = true) (hw : wantB K ops gd = some true) (hn : Nat.blt d n = true) (hpre : ∀ w, All G w → pre w)
    (h : ∀ x, p x → Pw w0 M O n ((d, r x) :: K) (bl x ++ L) (Ψ x :: G) N) : Pw w0 M O n K L G (OpG P ops ⟨some d, .call ⟨.value x, az, ts⟩, ty, pos, af, gd⟩ N Q) := fun a w ha hs => by
  unfold OpG
  rw [if_pos (wantB_spec (o := ⟨some d, .call ⟨.value x, az, ts⟩, ty, pos, af, gd⟩) hw ha)]
  unfold Oper.wp
  rw [call_run hx hargs hvs hcal ha, Oper.upon_enter]
  refine (hc (Dt O L) w hs.dt (hs.pre hpre)).mono ?_
  rintro e w' ⟨y, rfl, hp, hk, hB, hnd, hφ⟩
  exact h y hp _ _ (ha.put hn _) (hs.gotL hk hB hnd hφ)
theorem CtL.start {f : FuncId} {fn : Func} {c : Code} {args : Array Value} {pre : World → Prop} {r : α → Value} {p : α → Prop} {bl : α → List Blk} {Ψ : α → World → Prop} {n : Nat} {K : Slots} (hf : P.funcs[f]? = some fn) (hb : fn.body = some c) (hn : args.size + (fn.ntmps - args.size) = n)
    (hK : ∀ d v, lk K d = some v → (args ++ Array.replicate (fn.ntmps - args.size) undef).getD d undef = v)
    (h : ∀ D w0, Pw w0 (fun _ => False) D n K [] [pre] (c.wp P (bodyPost P fn (CtPL D w0 r p bl Ψ)))) : CtL P f args pre r p bl Ψ := fun D w hD hp =>
  calls_of_wp hf hb (h D w _ w ⟨rfl, by simpa using hn, hK⟩ ⟨Keep.refl _ _, by simp, List.Pairwise.nil, by simp, by simp, hD, fun φ hφ => by
    rw [List.mem_singleton.1 hφ]
    exact hp.mono fun b _ e => e.elim id (fun ⟨x, hx, _⟩ => by cases hx)⟩)
/-- The same, where the body holds a range over a function. -/
theorem CtL.startM {f : FuncId} {fn : Func} {c : Code} {args : Array Value} {pre : World → Prop} {r : α → Value} {p : α → Prop} {bl : α → List Blk} {Ψ : α → World → Prop} {n : Nat} {K : Slots} (hf : P.funcs[f]? = some fn) (hb : fn.body = some c) (hn : args.size + (fn.ntmps - args.size) = n)
    (hK : ∀ d v, lk K d = some v → (args ++ Array.replicate (fn.ntmps - args.size) undef).getD d undef = v)
    (h : ∀ D w0, Pw w0 (fun _ => False) D n K [] [pre] (c.wp P (bodyPostM Fence.wide 1 P fn (CtPL D w0 r p bl Ψ)))) : CtL P f args pre r p bl Ψ := fun D w hD hp =>
  calls_of_wp_marks hf hb (h D w _ w ⟨rfl, by simpa using hn, hK⟩ ⟨Keep.refl _ _, by simp, List.Pairwise.nil, by simp, by simp, hD, fun φ hφ => by
    rw [List.mem_singleton.1 hφ]
    exact hp.mono fun b _ e => e.elim id (fun ⟨x, hx, _⟩ => by cases hx)⟩)
theorem CtPL.of_st {D0 : Nat → Prop} {r : α → Value} {p : α → Prop} {bl : α → List Blk} {Ψ : α → World → Prop} {x : α} {v : Value} (hs : St w0 (fun _ => False) D0 L G w) (hsub : (bl x).Sublist L) (hx : v = r x) (hp : p x) (hΨ : ∀ w, All G w → Ψ x w) : CtPL D0 w0 r p bl Ψ (.returned v) w :=
  ⟨x, by rw [hx], hp, hs.keep, fun b hb => ⟨(hs.base b (hsub.subset hb)).resolve_right id, hs.own b (hsub.subset hb)⟩, hs.nd.sublist hsub, (hs.pre hΨ).mono fun b _ e => e.elim .inl fun ⟨y, hy, e⟩ => .inr ⟨y, hsub.subset hy, e⟩⟩
theorem Pw.retL {fn : Func} {r : α → Value} {p : α → Prop} {bl : α → List Blk} {Ψ : α → World → Prop} {vs : List Value} {x : α} (hsub : (bl x).Sublist L) (hv : Vs P K (St w0 (fun _ => False) D L G) fn.results.toList vs) (hx : retv vs = r x) (hp : p x) (hΨ : ∀ w, All G w → Ψ x w) :
    Pw w0 (fun _ => False) D n K L G (bodyPost P fn (CtPL D w0 r p bl Ψ) .ret) := fun a w ha hs =>
  ⟨ha.defers, _, results_run ha hs hv, CtPL.of_st hs hsub hx hp hΨ⟩
theorem Pw.retLM {fn : Func} {r : α → Value} {p : α → Prop} {bl : α → List Blk} {Ψ : α → World → Prop} {vs : List Value} {x : α} {Dm : Nat} {L' : List Blk} (hu : Upd L ⟨Dm, .deferred (some [])⟩ (.deferred none) L') (hsub : (bl x).Sublist L') (hv : Vs P K (St w0 (fun _ => False) D L' G) fn.results.toList vs) (hx : retv vs = r x) (hp : p x) (hΨ : ∀ w, All G w → Ψ x w) :
    Pw w0 (fun _ => False) D n K L G (fun a w => bodyPostM Fence.wide 1 P fn (CtPL D w0 r p bl Ψ) .ret (shD Dm a) w) := fun a w ha hs => by
  have hs' := hs.putO hu
  exact leavesM ha (hs.own _ hu.mem) (results_run ha hs' hv) (CtPL.of_st hs' hsub hx hp hΨ)

theorem Ct.startM {f : FuncId} {fn : Func} {c : Code} {args : Array Value} {pre : World → Prop} {r : α → Value} {p : α → Prop} {Ψ : α → World → Prop} {n : Nat} {K : Slots} (hf : P.funcs[f]? = some fn) (hb : fn.body = some c) (hn : args.size + (fn.ntmps - args.size) = n)
    (hK : ∀ d v, lk K d = some v → (args ++ Array.replicate (fn.ntmps - args.size) undef).getD d undef = v)
    (h : ∀ D w0, Pw w0 (fun _ => False) D n K [] [pre] (c.wp P (bodyPostM Fence.wide 1 P fn (CtP D w0 r p Ψ)))) : Ct P f args pre r p Ψ := fun D w hD hp =>
  calls_of_wp_marks hf hb (h D w _ w ⟨rfl, by simpa using hn, hK⟩ ⟨Keep.refl _ _, by simp, List.Pairwise.nil, by simp, by simp, hD, fun φ hφ => by
    rw [List.mem_singleton.1 hφ]
    exact hp.mono fun b _ e => e.elim id (fun ⟨x, hx, _⟩ => by cases hx)⟩)
theorem CtP.of_st {D0 : Nat → Prop} {r : α → Value} {p : α → Prop} {Ψ : α → World → Prop} {x : α} {v : Value} (hs : St w0 (fun _ => False) D0 L G w) (hx : v = r x) (hp : p x) (hΨ : ∀ w, All G w → Ψ x w) : CtP D0 w0 r p Ψ (.returned v) w :=
  ⟨x, by rw [hx], hp, hs.keep, (hs.pre hΨ).mono fun b _ e => .inl e⟩
/-- An end ahead of the loop. -/
theorem Pw.retMo {fn : Func} {r : α → Value} {p : α → Prop} {Ψ : α → World → Prop} {vs : List Value} {x : α} (hv : Vs P K (St w0 (fun _ => False) D L G) fn.results.toList vs) (hx : retv vs = r x) (hp : p x) (hΨ : ∀ w, All G w → Ψ x w) :
    Pw w0 (fun _ => False) D n K L G (bodyPostM Fence.wide 1 P fn (CtP D w0 r p Ψ) .ret) := fun a w ha hs => by
  show LeavesInM Fence.wide 1 P fn a.tmps _ a.defers .returning w
  rw [ha.defers]
  exact ⟨_, results_run ha hs hv, CtP.of_st hs hx hp hΨ⟩
/-- The end behind the loop. -/
theorem Pw.retM {fn : Func} {r : α → Value} {p : α → Prop} {Ψ : α → World → Prop} {vs : List Value} {x : α} {Dm : Nat} {L' : List Blk} (hu : Upd L ⟨Dm, .deferred (some [])⟩ (.deferred none) L') (hv : Vs P K (St w0 (fun _ => False) D L' G) fn.results.toList vs) (hx : retv vs = r x) (hp : p x) (hΨ : ∀ w, All G w → Ψ x w) :
    Pw w0 (fun _ => False) D n K L G (fun a w => bodyPostM Fence.wide 1 P fn (CtP D w0 r p Ψ) .ret (shD Dm a) w) := fun a w ha hs => by
  have hs' := hs.putO hu
  exact leavesM ha (hs.own _ hu.mem) (results_run ha hs' hv) (CtP.of_st hs' hx hp hΨ)
/-! ### Rounds' ends -/
theorem Pw.arriveR {τ : Type} {A : τ → Prop} {B : τ → Hd} {T : List Blk} (t : τ) (hA : A t) (hK : Sub (B t).K K) (hL : L = (B t).L ++ T) (hG : ∀ w, All G w → All (B t).G w) :
    Pw w0 M O n K L G (fun a w => ∃ t, A t ∧ Sat n (B t).K a ∧ St w0 M O ((B t).L ++ T) (B t).G w) := fun a w ha hs =>
  ⟨t, hA, ⟨ha.defers, ha.size, fun d v e => ha.slot d v (hK.lk d v e)⟩, by rw [← hL]; exact ⟨hs.keep, hs.own, hs.nd, hs.base, hs.nob, hs.ob, fun φ hφ w' k => hG w' (fun ψ hψ => hs.cl ψ hψ w' k) φ hφ⟩⟩
theorem Pw.arriveE {σ : Type} {J : σ → Prop} {I : σ → Rd} {T : List Blk} (s : σ) (hJ : J s) (hL : L = (I s).L ++ T) (hG : ∀ w, All G w → All (I s).G w) :
    Pw w0 M O n K L G (fun a w => ∃ s, J s ∧ St w0 M O ((I s).L ++ T) (I s).G w) := fun a w ha hs =>
  ⟨s, hJ, by rw [← hL]; exact ⟨hs.keep, hs.own, hs.nd, hs.base, hs.nob, hs.ob, fun φ hφ w' k => hG w' (fun ψ hψ => hs.cl ψ hψ w' k) φ hφ⟩⟩
/-- Ways that meet again, none of them out. -/
theorem Pw.joinF {σ : Type} (J : σ → Prop) (I : σ → Hd) {c : Code} (h1 : Pw w0 M O n K L G (c.wp P (Exit.then (Arr J I w0 M O n) (fun _ _ _ => False)))) (h2 : ∀ s, J s → Pw w0 M O n (I s).K (I s).L (I s).G N) : Pw w0 M O n K L G (c.wp P (Exit.then N Q)) := fun a w ha hs =>
  Code.wp_mono (fun e a w h => by
    cases e with
    | normal => obtain ⟨s, hJ, h3, h4⟩ := h; exact h2 s hJ a w h3 h4
    | _ => exact h.elim) (h1 a w ha hs)
theorem Pw.eqL {L' : List Blk} (h : L = L') (k : Pw w0 M O n K L' G X) : Pw w0 M O n K L G X := by rw [h]; exact k
end
instance (priority := low) blksAny {L : List Blk} {G : List (World → Prop)} {g : Nat} {cs : List Value} {t : TypeId} [i : Blks [] G g cs t] : Blks L G g cs t := ⟨fun w hL h => i.h w (fun b hb => by cases hb) h⟩
theorem enters_callB {P : Program} {f : FuncId} (hc : callB P f = true) : ∀ args w, (callFunc f args).run P w = .ok (.enter f args) w := fun args w => by
  unfold callB at hc
  split at hc
  next fn hf =>
    simp only [Bool.and_eq_true, bne_iff_ne, ne_eq] at hc
    obtain ⟨c, hb⟩ := Option.isSome_iff_exists.1 hc.2
    simp [callFunc, hf, hc.1, hb]
  next => cases hc
instance {A L : List Blk} {g : Nat} {cs : List Value} {t : TypeId} [i : OwnB L g cs t] : OwnB (A ++ L) g cs t := ⟨List.mem_append_right _ i.h⟩
instance {A L L' : List Blk} {g : Nat} {cs cs' : List Value} {t : TypeId} [i : UpdC L g cs cs' t L'] : UpdC (A ++ L) g cs cs' t (A ++ L') := ⟨i.h.behind A⟩
end Go.Proofs.Wk
/- Plain facts on wrapped whole numbers and on reading a list; nothing of the program in sight. No conditions. -/
namespace Go.Proofs.Wk
open Go.RowKit

theorem wu64 (n : Int) : IntKind.u64.wrap n = n % 18446744073709551616 := by
  simp [IntKind.wrap, IntKind.bits, IntKind.signed]
theorem wu32 (n : Int) : IntKind.u32.wrap n = n % 4294967296 := by
  simp [IntKind.wrap, IntKind.bits, IntKind.signed]
theorem wu {n : Int} (h0 : 0 ≤ n) (h1 : n ≤ 18446744073709551615) : IntKind.u64.wrap n = n := by rw [wu64]; omega
theorem wi64 {n : Int} (h : -9223372036854775808 ≤ n) (h' : n ≤ 9223372036854775807) : wrap64 n = n := by
  unfold wrap64; omega
theorem wsucc {i : Nat} (h : i < 4611686018427387904) : wrap64 ((i : Int) + 1) = ((i + 1 : Nat) : Int) := by unfold wrap64; omega
theorem bu64 {n : Int} (h : (Lit.int .u64 n).wf = true) : 0 ≤ n ∧ n ≤ 18446744073709551615 := by
  simp [Lit.wf, IntKind.min, IntKind.max, IntKind.signed, IntKind.bits] at h; omega
theorem bu32 {n : Int} (h : (Lit.int .u32 n).wf = true) : 0 ≤ n ∧ n ≤ 4294967295 := by
  simp [Lit.wf, IntKind.min, IntKind.max, IntKind.signed, IntKind.bits] at h; omega
theorem bi64 {n : Int} (h : (Lit.int .i64 n).wf = true) : -9223372036854775808 ≤ n ∧ n ≤ 9223372036854775807 := by
  simp [Lit.wf, IntKind.min, IntKind.max, IntKind.signed, IntKind.bits] at h; omega
theorem rd_mem {xs : List Int} {i : Int} (h0 : 0 ≤ i) (h1 : i < (xs.length : Int)) : rd xs i ∈ xs := by
  unfold rd
  rw [List.getD_eq_getElem?_getD, List.getElem?_eq_getElem (by omega)]
  simp

end Go.Proofs.Wk
/- slices.SortFunc at rows of structs of one's own, by the shelf's contract. Conditions: as written with each theorem. -/
namespace Go.Proofs.Wk
open Go.RowKit Go.Shelf Go.Sort
set_option linter.unusedVariables false
set_option linter.unusedSimpArgs false
theorem keep_grow {w w' : World} (k : Keep (fun _ => False) w w') : ∃ q os, w' = grow (w.drewN q) os := by
  refine ⟨w'.drawn - w.drawn, w'.heap.extract w.heap.size w'.heap.size, ?_⟩
  have hh : w'.heap = w.heap ++ w'.heap.extract w.heap.size w'.heap.size := by
    apply Array.ext_getElem?
    intro i
    rcases Nat.lt_or_ge i w.heap.size with hi | hi
    · rw [Array.getElem?_append_left hi, k.block i hi id]
    · rw [Array.getElem?_append_right hi, Array.getElem?_extract]
      rcases Nat.lt_or_ge i w'.heap.size with h2 | h2
      · rw [if_pos (by omega), show w.heap.size + (i - w.heap.size) = i by omega]
      · rw [if_neg (by omega), Array.getElem?_eq_none h2]
  have hd : w'.drawn = w.drawn + (w'.drawn - w.drawn) := by have := k.drawn; omega
  cases w with
  | mk heap tape drawn os output =>
    cases w' with
    | mk heap' tape' drawn' os' output' =>
      have h1 := k.os; have h2 := k.tape; have h3 := k.output
      simp only at h1 h2 h3 hh hd
      subst h1 h2 h3
      unfold grow World.drewN
      simp only
      rw [← hh, ← hd]
section
variable {α : Type} [Inhabited α]
theorem flatK_list {enc : α → List Value} {k : Nat} (hk : ∀ x, (enc x).length = k) (h0 : 0 < k) (l : List α) : (flatK enc k l.toArray).toList = l.flatMap enc := by
  have hlen : (l.flatMap enc).length = l.length * k := by
    induction l with
    | nil => simp
    | cons x r ih => rw [List.flatMap_cons, List.length_append, ih, hk, List.length_cons, Nat.add_mul]; omega
  apply List.ext_getElem?
  intro t
  rcases Nat.lt_or_ge t (l.length * k) with ht | ht
  · have hq : t / k < l.length := (Nat.div_lt_iff_lt_mul h0).2 ht
    have hr : t % k < k := Nat.mod_lt _ h0
    have e : t = t / k * k + t % k := by rw [Nat.mul_comm]; exact (Nat.div_add_mod t k).symm
    have h1 : l[t / k]? = some l[t / k] := List.getElem?_eq_getElem hq
    have h2 : (enc l[t / k])[t % k]? = some ((enc l[t / k])[t % k]'(by rw [hk]; exact hr)) := List.getElem?_eq_getElem _
    have h3 := flat_get (sz := k) (fun y _ => hk y) h1 h2
    rw [← e] at h3
    rw [h3]
    have h4 : (flatK enc k l.toArray)[t]! = (enc l.toArray[t / k]!)[t % k]! := get_flatK enc k l.toArray t (by simpa using ht)
    have h5 : t < (flatK enc k l.toArray).size := by simpa using ht
    rw [getElem!_pos _ t h5] at h4
    rw [List.getElem?_eq_getElem (by simpa using h5), Array.getElem_toList, h4]
    congr 1
    rw [show l.toArray[t / k]! = l[t / k] by rw [getElem!_pos _ _ (by simpa using hq)]; simp]
    rw [getElem!_pos _ _ (by rw [hk]; exact hr)]
  · rw [List.getElem?_eq_none (by simpa using ht), List.getElem?_eq_none (by omega)]
theorem putCells_row {enc : α → List Value} {k : Nat} (hk : ∀ x, (enc x).length = k) (h0 : 0 < k) (l l' : List α) (hl : l'.length = l.length) (ex : List Value) : putCells id 0 (flatK enc k l'.toArray) ((l.flatMap enc ++ ex).toArray) = (l'.flatMap enc ++ ex).toArray := by
  have hlen : ∀ m : List α, (m.flatMap enc).length = m.length * k := fun m => by
    induction m with
    | nil => simp
    | cons x r ih => rw [List.flatMap_cons, List.length_append, ih, hk, List.length_cons, Nat.add_mul]; omega
  have hf := flatK_list hk h0 l'
  have hs : (flatK enc k l'.toArray).size = l'.length * k := by simp
  apply Array.ext_getElem?
  intro t
  unfold putCells
  rw [Array.getElem?_mapIdx]
  simp only [List.getElem?_toArray]
  rcases Nat.lt_or_ge t (l'.length * k) with ht | ht
  · rw [List.getElem?_append_left (by rw [hlen]; rw [hl] at ht; exact ht), List.getElem?_append_left (by rw [hlen]; exact ht), ← hf]
    have h5 : t < (flatK enc k l'.toArray).size := by omega
    rw [List.getElem?_eq_getElem (by rw [hlen]; rw [hl] at ht; exact ht)]
    simp only [Option.map_some, Nat.zero_le, Nat.zero_add, true_and, h5, if_true, id_eq, Nat.sub_zero]
    rw [getElem!_pos _ t h5, List.getElem?_eq_getElem (by simpa using h5), Array.getElem_toList]
  · rw [List.getElem?_append_right (by rw [hlen]; rw [hl] at ht; exact ht), List.getElem?_append_right (by rw [hlen]; exact ht), hlen, hlen, hl]
    cases ex[t - l.length * k]? with
    | none => rfl
    | some v => simp only [Option.map_some]; rw [if_neg (by omega)]
theorem sortW_keep {enc : α → List Value} {k : Nat} {w : World} {blk off m : Nat} {d : Array α} {os : Array Obj} : Keep (fun b => b = blk) w (sortWorldK enc k w blk off m d os) := by
  refine ⟨rfl, rfl, rfl, ?_, fun b hb hn => ?_, Nat.le_add_right _ _⟩
  · simp [sortWorldK, grow, putRowK, putRow, mapBlock, Sort.ahead]
  · simp only [sortWorldK, grow, putRowK, putRow, mapBlock, Sort.ahead]
    rw [Array.getElem?_append_left (by simpa using hb), Array.getElem?_modify, if_neg (fun e => hn e.symm)]
theorem sortW_block {enc : α → List Value} {k : Nat} (hk : ∀ x, (enc x).length = k) (h0 : 0 < k) {w : World} {g m : Nat} {l l' : List α} {ex : List Value} {t : TypeId} {os : Array Obj} (hb : w.heap[g]? = some (row (l.flatMap enc ++ ex) t)) (hl : l'.length = l.length) : (sortWorldK enc k w g 0 m l'.toArray os).heap[g]? = some (row (l'.flatMap enc ++ ex) t) := by
  have hlt := own_lt hb
  simp only [sortWorldK, grow, putRowK, putRow, mapBlock, Sort.ahead]
  rw [Array.getElem?_append_left (by simpa using hlt), Array.getElem?_modify, if_pos rfl, hb]
  show some (onCells _ (.cells _ t (0, 0))) = _
  unfold onCells
  dsimp only
  rw [putCells_row hk h0 l l' hl ex]
end
section
variable {P : Program} {w0 : World} {M O : Nat → Prop} {n : Nat} {K : Slots} {L : List Blk} {G : List (World → Prop)} {Q : Exit → Act → World → Prop} {ops : Array Oper} {rest : List Oper} {w : World} {a : Act} {X : Act → World → Prop}
  {d : Nat} {ty : TypeId} {pos : String} {af : Array Edge} {gd : Option (Nat × Bool)} {N : Act → World → Prop} {α : Type} [Inhabited α]
theorem Pw.sortK {ρ : Ren} (LS : SlLaysF0.n6 P ρ) (k : Nat) (aE : ∀ w, (isAgg (ρ.t 24)).run P w = .ok true w) (zE : ∀ w, (Go.sizeOf (ρ.t 24)).run P w = .ok k w) (enc : α → List Value) (hk : ∀ x, (enc x).length = k) (h0 : 0 < k) (h1 : ∀ x, ∀ v ∈ enc x, v.oneCell' = true) (cf : α → α → Int) (hO : SWO (ltOf cf)) (hT : ∀ x y, (ltOf cf) x y = false → (ltOf cf) y x = false → x = y)
    {f gc : FuncId} {cb : Array Value} {q : Gr} {l : List α} {L0 : List Blk} {e : TypeId} {x : Operand} {ags : Array Operand} {ts : Array TypeId} {pre : World → Prop} (hf : ρ.f 6 = f) (hcb : callB P f = true) (hgc : callB P gc = true) (hx : ev K x = some (.func (.func f) #[] #[])) (hargs : evs K ags.toList = some [gv q l.length, .func (.func gc) #[] cb]) (hL : L = gL q (l.flatMap enc) e ++ L0) (hq : gOk q (l.flatMap enc) l.length k)
    (hcmp : ∀ x y, Ct P gc (#[.agg (enc x).toArray, .agg (enc y).toArray] ++ cb) pre (fun _ : Unit => .int .i64 (cf x y)) (fun _ => True) (fun _ _ => True)) (hpre : ∀ w, All G w → pre w) (hsz : l.length < 4611686018427387904) (hw : wantB K ops gd = some true) (hn : Nat.blt d n = true)
    (h : gOk q ((l.mergeSort fun x y => !(ltOf cf) y x).flatMap enc) l.length k → Pw w0 M O n ((d, .tuple #[]) :: K) (gL q ((l.mergeSort fun x y => !(ltOf cf) y x).flatMap enc) e ++ L0) G N) :
    Pw w0 M O n K L G (OpG P ops ⟨some d, .call ⟨.value x, ags, ts⟩, ty, pos, af, gd⟩ N Q) := fun a w ha hs => by
  subst hL
  unfold OpG
  rw [if_pos (wantB_spec (o := ⟨some d, .call ⟨.value x, ags, ts⟩, ty, pos, af, gd⟩) hw ha)]
  unfold Oper.wp
  rw [call_run hx hargs rfl hcb ha, Oper.upon_enter]
  have hlen : ∀ m : List α, (m.flatMap enc).length = m.length * k := fun m => by
    induction m with
    | nil => simp
    | cons x r ih => rw [List.flatMap_cons, List.length_append, ih, hk, List.length_cons, Nat.add_mul]; omega
  have hml : (l.mergeSort fun x y => !(ltOf cf) y x).length = l.length := List.length_mergeSort l
  obtain _ | ⟨g, cap, ex⟩ := q
  · obtain ⟨hl0, _⟩ := hq
    have hnil : l = [] := List.eq_nil_of_length_eq_zero hl0
    subst hnil
    have hc := AnyF.slices_SortFunc_none LS none 0 (.func (.func gc) #[] cb) w
    rw [hf] at hc
    refine hc.mono ?_
    rintro e w' ⟨rfl, rfl⟩
    refine h ⟨rfl, by simp⟩ _ _ (ha.put hn _) ?_
    simpa using hs
  · obtain ⟨q1, q2, q3⟩ := hq
    have hb := hs.own ⟨g, row (l.flatMap enc ++ ex) e⟩ (List.mem_cons_self ..)
    have hH : HoldsK enc k w g 0 l.toArray := by
      intro j hj
      have hj' : j < l.length * k := by simpa using hj
      constructor
      · have e1 : (l.flatMap enc)[j]? = some ((flatK enc k l.toArray)[j]) := by
          have h9 := flatK_list hk h0 l
          rw [← h9, List.getElem?_eq_getElem (by simpa using hj'), Array.getElem_toList]
        rw [Nat.zero_add, cell_of_blk hb, List.getElem?_append_left (by rw [hlen]; exact hj'), e1, getElem!_pos _ j hj]
        rfl
      · simp [World.frozen?, hb]
    have hcl : CmpLays P gc cb enc k cf g 0 l.toArray.size w := by
      intro m os dk hdk x y
      have hk1 := sortW_keep (enc := enc) (k := k) (w := w) (blk := g) (off := 0) (m := m) (d := dk) (os := os)
      have hpre' : Cls (fun _ => False) (sortWorldK enc k w g 0 m dk os) pre := fun w'' k'' => hs.pre hpre w'' ((hk1.mono fun b _ e => .inr ⟨_, List.mem_cons_self .., e.symm⟩).trans (k''.mono fun b _ e => e.elim))
      refine (hcmp x y (fun _ => False) _ (fun b e => e.elim) hpre').mono ?_
      rintro e w' ⟨_, rfl, _, hk2, _⟩
      exact ⟨rfl, keep_grow hk2⟩
    have hc := AnyQ.slices_SortFunc_total LS k aE zE enc hk h1 cf hO gc cb g 0 cap l.toArray w (enters_callB hgc) hcl hH (own_lt hb) (by simpa using hsz) hT
    rw [hf] at hc
    have hargs' : (#[gv (some (g, cap, ex)) l.length, .func (.func gc) #[] cb] : Array Value) = #[.slice (some ⟨g, 0, none⟩) l.toArray.size cap, .func (.func gc) #[] cb] := by simp [gv]
    show Calls P f #[gv (some (g, cap, ex)) l.length, .func (.func gc) #[] cb] w _
    rw [hargs']
    refine hc.mono ?_
    rintro e' w' ⟨rfl, m, os, rfl⟩
    refine h ⟨by rw [hlen, hml], q2, by rw [List.length_append, hlen, hml, ← hlen l, ← List.length_append]; exact q3⟩ _ _ (ha.put hn _) ?_
    exact hs.turn (L' := ⟨g, row ((l.mergeSort fun x y => !(ltOf cf) y x).flatMap enc ++ ex) e⟩ :: L0) .head sortW_keep (sortW_block hk h0 hb hml)
end
end Go.Proofs.Wk
/- One rule more: a copy, at elements of several cells. -/
namespace Go.Proofs.Wk
open Go.RowKit
set_option linter.unusedVariables false
set_option linter.unusedSimpArgs false
section
variable {P : Program} {w0 : World} {M O : Nat → Prop} {n : Nat} {K : Slots} {L : List Blk} {G : List (World → Prop)} {Q : Exit → Act → World → Prop} {ops : Array Oper} {rest : List Oper} {w : World} {a : Act} {X : Act → World → Prop}
  {d : Nat} {ty : TypeId} {pos : String} {af : Array Edge} {gd : Option (Nat × Bool)} {N : Act → World → Prop} {S : World → Prop} {α : Type} {D : Nat → Prop}
theorem Pw.appendCopyK {s x : Operand} {t e : TypeId} {i : TypeInfo} {z : Value} {A : Option Addr} {m c g : Nat} {news : List Value} (hsv : ev K s = some (.slice (some ⟨g, 0, none⟩) 0 0)) (hx : ev K x = some (.slice A m c)) (ht : P.underlying t = some (.slice e)) (hi : P.info? e = some i) (hz : i.zero = some z) (hzs : z.cells.size = i.size)
    (hl : news.length = m * i.size) (hnews : ∀ w, St w0 M O L G w → ∀ j u, news[j]? = some u → ∃ b, A = some b ∧ w.cell? (b.add j) = some u) (hsz : 0 < i.size) (hm : m ≤ maxLen) (hb : m * i.bytes ≤ 140737488355328) (hmem : (⟨g, row [] e⟩ : Blk) ∈ L) (hw : wantB K ops gd = some true) (hn : Nat.blt d n = true)
    (h : ∀ g cap ex, m ≤ cap → (news ++ ex).length = cap * i.size → Pw w0 M O n ((d, .slice (some ⟨g, 0, none⟩) m cap) :: K) (⟨g, row (news ++ ex) e⟩ :: L) G N) (h0 : m = 0 → Pw w0 M O n ((d, .slice (some ⟨g, 0, none⟩) 0 0) :: K) L G N) :
    Pw w0 M O n K L G (OpG P ops ⟨some d, .call ⟨.builtin .append, #[s, x], #[t, t]⟩, ty, pos, af, gd⟩ N Q) :=
  Pw.stepE hw rfl hn fun a w ha hs => by
    by_cases hm0 : m = 0
    · subst hm0
      have hn0 : news = [] := List.eq_nil_of_length_eq_zero (by simpa using hl)
      refine ⟨.slice (some ⟨g, 0, none⟩) 0 0, L, G, w, ?_, hs, h0 rfl⟩
      have hf : (Builtin.firstCells i.size 0 (.slice A 0 c)).run P w = .ok #[] w := by
        cases A <;> simp [Builtin.firstCells, loadCells, loadCellsFrom]
      have : (Builtin.append_ #[t, t] ty #[.slice (some ⟨g, 0, none⟩) 0 0, .slice A 0 c]).run P w = .ok (.slice (some ⟨g, 0, none⟩) 0 0) w := by
        simp [Builtin.append_, underlying, ht, sizeOf, typeInfo, hi, Builtin.lenOf, hf, storeCells]
      simp [execOp, resolve, invoke, builtin, ha.eval hsv, ha.eval hx, this]
    · have hlen : 0 < news.length := by rw [hl]; exact Nat.mul_pos (by omega) hsz
      obtain ⟨b, rfl, _⟩ := hnews w hs 0 news[0] (List.getElem?_eq_getElem hlen)
      have hnews' : ∀ j u, news[j]? = some u → w.cell? (b.add j) = some u := fun j u hj => by
        obtain ⟨b', e, hc⟩ := hnews w hs j u hj
        cases e; exact hc
      have hr := run_append_grow (P := P) w t ty e i z ht hi hz ⟨g, 0, none⟩ 0 0 [] (by simp) (by simp) b m c news hl hnews' (by omega) (by simp only [maxLen] at hm; omega) (growslice_fits (by omega) (by simpa using hb))
      have hge := grownCap_ge w (0 + m) 0 e
      have e1 : ([] : List Value).toArray ++ news.toArray ++ Builtin.zeroCells z.cells (grownCap w (0 + m) 0 e - (0 + m)) = (news ++ (Builtin.zeroCells z.cells (grownCap w (0 + m) 0 e - (0 + m))).toList).toArray := by rw [← Array.toList_inj]; simp
      rw [e1] at hr
      simp only [Nat.zero_add] at hr hge
      refine ⟨_, _, _, _, by simp [execOp, resolve, invoke, builtin, ha.eval hsv, ha.eval hx, hr]; rfl, hs.drew.new _, h _ _ _ hge ?_⟩
      simp [size_zeroCells, hzs, hl, ← Nat.add_mul]
      congr 1; omega
variable {fuel : Nat} {l : Array Bool}
theorem Pw.takeMin {x y : Operand} {ts : Array TypeId} {k k' : IntKind} {u v : Int} (i : Nat) (l' : Array Bool) (ho : ops[i]? = some ⟨some d, .call ⟨.builtin .min, #[x, y], ts⟩, ty, pos, af, gd⟩) (hx : ev K x = some (.int k u)) (hy : ev K y = some (.int k' v)) (hw : wantB K ops gd = some true) (hn : Nat.blt d n = true) (hc : takeB ops l i l' = true) (hQ : NoPan Q) (hS : ∀ w, St w0 M O L G w → S w)
    (h : Pw w0 M O n ((d, .int k (if v < u then v else u)) :: K) L G (wpAnyH P .any ops Q S fuel l')) : Pw w0 M O n K L G (wpAnyH P .any ops Q S (fuel + 1) l) :=
  Pw.take i l' ho rfl hn hw hc hQ hS (fun a w ha _ => by simp [execOp, resolve, invoke, builtin, Builtin.min_, Builtin.min2, ha.eval hx, ha.eval hy]) h
theorem Pw.takeMax {x y : Operand} {ts : Array TypeId} {k k' : IntKind} {u v : Int} (i : Nat) (l' : Array Bool) (ho : ops[i]? = some ⟨some d, .call ⟨.builtin .max, #[x, y], ts⟩, ty, pos, af, gd⟩) (hx : ev K x = some (.int k u)) (hy : ev K y = some (.int k' v)) (hw : wantB K ops gd = some true) (hn : Nat.blt d n = true) (hc : takeB ops l i l' = true) (hQ : NoPan Q) (hS : ∀ w, St w0 M O L G w → S w)
    (h : Pw w0 M O n ((d, .int k (if v > u then v else u)) :: K) L G (wpAnyH P .any ops Q S fuel l')) : Pw w0 M O n K L G (wpAnyH P .any ops Q S (fuel + 1) l) :=
  Pw.take i l' ho rfl hn hw hc hQ hS (fun a w ha _ => by simp [execOp, resolve, invoke, builtin, Builtin.max_, Builtin.max2, ha.eval hx, ha.eval hy]) h
theorem Pw.takeCutA {x lo : Operand} {t e : TypeId} {A : Option Addr} {m c : Nat} {k : IntKind} {j : Int} {f : TypeInfo} (i : Nat) (l' : Array Bool) (ho : ops[i]? = some ⟨some d, .slice t x (some lo) none none, ty, pos, af, gd⟩) (hx : ev K x = some (.slice A m c)) (hlo : ev K lo = some (.int k j)) (ht : P.underlying t = some (.slice e)) (hf : P.info? e = some f) (h0 : 0 ≤ j) (h1 : j ≤ (m : Int)) (h2 : m ≤ c)
    (hw : wantB K ops gd = some true) (hn : Nat.blt d n = true) (hc : takeB ops l i l' = true) (hQ : NoPan Q) (hS : ∀ w, St w0 M O L G w → S w)
    (h : Pw w0 M O n ((d, .slice (Wk.cutA A j.toNat c f.size) (m - j.toNat) (c - j.toNat)) :: K) L G (wpAnyH P .any ops Q S fuel l')) : Pw w0 M O n K L G (wpAnyH P .any ops Q S (fuel + 1) l) :=
  Pw.take i l' ho rfl hn hw hc hQ hS (fun a w ha _ => by
    simp [execOp, ha.eval hx, ha.eval hlo, Instr.sliceAt, Instr.slice, Instr.sliceBounds, Instr.sliceBound, asIntOf, underlying, ht, sizeOf, typeInfo, hf, h0, h1, Wk.cutA]) h
/-- A field's place in a row of structs. -/
theorem Pw.takeFS {s : TypeId} {x : Operand} {j : Nat} {A : Addr} {fs : Array Field} {f : Field} {t : TypeInfo} (i : Nat) (l' : Array Bool) (ho : ops[i]? = some ⟨some d, .fieldAddr s x j, ty, pos, af, gd⟩) (hs : P.underlying s = some (.struct fs)) (hf : fs[j]? = some f) (hi : P.info? f.type = some t) (h0 : Nat.beq t.size 0 = false) (hx : ev K x = some (.pointer (some A)))
    (hw : wantB K ops gd = some true) (hn : Nat.blt d n = true) (hc : takeB ops l i l' = true) (hQ : NoPan Q) (hS : ∀ w, St w0 M O L G w → S w)
    (h : Pw w0 M O n ((d, .pointer (some (A.add f.offset))) :: K) L G (wpAnyH P .any ops Q S fuel l')) : Pw w0 M O n K L G (wpAnyH P .any ops Q S (fuel + 1) l) :=
  Pw.take i l' ho rfl hn hw hc hQ hS (fun a w ha _ => fieldS_run hs hf hi h0 hx ha) h
theorem Pw.takeLF {x : Operand} {ad : Addr} {u : TypeId} {sz sz' o : Nat} {j : Int} {enc : α → List Value} {held : α → World → Prop} {rs : List α} {c : Nat} {G0 : List (World → Prop)} (y : α) {v : Value} (i : Nat) (l' : Array Bool) (ho : ops[i]? = some ⟨some d, .load u x, ty, pos, af, gd⟩) (hx : ev K x = some (.pointer (some ((ad.add (j.toNat * sz)).add o)))) (hr : RowsAt G0 (some ad) α enc held sz' rs c) (hsz : sz = sz') (hi : rs[j.toNat]? = some y) (hv : (enc y)[o]? = some v) (hu : plainB P u = true)
    (hw : wantB K ops gd = some true) (hn : Nat.blt d n = true) (hc : takeB ops l i l' = true) (hQ : NoPan Q) (hS : ∀ w, St w0 M O L G w → All G0 w)
    (h : Pw w0 M O n ((d, v) :: K) L G (wpAnyH P .any ops Q (All G0) fuel l')) : Pw w0 M O n K L G (wpAnyH P .any ops Q (All G0) (fuel + 1) l) := by
  subst hsz
  exact Pw.take i l' ho rfl hn hw hc hQ hS (fun a w ha hS' => load1_run hx ha hu (by rw [add_add]; exact ((hr.h w hS').at hi).2.2 o v hv)) h
theorem Pw.takeLA {x : Operand} {ad : Addr} {u : TypeId} {sz sz' : Nat} {j : Int} {enc : α → List Value} {held : α → World → Prop} {rs : List α} {c : Nat} {G0 : List (World → Prop)} (y : α) (i : Nat) (l' : Array Bool) (ho : ops[i]? = some ⟨some d, .load u x, ty, pos, af, gd⟩) (hx : ev K x = some (.pointer (some (ad.add (j.toNat * sz))))) (hr : RowsAt G0 (some ad) α enc held sz' rs c) (hsz : sz = sz') (hi : rs[j.toNat]? = some y) (hu : aggB P u (enc y).length = true)
    (hw : wantB K ops gd = some true) (hn : Nat.blt d n = true) (hc : takeB ops l i l' = true) (hQ : NoPan Q) (hS : ∀ w, St w0 M O L G w → All G0 w)
    (h : Pw w0 M O n ((d, .agg (enc y).toArray) :: K) L G (wpAnyH P .any ops Q (All G0) fuel l')) : Pw w0 M O n K L G (wpAnyH P .any ops Q (All G0) (fuel + 1) l) := by
  subst hsz
  exact Pw.take i l' ho rfl hn hw hc hQ hS (fun a w ha hS' => loadA_run hx ha hu (fun q v hq => by rw [add_add]; exact ((hr.h w hS').at hi).2.2 q v hq)) h
end
end Go.Proofs.Wk
/- Rules: structs of numbers are compared. -/
namespace Go.Proofs.Wk
open Go.RowKit
set_option linter.unusedVariables false
set_option linter.unusedSimpArgs false
def intTy (P : Program) (u : TypeId) : Bool := match P.underlying u with | some (.int _) => true | _ => false
def int2B (P : Program) (t : TypeId) : Bool := match P.underlying t with
  | some (.struct fs) => match fs.toList with
    | [f, g] => intTy P f.type && intTy P g.type && Nat.beq f.offset 0 && Nat.beq g.offset 1 && f.name != "_" && g.name != "_" && !P.stoodInHeld t && !P.eqGuardType P.depth t
    | _ => false
  | _ => false
section
variable {P : Program} {w0 : World} {M O : Nat → Prop} {n : Nat} {K : Slots} {L : List Blk} {G : List (World → Prop)} {Q : Exit → Act → World → Prop} {ops : Array Oper} {rest : List Oper} {w : World} {a : Act} {X : Act → World → Prop}
  {d : Nat} {ty : TypeId} {pos : String} {af : Array Edge} {gd : Option (Nat × Bool)} {N : Act → World → Prop} {S : World → Prop} {α : Type} {D : Nat → Prop} {fuel : Nat} {l : Array Bool}
theorem part_int {u : TypeId} {cs : Array Value} {i : Nat} {v : Value} (hu : intTy P u = true) (hi : cs[i]? = some v) (w : World) : (part u cs i).run P w = .ok v w := by
  unfold intTy at hu
  split at hu
  · rename_i k e
    simp [part, isAgg, underlying, e, hi]
  · cases hu
theorem equal_int {u : TypeId} {k k' : IntKind} {a b : Int} (hu : intTy P u = true) (m : Nat) (w : World) : (Op.equalIn (m + 1) u (.int k a) (.int k b)).run P w = .ok (decide (a = b)) w := by
  unfold intTy at hu
  split at hu
  · rename_i k e
    rw [run_equalIn_int w m u _ k a b e]; rfl
  · cases hu
theorem eq2_run {t : TypeId} {k0 k1 : IntKind} {a b c d : Int} (h : int2B P t = true) (w : World) : (Op.equalIn 10000 t (.agg #[.int k0 a, .int k1 b]) (.agg #[.int k0 c, .int k1 d])).run P w = .ok (decide (a = c ∧ b = d)) w := by
  unfold int2B at h
  split at h
  · rename_i fs e
    split at h
    · rename_i f g e2
      simp only [Bool.and_eq_true, bne_iff_ne, ne_eq, Bool.not_eq_true', Nat.beq_eq_true_eq] at h
      obtain ⟨⟨⟨⟨⟨⟨⟨h1, h2⟩, h3⟩, h4⟩, h5⟩, h6⟩, h7⟩, h8⟩ := h
      have h3 := Nat.eq_of_beq_eq_true h3
      have h4 := Nat.eq_of_beq_eq_true h4
      have ef : P.fieldsOf t = fs := by unfold Program.fieldsOf; rw [e]
      rw [run_equalIn_struct w 9999 t _ _ (by rw [ef]; exact e) h7, ef, e2]
      have p1 := part_int (P := P) (v := .int k0 a) (cs := #[.int k0 a, .int k1 b]) (i := 0) h1 rfl
      have p2 := part_int (P := P) (v := .int k0 c) (cs := #[.int k0 c, .int k1 d]) (i := 0) h1 rfl
      have p3 := part_int (P := P) (v := .int k1 b) (cs := #[.int k0 a, .int k1 b]) (i := 1) h2 rfl
      have p4 := part_int (P := P) (v := .int k1 d) (cs := #[.int k0 c, .int k1 d]) (i := 1) h2 rfl
      have q1 : ∀ w, (Op.equalIn 9999 f.type (.int k0 a) (.int k0 c)).run P w = .ok (decide (a = c)) w := fun w => equal_int (P := P) (k := k0) (k' := k0) (a := a) (b := c) h1 9998 w
      have q2 : ∀ w, (Op.equalIn 9999 g.type (.int k1 b) (.int k1 d)).run P w = .ok (decide (b = d)) w := fun w => equal_int (P := P) (k := k1) (k' := k1) (a := b) (b := d) h2 9998 w
      by_cases e1 : a = c
      · subst e1
        by_cases e2 : b = d
        · subst e2; simp [Op.eqFields, h5, h6, h3, h4, p1, p2, p3, p4, q1, q2]
        · simp [Op.eqFields, h5, h6, h3, h4, p1, p2, p3, p4, q1, q2, e2]
      · simp [Op.eqFields, h5, h6, h3, h4, p1, p2, p3, p4, q1, q2, e1]
    · cases h
  · cases h
theorem guard2 {t : TypeId} (h : int2B P t = true) : P.eqGuardType P.depth t = false := by
  unfold int2B at h
  split at h
  · split at h
    · simp only [Bool.and_eq_true, bne_iff_ne, ne_eq, Bool.not_eq_true', Nat.beq_eq_true_eq] at h
      exact h.2
    · cases h
  · cases h
theorem neq2_exec {x y : Operand} {t t' : TypeId} {k0 k1 : IntKind} {u v u' v' : Int} (hx : ev K x = some (.agg #[.int k0 u, .int k1 v])) (hy : ev K y = some (.agg #[.int k0 u', .int k1 v'])) (ht : int2B P t = true) (ha : Sat n K a) {dd : Option Tmp} :
    (execOp a.eval ⟨dd, .binOp .neq t x y t', ty, pos, af, gd⟩).run P w = .ok (.value (.bool (!decide (u = u' ∧ v = v')))) w := by
  have h1 := run_eqGuard_agg (P := P) w .neq t x y #[.int k0 u, .int k1 v] #[.int k0 u', .int k1 v'] (guard2 ht)
  have h2 := run_neq_struct (P := P) w t #[.int k0 u, .int k1 v] #[.int k0 u', .int k1 v']
  rw [eq2_run ht] at h2
  simp only [execOp, ha.eval hx, ha.eval hy, Sem.run_bind, h1, h2, Result.andThen_ok, Sem.run_pure, map_eq_pure_bind]
theorem eql2_exec {x y : Operand} {t t' : TypeId} {k0 k1 : IntKind} {u v u' v' : Int} (hx : ev K x = some (.agg #[.int k0 u, .int k1 v])) (hy : ev K y = some (.agg #[.int k0 u', .int k1 v'])) (ht : int2B P t = true) (ha : Sat n K a) {dd : Option Tmp} :
    (execOp a.eval ⟨dd, .binOp .eql t x y t', ty, pos, af, gd⟩).run P w = .ok (.value (.bool (decide (u = u' ∧ v = v')))) w := by
  have h1 := run_eqGuard_agg (P := P) w .eql t x y #[.int k0 u, .int k1 v] #[.int k0 u', .int k1 v'] (guard2 ht)
  have h2 := run_eql_struct (P := P) w t #[.int k0 u, .int k1 v] #[.int k0 u', .int k1 v']
  rw [eq2_run ht] at h2
  simp only [execOp, ha.eval hx, ha.eval hy, Sem.run_bind, h1, h2, Result.andThen_ok, Sem.run_pure, map_eq_pure_bind]
theorem Pw.takeNeq2 {x y : Operand} {t t' : TypeId} {k0 k1 : IntKind} {u v u' v' : Int} (i : Nat) (l' : Array Bool) (ho : ops[i]? = some ⟨some d, .binOp .neq t x y t', ty, pos, af, gd⟩) (hx : ev K x = some (.agg #[.int k0 u, .int k1 v])) (hy : ev K y = some (.agg #[.int k0 u', .int k1 v'])) (ht : int2B P t = true)
    (hw : wantB K ops gd = some true) (hn : Nat.blt d n = true) (hc : takeB ops l i l' = true) (hQ : NoPan Q) (hS : ∀ w, St w0 M O L G w → S w)
    (h : Pw w0 M O n ((d, .bool (!decide (u = u' ∧ v = v'))) :: K) L G (wpAnyH P .any ops Q S fuel l')) : Pw w0 M O n K L G (wpAnyH P .any ops Q S (fuel + 1) l) :=
  Pw.take i l' ho rfl hn hw hc hQ hS (fun a w ha _ => neq2_exec hx hy ht ha) h
theorem Pw.neq2 {x y : Operand} {t t' : TypeId} {k0 k1 : IntKind} {u v u' v' : Int} (hx : ev K x = some (.agg #[.int k0 u, .int k1 v])) (hy : ev K y = some (.agg #[.int k0 u', .int k1 v'])) (ht : int2B P t = true)
    (hw : wantB K ops gd = some true) (hn : Nat.blt d n = true) (h : Pw w0 M O n ((d, .bool (!decide (u = u' ∧ v = v'))) :: K) L G N) : Pw w0 M O n K L G (OpG P ops ⟨some d, .binOp .neq t x y t', ty, pos, af, gd⟩ N Q) :=
  Pw.stepE hw rfl hn fun a w ha hs => ⟨_, _, _, w, neq2_exec hx hy ht ha, hs, h⟩
end
end Go.Proofs.Wk
/- Rules: appending what may be nothing; elements of one cell in a drawn region. -/
namespace Go.Proofs.Wk
open Go.RowKit
set_option linter.unusedVariables false
set_option linter.unusedSimpArgs false
section
variable {P : Program} {w0 : World} {M O : Nat → Prop} {n : Nat} {K : Slots} {L : List Blk} {G : List (World → Prop)} {Q : Exit → Act → World → Prop} {ops : Array Oper} {rest : List Oper} {w : World} {a : Act} {X : Act → World → Prop}
  {d : Nat} {ty : TypeId} {pos : String} {af : Array Edge} {gd : Option (Nat × Bool)} {N : Act → World → Prop} {S : World → Prop} {α : Type} {D : Nat → Prop} {fuel : Nat} {l : Array Bool}
theorem Pw.pushG {s : Gr} {m : Nat} {cells news : List Value} {L0 : List Blk} {x y : Operand} {t e : TypeId} {i : TypeInfo} {z : Value} {B : Option Addr} {k c : Nat} (hsv : ev K x = some (gv s m)) (hy : ev K y = some (.slice B k c)) (ht : P.underlying t = some (.slice e)) (hi : P.info? e = some i) (hz : i.zero = some z) (hzs : z.cells.size = i.size) (hL : L = gL s cells e ++ L0)
    (hok : gOk s cells m i.size) (hl : news.length = k * i.size) (hone : ∀ u ∈ news, u.oneCell' = true) (hnews : ∀ w, St w0 M O L G w → ∀ j u, news[j]? = some u → ∃ b, B = some b ∧ w.cell? (b.add j) = some u) (h0 : 0 < i.size) (hm : m + k ≤ maxLen) (hb : (m + k) * i.bytes ≤ 140737488355328) (hw : wantB K ops gd = some true) (hn : Nat.blt d n = true)
    (h : ∀ s', gOk s' (cells ++ news) (m + k) i.size → Pw w0 M O n ((d, gv s' (m + k)) :: K) (gL s' (cells ++ news) e ++ L0) G N) :
    Pw w0 M O n K L G (OpG P ops ⟨some d, .call ⟨.builtin .append, #[x, y], #[t, t]⟩, ty, pos, af, gd⟩ N Q) := fun a w ha hs => by
  by_cases hk : k = 0
  · subst hk
    have hn0 : news = [] := List.eq_nil_of_length_eq_zero (by simpa using hl)
    subst hn0
    subst hL
    have hf : (Builtin.firstCells i.size 0 (.slice B 0 c)).run P w = .ok #[] w := by
      cases B <;> simp [Builtin.firstCells, loadCells, loadCellsFrom]
    refine Pw.stepE (K := K) (L := gL s cells e ++ L0) (G := G) (w0 := w0) (M := M) (O := O) (o := ⟨some d, .call ⟨.builtin .append, #[x, y], #[t, t]⟩, ty, pos, af, gd⟩) hw rfl hn (fun a w ha hs => ?_) a w ha hs
    have h := h s (by simpa using hok)
    refine ⟨gv s m, gL s cells e ++ L0, G, w, ?_, hs, by simpa using h⟩
    have hf : (Builtin.firstCells i.size 0 (.slice B 0 c)).run P w = .ok #[] w := by
      cases B <;> simp [Builtin.firstCells, loadCells, loadCellsFrom]
    obtain _ | ⟨g, cap, ex⟩ := s
    · obtain ⟨rfl, rfl⟩ := hok
      have h2 : (Builtin.append_ #[t, t] ty #[.slice none 0 0, .slice B 0 c]).run P w = .ok (.slice none 0 0) w := by
        simp [Builtin.append_, underlying, ht, sizeOf, typeInfo, hi, Builtin.lenOf, hf, storeCells]
      simp [execOp, resolve, invoke, builtin, ha.eval hsv, ha.eval hy, gv, h2]
    · have h2 : (Builtin.append_ #[t, t] ty #[.slice (some ⟨g, 0, none⟩) m cap, .slice B 0 c]).run P w = .ok (.slice (some ⟨g, 0, none⟩) m cap) w := by
        simp [Builtin.append_, underlying, ht, sizeOf, typeInfo, hi, Builtin.lenOf, hf, storeCells, hok.2.1]
      simp [execOp, resolve, invoke, builtin, ha.eval hsv, ha.eval hy, gv, h2]
  · have hlen : 0 < news.length := by rw [hl]; exact Nat.mul_pos (by omega) h0
    obtain ⟨b, rfl, _⟩ := hnews w hs 0 news[0] (List.getElem?_eq_getElem hlen)
    refine Pw.push hsv hy ht hi hz hzs hL hok hl hone (fun w hs j u hu => ?_) (by omega) hm hb hw hn h a w ha hs
    obtain ⟨b', e, hc⟩ := hnews w hs j u hu
    cases e; exact hc
theorem Pw.takeLC {x : Operand} {ad : Addr} {u : TypeId} {sz sz' : Nat} {j : Int} {enc : α → List Value} {held : α → World → Prop} {rs : List α} {c : Nat} {G0 : List (World → Prop)} (y : α) {v : Value} (i : Nat) (l' : Array Bool) (ho : ops[i]? = some ⟨some d, .load u x, ty, pos, af, gd⟩) (hx : ev K x = some (.pointer (some (ad.add (j.toNat * sz))))) (hr : RowsAt G0 (some ad) α enc held sz' rs c) (hsz : sz = sz') (hi : rs[j.toNat]? = some y) (hv : (enc y)[0]? = some v) (hu : plainB P u = true)
    (hw : wantB K ops gd = some true) (hn : Nat.blt d n = true) (hc : takeB ops l i l' = true) (hQ : NoPan Q) (hS : ∀ w, St w0 M O L G w → All G0 w)
    (h : Pw w0 M O n ((d, v) :: K) L G (wpAnyH P .any ops Q (All G0) fuel l')) : Pw w0 M O n K L G (wpAnyH P .any ops Q (All G0) (fuel + 1) l) := by
  subst hsz
  exact Pw.take i l' ho rfl hn hw hc hQ hS (fun a w ha hS' => load1_run hx ha hu (((hr.h w hS').at hi).2.2 0 v hv)) h
/-- Rows' cells, whether or not there are any. -/
theorem Rows.toCellsE {α : Type} {enc : α → List Value} {held : α → World → Prop} {sz : Nat} {l : List α} {A : Option Addr} {c : Nat} {W : World} (h : Rows (RR enc held) sz l A c W) (h0 : 0 < sz) : ∀ j u, (l.flatMap enc)[j]? = some u → ∃ b, A = some b ∧ W.cell? (b.add j) = some u := by
  intro j u hu
  rcases l with _ | ⟨y, r⟩
  · simp at hu
  · have := h.has (i := 0) (by omega) (by simp only [List.length_cons]; omega)
    obtain ⟨ad, rfl⟩ := Option.isSome_iff_exists.1 this
    exact ⟨ad, rfl, h.toCells h0 j u hu⟩
end
end Go.Proofs.Wk
