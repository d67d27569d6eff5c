/- Walks and their mathematics, merged. No conditions beyond those written. -/
import Derived.Test.YtjnniobafdchlaaGreatWmPayoutPlays0
import Derived.RangeFuncIn
import Derived.RangeFuncRecord
import Derived.RangeFuncLeaves
import Derived.RangeFuncOwn
import Derived.OwnWalkIn
import Derived.TacticsIn
import Derived.RowKit
import Derived.WalkArith
import Derived.Shelf.SlSortCmp.NoneTotal
import Derived.Laws.BitsAllLaws
import Derived.Laws.StructEq
import Derived.Laws.IdiomRangeMap
/- A range over a function: what a walk owes, and what it gets. -/
namespace Go.Proofs.Wk
open Go.RowKit
set_option linter.unusedVariables false
set_option linter.unusedSimpArgs false
abbrev FR (r : Option Nat) : Fence := { fn := fun _ => True, depth := none, alive := false, round := r }
theorem callsFR {P : Program} {f : FuncId} {args : Array Value} {w : World} {R : Ending → World → Prop} (r : Option Nat) (m : Nat) (h : Calls P f args w R) : CallsIn (FR r) m P f args w R := by
  have h2 : CallsIn Fence.wide m P f args w R := callsIn_wide.2 h
  exact h2
theorem rowsFR {P : Program} {row : String} {args : Array Value} {w : World} {R : Value → World → Prop} (r : Option Nat) (m : Nat) (h : Go.Rows P row args w R) : RowsIn (FR r) m P row args w R := fun c cs _ =>
  let ⟨v, w', rr, s⟩ := h c cs
  ⟨v, w', rr, (stepsIn_wide (P := P)).2 s⟩
def noDef (o : Oper) : Bool := match o.op with | .defer _ => false | _ => true
theorem noDef_spec {o : Oper} (h : noDef o = true) : ∀ c, o.op ≠ .defer c := fun c e => by simp [noDef, e] at h
section
variable {P : Program} {ops : Array Oper} {Q : Exit → Act → World → Prop} {N : Act → World → Prop} {o : Oper} {a : Act} {w : World} {r : Option Nat} {m : Nat}
theorem oper_in (hd : noDef o = true) (h : o.wp P a w N Q) : o.wpIn (FR r) m P a w N Q := by
  refine ⟨fun _ _ => trivial, ?_⟩
  rw [Oper.semAt_plain (FR r) a.eval o (noDef_spec hd)]
  unfold Oper.wp at h
  generalize (execOp a.eval o).run P w = res at h ⊢
  unfold Oper.upon at h
  split at h
  next => exact h
  next => exact h
  next => exact h
  next => exact ⟨fun e => absurd e (by simp), callsFR r _ h⟩
  next => exact ⟨fun e => absurd e (by simp), rowsFR r _ h⟩
  next => exact h
  next => exact h.elim
theorem opG_in (hd : noDef o = true) (h : OpG P ops o N Q a w) : (if Region.wanted o (yielded ops a.tmps) = true then o.wpIn (FR r) m P a w N Q else (∀ f, o.about P w a.eval = some f → (FR r).fn f) ∧ N (a.put o.dst undef) w) := by
  unfold OpG at h
  split at h
  next hw => rw [if_pos hw]; exact oper_in hd h
  next hw => rw [if_neg hw]; exact ⟨fun _ _ => trivial, h⟩
theorem list_in (hQ : ∀ a w, ¬ Q .outgrown a w) : ∀ (l : List Oper), l.all noDef = true → ∀ a w, wpList P ops Q l a w → wpListIn (FR r) m P ops Q l a w
  | [], _, a, w, h => h
  | o :: l, hl, a, w, h => by
    rw [List.all_cons, Bool.and_eq_true] at hl
    unfold wpList at h
    unfold wpListIn
    split at h
    next hw =>
      rw [if_pos hw]
      rcases h with h | ⟨_, a0, w0, h⟩
      · have h2 := oper_in (r := r) (m := m) hl.1 h
        exact Oper.wpIn_mono (fun a w k => list_in hQ l hl.2 a w k) h2
      · exact absurd h (hQ _ _)
    next hw => rw [if_neg hw]; exact ⟨fun _ _ => trivial, list_in hQ l hl.2 _ _ h⟩
theorem ops_in (hQ : ∀ a w, ¬ Q .outgrown a w) (hall : ∀ (i : Nat) (o : Oper), ops[i]? = some o → noDef o = true) : ∀ (l : List Nat) a w, wpOps P ops Q l a w → wpOpsIn (FR r) m P ops Q l a w
  | [], a, w, h => h
  | i :: l, a, w, h => by
    unfold wpOps at h
    unfold wpOpsIn
    cases ho : ops[i]? with
    | none => rw [ho] at h; exact ops_in hQ hall l a w h
    | some o =>
      rw [ho] at h
      dsimp only at h ⊢
      split at h
      next hw =>
        rw [if_pos hw]
        rcases h with h | ⟨_, a0, w0, h⟩
        · exact Oper.wpIn_mono (fun a w k => ops_in hQ hall l a w k) (oper_in (r := r) (m := m) (hall i o ho) h)
        · exact absurd h (hQ _ _)
      next hw => rw [if_neg hw]; exact ⟨fun _ _ => trivial, ops_in hQ hall l _ _ h⟩
end
class NOut (Q : Exit → Act → World → Prop) : Prop where
  h : ∀ a w, ¬ Q .outgrown a w
instance {Q : Exit → Act → World → Prop} {N : Act → World → Prop} [i : NOut Q] : NOut (Exit.then N Q) := ⟨i.h⟩
instance {Q : Exit → Act → World → Prop} {n : Nat} [i : NOut Q] : NOut (Exit.inBlock n Q) := ⟨i.h⟩
instance : NOut (fun _ _ _ => False) := ⟨fun _ _ h => h⟩
/-- A round's end. -/
def RoundEnd (Y : Act → World → Prop) : Exit → Act → World → Prop
  | .normal, a, w => Y a w
  | _, _, _ => False
instance {Y : Act → World → Prop} : NOut (RoundEnd Y) := ⟨fun _ _ h => h⟩
instance {Y : Act → World → Prop} : NPan (RoundEnd Y) := ⟨fun c a w d v h => h⟩
instance : NPan (fun _ _ _ => False) := ⟨fun c a w d v h => h⟩
section
variable {P : Program} {w0 : World} {M O : Nat → Prop} {n : Nat} {K : Slots} {L : List Blk} {G : List (World → Prop)} {Q : Exit → Act → World → Prop} {ops : Array Oper} {rest : List Oper} {w : World} {a : Act} {X : Act → World → Prop}
  {d : Nat} {ty : TypeId} {pos : String} {af : Array Edge} {gd : Option (Nat × Bool)} {N : Act → World → Prop} {r : Option Nat} {m : Nat}
theorem Pw.listI {o : Oper} (hd : noDef o = true) (h : Pw w0 M O n K L G (OpG P ops o (wpListIn (FR r) m P ops Q rest) Q)) : Pw w0 M O n K L G (wpListIn (FR r) m P ops Q (o :: rest)) := fun a w ha hs => by
  have := opG_in (r := r) (m := m) hd (h a w ha hs)
  unfold wpListIn
  exact this
theorem Pw.nilI (h : Pw w0 M O n K L G (Q .normal)) : Pw w0 M O n K L G (wpListIn (FR r) m P ops Q []) := h
/-- A region in which yield is called. -/
theorem Pw.regionY {i : Nat} {l : List Oper} (h : Pw w0 M O n K L G (wpListIn (FR none) 1 P l.toArray Q l)) : Pw w0 M O n K L G ((Code.region i l.toArray false).wp P Q) := fun a w ha hs =>
  (wpIn_wide (n := 1)).1 (wpIn_region_lit (h a w ha hs))
theorem Pw.regionI {i : Nat} {l : List Oper} (hl : l.all noDef = true) [hQ : NOut Q] (h : Pw w0 M O n K L G (wpList P l.toArray Q l)) : Pw w0 M O n K L G ((Code.region i l.toArray false).wpIn (FR r) m P Q) := fun a w ha hs =>
  wpIn_region_lit (list_in hQ.h l hl a w (h a w ha hs))
theorem Pw.regionD {i : Nat} {l : List Oper} {sz : Nat} {bs : Array Bool} {S : World → Prop} (hm : P.follows .mixedOrders = true) (hl : l.all noDef = true) [hQ : NOut Q] (hsz : l.toArray.size = sz) (hbs : Array.replicate sz false = bs) (h : Pw w0 M O n K L G (wpAnyH P .any l.toArray Q S sz bs)) :
    Pw w0 M O n K L G ((Code.region i l.toArray true).wpIn (FR r) m P Q) := fun a w ha hs => by
  subst hbs hsz
  have h1 := h a w.drew ha hs.drew
  refine wpIn_region_draw fun t => ?_
  simp only [Region.schedule, hm, Bool.true_or, if_true]
  refine ops_in hQ.h (fun i o ho => List.all_eq_true.1 hl o (List.mem_of_getElem? (by simpa using ho))) _ _ _ ?_
  exact wpAny_sound _ t _ a _ (wpAny_of_held _ _ _ _ h1)
theorem Pw.blockI {i : Nat} {c : Code} (h : Pw w0 M O n K L G (c.wpIn (FR r) m P (Exit.inBlock i Q))) : Pw w0 M O n K L G ((Code.block i c).wpIn (FR r) m P Q) := fun a w ha hw => wpIn_block (h a w ha hw)
theorem Pw.roundEnd {Y : Act → World → Prop} (h : Pw w0 M O n K L G Y) : Pw w0 M O n K L G (RoundEnd Y .normal) := h

/-! ### The iterator's side -/
/-- What is known of yield: each call ends in the next state. -/
def Yd (P : Program) (r : Nat) (N : Nat) (enc : Nat → Value) (J : Nat → World → Prop) : Prop :=
  ∀ i w1, i < N → J i w1 → ∀ m, YieldAt (FR none) m P r #[enc i] w1 (fun e w2 => e = .returned (.bool true) ∧ J (i + 1) w2)
def Iter (P : Program) (gf : FuncId) (lb : Array Value) (N : Nat) (enc : Nat → Value) (pre : World → Prop) : Prop :=
  ∀ (r : Nat) (J : Nat → World → Prop) (w : World), Yd P r N enc J → (∀ i w1 w2, J i w1 → Keep (fun _ => False) w1 w2 → J i w2) → (∀ i w1, J i w1 → pre w1) → J 0 w →
    Calls P gf (#[.func (.yield r) #[] #[]] ++ lb) w (fun e w' => (∃ v, e = .returned v) ∧ J N w')
theorem yield_run {x : Operand} {rr : Nat} {az : Array Operand} {ts : Array TypeId} {vs : List Value} (hx : ev K x = some (.func (.yield rr) #[] #[])) (hargs : evs K az.toList = some vs) (ha : Sat n K a) {dd : Option Tmp} {fn : FuncId} {tmps : Array Value} {assign body : Code}
    (hy : (Instr.yield rr vs.toArray).run P w = .ok (.round rr fn tmps assign body) w) :
    (execOp a.eval ⟨dd, .call ⟨.value x, az, ts⟩, ty, pos, af, gd⟩).run P w = .ok (.round rr fn tmps assign body) w := by
  have h1 : az.map a.eval = vs.toArray := by rw [← Array.toList_inj]; simp [evs_map ha hargs]
  simp [execOp, resolve, Deferred.ofValue, invoke, ha.eval hx, h1, hy]
theorem Pw.yield {x : Operand} {rr i NN : Nat} {az : Array Operand} {ts : Array TypeId} {enc : Nat → Value} {J : Nat → World → Prop} {pre : World → Prop} (hY : Yd P rr NN enc J) (hst : ∀ i w1 w2, J i w1 → Keep (fun _ => False) w1 w2 → J i w2) (hpre : ∀ i w1, J i w1 → pre w1) (hi : i < NN) (hJ : J i w0)
    (hx : ev K x = some (.func (.yield rr) #[] #[])) (hargs : evs K az.toList = some [enc i]) (hw : wantB K ops gd = some true) (hn : Nat.blt d n = true)
    (h : ∀ w3, J (i + 1) w3 → Pw w3 (fun _ => False) (fun _ => False) n ((d, .bool true) :: K) [] [pre] (wpListIn (FR none) m P ops Q rest)) :
    Pw w0 (fun _ => False) O n K L G (wpListIn (FR none) m P ops Q (⟨some d, .call ⟨.value x, az, ts⟩, ty, pos, af, gd⟩ :: rest)) := fun a w ha hs => by
  unfold wpListIn
  rw [if_pos (wantB_spec (o := ⟨some d, .call ⟨.value x, az, ts⟩, ty, pos, af, gd⟩) hw ha)]
  refine ⟨fun _ _ => trivial, ?_⟩
  rw [Oper.semAt_plain (FR none) a.eval _ (fun c e => by cases e)]
  obtain ⟨fn, tmps, assign, body, hy, hR⟩ := hY i w hi (hst _ _ _ hJ hs.keep) (m - 1)
  rw [yield_run hx hargs ha hy, Oper.uponIn_round]
  refine ⟨fun e => absurd e (by simp), hR.mono ?_⟩
  rintro e w3 ⟨rfl, hJ3⟩
  exact h w3 hJ3 _ w3 (ha.put hn _) ⟨Keep.refl _ _, by simp, List.Pairwise.nil, by simp, by simp, fun b e => e.elim, fun φ hφ w' k => by
    rw [List.mem_singleton.1 hφ]
    exact hpre _ _ (hst _ _ _ hJ3 (k.mono fun b _ e => e.elim id (fun ⟨x, hx, _⟩ => by cases hx)))⟩
/-- An iterator's rounds. -/
def NxtY (J : Nat → World → Prop) (Kh : Nat → Slots) (NN i n : Nat) (a : Act) (w : World) : Prop := ∃ j, i < j ∧ j ≤ NN ∧ Sat n (Kh j) a ∧ J j w
theorem Pw.loopY {c : Code} {NN : Nat} {J : Nat → World → Prop} {pre : World → Prop} (hst : ∀ i w1 w2, J i w1 → Keep (fun _ => False) w1 w2 → J i w2) (hpre : ∀ i w1, J i w1 → pre w1) (Kh : Nat → Slots) (hJ : J 0 w0) (hK : Sub (Kh 0) K)
    (hb : ∀ i w1, i ≤ NN → J i w1 → Pw w1 (fun _ => False) (fun _ => False) n (Kh i) [] [pre] (c.wp P (Exit.then (NxtY J Kh NN i n) Q))) : Pw w0 (fun _ => False) O n K L G ((Code.loop c).wp P Q) := fun a w ha hs => by
  have st : ∀ {i w1}, J i w1 → St w1 (fun _ => False) (fun _ => False) [] [pre] w1 := fun {i w1} h => ⟨Keep.refl _ _, by simp, List.Pairwise.nil, by simp, by simp, fun b e => e.elim, fun φ hφ w' k => by
    rw [List.mem_singleton.1 hφ]
    exact hpre _ _ (hst _ _ _ h (k.mono fun b _ e => e.elim id (fun ⟨x, hx, _⟩ => by cases hx)))⟩
  have key : ∀ (k i : Nat) a w, NN - i ≤ k → i ≤ NN → Sat n (Kh i) a → J i w → Code.rounds P c Q (k + 1) a w := by
    intro k
    induction k with
    | zero =>
      intro i a w hk hi ha hJ
      refine Code.wp_mono ?_ (hb i w hi hJ a w ha (st hJ))
      intro e a w h
      cases e with
      | normal => obtain ⟨j, h1, h2, _⟩ := h; omega
      | _ => exact h
    | succ k ih =>
      intro i a w hk hi ha hJ
      refine Code.wp_mono ?_ (hb i w hi hJ a w ha (st hJ))
      intro e a w h
      cases e with
      | normal => obtain ⟨j, h1, h2, h3, h4⟩ := h; exact ih j a w (by omega) h2 h3 h4
      | _ => exact h
  exact wp_loop_rounds _ (key NN 0 a w (by omega) (Nat.zero_le _) ⟨ha.defers, ha.size, fun d v e => ha.slot d v (hK.lk d v e)⟩ (hst _ _ _ hJ hs.keep))
theorem Pw.againY {NN i : Nat} {J : Nat → World → Prop} {Kh : Nat → Slots} (hst : ∀ i w1 w2, J i w1 → Keep (fun _ => False) w1 w2 → J i w2) (j : Nat) (hi : i < j) (hj : j ≤ NN) (hJ : J j w0) (hK : Sub (Kh j) K) : Pw w0 (fun _ => False) O n K L G (NxtY J Kh NN i n) := fun a w ha hs =>
  ⟨j, hi, hj, ⟨ha.defers, ha.size, fun d v e => ha.slot d v (hK.lk d v e)⟩, hst _ _ _ hJ hs.keep⟩
theorem Pw.retY {fn : Func} {NN : Nat} {J : Nat → World → Prop} {vs : List Value} (hst : ∀ i w1 w2, J i w1 → Keep (fun _ => False) w1 w2 → J i w2) (hJ : J NN w0) (hv : Vs P K (St w0 (fun _ => False) O L G) fn.results.toList vs) :
    Pw w0 (fun _ => False) O n K L G (bodyPost P fn (fun e w' => (∃ v, e = .returned v) ∧ J NN w') .normal) := fun a w ha hs =>
  ⟨ha.defers, _, results_run ha hs hv, ⟨_, rfl⟩, hst _ _ _ hJ hs.keep⟩
theorem Iter.start {gf : FuncId} {fn : Func} {c : Code} {lb : Array Value} {NN : Nat} {enc : Nat → Value} {pre : World → Prop} {n : Nat} (hf : P.funcs[gf]? = some fn) (hb : fn.body = some c) (K : Nat → Slots)
    (hn : ∀ r, (#[Value.func (.yield r) #[] #[]] ++ lb).size + (fn.ntmps - (#[Value.func (.yield r) #[] #[]] ++ lb).size) = n)
    (hK : ∀ r d v, lk (K r) d = some v → ((#[Value.func (.yield r) #[] #[]] ++ lb) ++ Array.replicate (fn.ntmps - (#[Value.func (.yield r) #[] #[]] ++ lb).size) undef).getD d undef = v)
    (h : ∀ r J, Yd P r NN enc J → (∀ i w1 w2, J i w1 → Keep (fun _ => False) w1 w2 → J i w2) → (∀ i w1, J i w1 → pre w1) → ∀ w0, J 0 w0 → Pw w0 (fun _ => False) (fun _ => False) n (K r) [] [pre] (c.wp P (bodyPost P fn (fun e w' => (∃ v, e = .returned v) ∧ J NN w')))) :
    Iter P gf lb NN enc pre := fun r J w hY hst hpre h0 =>
  calls_of_wp hf hb (h r J hY hst hpre w h0 _ w ⟨rfl, by have := hn r; simp at this ⊢; omega, hK r⟩ ⟨Keep.refl _ _, by simp, List.Pairwise.nil, by simp, by simp, fun b e => e.elim, fun φ hφ w' k => by
    rw [List.mem_singleton.1 hφ]
    exact hpre _ _ (hst _ _ _ h0 (k.mono fun b _ e => e.elim id (fun ⟨x, hx, _⟩ => by cases hx)))⟩)

/-! ### The caller's side -/
theorem Upd.append {L L' T : List Blk} {b : Blk} {o : Obj} (h : Upd L b o L') : Upd (L ++ T) b o (L' ++ T) := by
  induction h with
  | head => exact .head
  | tail _ ih => exact .tail ih
theorem Upd.behind {T T' : List Blk} {b : Blk} {o : Obj} (h : Upd T b o T') : ∀ L : List Blk, Upd (L ++ T) b o (L ++ T')
  | [] => h
  | x :: L => .tail (h.behind L)
theorem putObj_keep {w : World} {l : Nat} {o : Obj} : Keep (fun b => b = l) w (w.putObj l o) := ⟨rfl, rfl, rfl, by simp [World.putObj], fun b _ hn => World.putObj_heap_other hn, Nat.le_refl _⟩
theorem St.putO {w0 : World} {M O : Nat → Prop} {L L' : List Blk} {G : List (World → Prop)} {w : World} {l : Nat} {o o' : Obj} (h : St w0 M O L G w) (hu : Upd L ⟨l, o⟩ o' L') : St w0 M O L' G (w.putObj l o') :=
  h.turn hu putObj_keep (World.putObj_heap_same (own_lt (h.own _ hu.mem)))
/-- What a round begins and ends with. -/
structure Rd where
  L : List Blk
  G : List (World → Prop)
abbrev mark (D : Nat) : Deferred := { target := .collected D, args := #[] }
def shD (D : Nat) (a : Act) : Act := { a with defers := a.defers ++ [mark D] }
end
end Go.Proofs.Wk
/- A range over a function: the statement. -/
namespace Go.Proofs.Wk
open Go.RowKit
set_option linter.unusedVariables false
set_option linter.unusedSimpArgs false
section
variable {P : Program} {w0 : World} {M O : Nat → Prop} {n : Nat} {K : Slots} {L : List Blk} {G : List (World → Prop)} {Q : Exit → Act → World → Prop} {ops : Array Oper} {rest : List Oper} {w : World} {a : Act} {X : Act → World → Prop}
  {d : Nat} {ty : TypeId} {pos : String} {af : Array Edge} {gd : Option (Nat × Bool)} {N : Act → World → Prop} {r : Option Nat} {m : Nat}
set_option maxHeartbeats 400000 in
theorem Pw.rangeFunc {σ τ : Type} {g : Operand} {p : Tmp} {assign body : Code} {gf : FuncId} {lb : Array Value} {NN : Nat} {enc : Nat → Value} {pre : World → Prop} (J : Nat → σ → Prop) (I : Nat → σ → Rd) (s0 : σ) (A : Nat → σ → τ → Prop) (B : Nat → σ → τ → Hd)
    (hg : ev K g = some (.func (.func gf) #[] lb)) (hgf : ∀ args w, (callFunc gf args).run P w = .ok (.enter gf args) w) (hit : Iter P gf lb NN enc pre) (hp : Nat.blt p n = true)
    (hJ0 : J 0 s0) (hL0 : L = (I 0 s0).L) (hG0 : ∀ w, All G w → All (I 0 s0).G w) (hpre : ∀ i s, J i s → ∀ w, All (I i s).G w → pre w)
    (hassign : ∀ i s T rr, i < NN → J i s → Pw w0 M O n ((p, enc i) :: K) ((I i s).L ++ T) (I i s).G (assign.wpIn (FR (some rr)) 0 P (Exit.then (fun a w => ∃ t, A i s t ∧ Sat n (B i s t).K a ∧ St w0 M O ((B i s t).L ++ T) (B i s t).G w) (fun _ _ _ => False))))
    (hbody : ∀ i s t T rr, i < NN → J i s → A i s t → Pw w0 M O n (B i s t).K ((B i s t).L ++ T) (B i s t).G (body.wpIn (FR (some rr)) 0 P (RoundEnd (fun a w => ∃ s', J (i + 1) s' ∧ St w0 M O ((I (i + 1) s').L ++ T) (I (i + 1) s').G w))))
    (hdone : ∀ s D, J NN s → Pw w0 M O n K (⟨D, .deferred (some [])⟩ :: (I NN s).L) (I NN s).G (fun a w => Q .normal (shD D a) w)) :
    Pw w0 M O n K L G ((Code.rangeFunc g #[p] assign body).wp P Q) := fun a w ha hs => by
  refine (wpIn_wide (n := 1)).1 (wpIn_rangeFunc (fun fn _ => ?_))
  obtain ⟨rec, hrec⟩ : ∃ rec : LoopState → Option Code → Loop, rec = fun st pe => { state := st, pending := pe, fn, tmps := a.tmps, params := #[p], assign, body, defers := w.heap.size } := ⟨_, rfl⟩
  obtain ⟨W1, hW1⟩ : ∃ W1, (w.alloc (.deferred (some []))).alloc (.loop (rec .ready none)) = W1 := ⟨_, rfl⟩
  obtain ⟨D, hD⟩ : ∃ D, D = w.heap.size := ⟨_, rfl⟩
  obtain ⟨l, hl⟩ : ∃ l, l = w.heap.size + 1 := ⟨_, rfl⟩
  have hs0 : St w0 M O L (I 0 s0).G w := ⟨hs.keep, hs.own, hs.nd, hs.base, hs.nob, hs.ob, fun φ hφ w' k => hG0 w' (fun ψ hψ => hs.cl ψ hψ w' k) φ hφ⟩
  have hs1 : St w0 M O ((I 0 s0).L ++ [⟨l, .loop (rec .ready none)⟩, ⟨D, .deferred (some [])⟩]) (I 0 s0).G W1 := by
    have h1 := (hs0.new (.deferred (some []))).new (.loop (rec .ready none))
    rw [hW1, World.size_alloc, ← hl, ← hD, hL0] at h1
    have hp : (([⟨l, .loop (rec .ready none)⟩, ⟨D, .deferred (some [])⟩] : List Blk) ++ (I 0 s0).L).Perm ((I 0 s0).L ++ ([⟨l, .loop (rec .ready none)⟩, ⟨D, .deferred (some [])⟩] : List Blk)) := List.perm_append_comm
    exact h1.perm hp
  obtain ⟨Jt, hJt⟩ : ∃ Jt : Nat → World → Prop, Jt = fun i W => ∃ s, J i s ∧ St w0 M O ((I i s).L ++ [⟨l, .loop (rec .ready none)⟩, ⟨D, .deferred (some [])⟩]) (I i s).G W := ⟨_, rfl⟩
  have lm : ∀ {X : List Blk} {o : Obj} {T : List Blk}, (⟨l, o⟩ : Blk) ∈ X ++ (⟨l, o⟩ :: T) := List.mem_append_right _ (List.mem_cons_self ..)
  have hcall := hit l Jt W1 ?yd ?st ?pr ?j0
  refine ⟨l, [mark D], W1, { target := .fn (.func gf) lb, args := #[.func (.yield l) #[] #[]] }, W1, gf, #[.func (.yield l) #[] #[]] ++ lb, W1, ?_, ?_, fun _ _ => trivial, ?_, fun e => absurd e (by simp [Fence.wide]), ?call⟩
  · rw [← hW1, hrec, hl, hD]; exact run_enterLoop_outer _ _ _ _ _
  · simp [resolve, ha.eval hg, Deferred.ofValue, show ∀ v, a.eval (.const v) = v from fun _ => rfl]
  · simp [invoke, hgf]
  case call =>
    refine (callsIn_wide (n := 1 - 1)).2 (hcall.mono ?_)
    rintro e W ⟨⟨v, rfl⟩, hJW⟩
    rw [hJt] at hJW
    obtain ⟨s, hJ, hW⟩ := hJW
    have hl0 := hW.own _ lm
    refine ⟨none, _, by have := run_endLoop (P := P) hl0 (by rw [hrec]; simp); rw [hrec] at this; exact this, ?_⟩
    rw [show ({ a with defers := [mark D] ++ a.defers } : Act) = shD D a by simp [shD, ha.defers]]
    refine hdone s D hJ a _ ha ?_
    have h4 := hW.putO (o' := .loop { rec .ready none with state := .exhausted }) (Upd.behind .head (I NN s).L)
    have h5 := h4.perm (List.perm_append_comm (l₁ := (I NN s).L))
    rw [hrec] at h5
    exact h5.drop
  case j0 => rw [hJt]; exact ⟨s0, hJ0, hs1⟩
  case pr =>
    intro i W h
    rw [hJt] at h
    obtain ⟨s, hJ, hW⟩ := h
    exact hpre i s hJ W hW.all
  case st =>
    intro i W W' h k
    rw [hJt] at h ⊢
    obtain ⟨s, hJ, hW⟩ := h
    exact ⟨s, hJ, hW.grow k⟩
  case yd =>
    intro i W hi hJW m
    rw [hJt] at hJW
    obtain ⟨s, hJ, hW⟩ := hJW
    have hl0 := hW.own _ lm
    have hy := run_yield (P := P) (args := #[enc i]) hl0 (by rw [hrec]; rfl)
    rw [hrec] at hy
    refine ⟨fn, _, assign, body, hy, roundIn_of_wpIn trivial ?_⟩
    have hsat : Sat n ((p, enc i) :: K) { tmps := (#[p].zip #[enc i]).foldl (fun tmps (t, a) => tmps.setIfInBounds t a) a.tmps, defers := [] } := by
      have h1 := ha.put hp (enc i)
      exact ⟨rfl, by simpa [Act.put] using h1.size, fun d v hd => by simpa [Act.put] using h1.slot d v hd⟩
    have hm : ∀ {c : Code} {Q Q' : Exit → Act → World → Prop} {a : Act} {w : World}, c.wpIn (FR (some l)) 0 P Q a w → (∀ e a w, Q e a w → Q' e a w) → c.wpIn (Fence.wide.inRound l) m P Q' a w := fun h1 h2 b k cs hro hb hr => by
      obtain ⟨e, a', w', q, r⟩ := h1 b k cs hro hb (fun d hd => by cases hd)
      exact ⟨e, a', w', h2 _ _ _ q, r⟩
    refine hm (hassign i s _ l hi hJ _ W hsat hW) ?_
    intro e a1 w1 h
    cases e with
    | normal =>
      obtain ⟨t, hA, ha1, hs1⟩ := h
      have hl1 := hs1.own _ lm
      refine ⟨_, run_beginRound hl1 (by rw [hrec]), ?_⟩
      have hs2 := hs1.putO (o' := .loop { rec .ready none with state := .busy }) (Upd.behind .head (B i s t).L)
      refine hm (hbody i s t _ l hi hJ hA a1 _ ha1 hs2) ?_
      intro e a3 w3 h
      cases e with
      | normal =>
        obtain ⟨s', hJ', hs3⟩ := h
        have hl3 := hs3.own _ lm
        have hend := run_endRound (P := P) none hl3
        refine ⟨_, _, hend, rfl, ?_⟩
        rw [hJt]
        refine ⟨s', hJ', ?_⟩
        have h4 := hs3.putO (o' := .loop (rec .ready none)) (Upd.behind .head (I (i + 1) s').L)
        have e1 : ({ (rec .ready none) with state := .busy } : Loop) = rec .busy none := by rw [hrec]
        rw [hrec] at h4 ⊢
        exact h4
      | _ => exact h.elim
    | _ => exact h.elim
end
end Go.Proofs.Wk
/- Functions that hold a range over a function: their end. Functions that hand blocks over. -/
namespace Go.Proofs.Wk
open Go.RowKit
set_option linter.unusedVariables false
set_option linter.unusedSimpArgs false
section
variable {P : Program} {w0 : World} {M O : Nat → Prop} {n : Nat} {K : Slots} {L : List Blk} {G : List (World → Prop)} {Q : Exit → Act → World → Prop} {ops : Array Oper} {rest : List Oper} {w : World} {a : Act} {X : Act → World → Prop}
  {d : Nat} {ty : TypeId} {pos : String} {af : Array Edge} {gd : Option (Nat × Bool)} {N : Act → World → Prop} {α : Type} {D : Nat → Prop}
theorem shD_put (D : Nat) (a : Act) (dst : Option Tmp) (v : Value) : (shD D a).put dst v = shD D (a.put dst v) := by cases dst <;> rfl
theorem list_sh (D : Nat) {Q' : Exit → Act → World → Prop} (hq : ∀ e a w, Q' e a w → Q e (shD D a) w) : ∀ (l : List Oper) (a : Act) (w : World), l.all noDef = true → wpList P ops Q' l a w → wpList P ops Q l (shD D a) w
  | [], a, w, _, h => hq _ _ _ h
  | o :: l, a, w, hl, h => by
    rw [List.all_cons, Bool.and_eq_true] at hl
    unfold wpList at h ⊢
    have hy : yielded ops (shD D a).tmps = yielded ops a.tmps := rfl
    rw [hy]
    split at h
    next hw =>
      rw [if_pos hw]
      rcases h with h | ⟨h1, a0, w1, h2⟩
      · refine .inl ?_
        unfold Oper.wp at h ⊢
        have he : execOp (shD D a).eval o = execOp a.eval o := rfl
        rw [he]
        generalize hres : (execOp a.eval o).run P w = res at h ⊢
        unfold Oper.upon at h ⊢
        split at h
        next => rw [shD_put]; exact list_sh D hq l _ _ hl.2 h
        next => rw [shD_put]; exact list_sh D hq l _ _ hl.2 h
        next d w' =>
          have e1 : ({ shD D a with defers := d :: (shD D a).defers } : Act).put o.dst undef = shD D (({ a with defers := d :: a.defers } : Act).put o.dst undef) := by
            rw [← shD_put]; rfl
          show wpList P ops Q l (({ shD D a with defers := d :: (shD D a).defers } : Act).put o.dst undef) w'
          rw [e1]; exact list_sh D hq l _ _ hl.2 h
        next f args w' =>
          refine Calls.mono h ?_
          intro e w'' h
          cases e with
          | returned v => show wpList P ops Q l ((shD D a).put o.dst v) w''; rw [shD_put]; exact list_sh D hq l _ _ hl.2 h
          | panicked c => exact hq _ _ _ h
          | outgrown => obtain ⟨a0, w1, h⟩ := h; exact ⟨_, _, hq _ _ _ h⟩
        next row args w' =>
          refine Go.Rows.mono h ?_
          intro v w'' h
          rw [shD_put]; exact list_sh D hq l _ _ hl.2 h
        next => exact hq _ _ _ h
        next => exact h
      · exact .inr ⟨h1, _, _, hq _ _ _ h2⟩
    next hw => rw [if_neg hw, shD_put]; exact list_sh D hq l _ _ hl.2 h
theorem Pw.tail {D i : Nat} {l : List Oper} (hl : l.all noDef = true) (h : Pw w0 M O n K L G (wpList P l.toArray (fun e a w => Exit.then (fun a w => Q .ret a w) Q e (shD D a) w) l)) :
    Pw w0 M O n K L G (fun a w => (Code.seq (Code.region i l.toArray false) Code.ret).wp P Q (shD D a) w) := fun a w ha hs => by
  refine wp_seq (wp_region_lit ?_)
  refine list_sh D (fun e a w h => ?_) l a w hl (h a w ha hs)
  cases e with
  | normal => exact wp_ret h
  | _ => exact h
/-! ### The end, the loop's mark being there -/
theorem calls_of_wp_marks {f : FuncId} {fn : Func} {c : Code} {args : Array Value} {w : World} {R : Ending → World → Prop} (hf : P.funcs[f]? = some fn) (hb : fn.body = some c)
    (h : c.wp P (bodyPostM Fence.wide 1 P fn R) { tmps := args ++ Array.replicate (fn.ntmps - args.size) undef, defers := [] } w) : Calls P f args w R :=
  (callsIn_wide (n := 1)).1 (callsIn_of_wp_marks hf hb trivial (wpIn_wide.2 h))
theorem leavesM {fn : Func} {R : Ending → World → Prop} {Dm : Nat} {v : Value} (ha : Sat n K a) (hD : w.heap[Dm]? = some (.deferred (some []))) (hr : (results fn a.tmps).run P (w.putObj Dm (.deferred none)) = .ok v (w.putObj Dm (.deferred none))) (h : R (.returned v) (w.putObj Dm (.deferred none))) :
    bodyPostM Fence.wide 1 P fn R .ret (shD Dm a) w := by
  show LeavesInM Fence.wide 1 P fn a.tmps R (a.defers ++ [mark Dm]) .returning w
  rw [ha.defers]
  exact ⟨by simp, .inl ⟨_, _, rfl, run_takeDeferred hD, _, hr, h⟩⟩
/-! ### Contracts of functions that hand blocks over -/
def CtPL (D : Nat → Prop) (w : World) (r : α → Value) (p : α → Prop) (bl : α → List Blk) (Ψ : α → World → Prop) (e : Ending) (w' : World) : Prop :=
  ∃ x, e = .returned (r x) ∧ p x ∧ Keep (fun _ => False) w w' ∧ (∀ b ∈ bl x, w.heap.size ≤ b.g ∧ w'.heap[b.g]? = some b.o) ∧ (bl x).Pairwise (fun x y => x.g ≠ y.g) ∧ Cls (fun b => D b ∨ ∃ y ∈ bl x, y.g = b) w' (Ψ x)
def CtL (P : Program) (f : FuncId) (args : Array Value) (pre : World → Prop) (r : α → Value) (p : α → Prop) (bl : α → List Blk) (Ψ : α → World → Prop) : Prop :=
  ∀ D w, (∀ b, D b → b < w.heap.size) → Cls D w pre → Calls P f args w (CtPL D w r p bl Ψ)
theorem St.gotL (h : St w0 M O L G w) {w' : World} (k : Keep (fun _ => False) w w') {B : List Blk} {φ : World → Prop} (hB : ∀ b ∈ B, w.heap.size ≤ b.g ∧ w'.heap[b.g]? = some b.o) (hnd : B.Pairwise (fun x y => x.g ≠ y.g)) (hφ : Cls (fun b => Dt O L b ∨ ∃ y ∈ B, y.g = b) w' φ) : St w0 M O (B ++ L) (φ :: G) w' := by
  have h' := h.grow k
  refine ⟨h'.keep, ?_, ?_, ?_, ?_, h.ob, ?_⟩
  · intro b hb
    rcases List.mem_append.1 hb with hb | hb
    · exact (hB b hb).2
    · exact h'.own b hb
  · refine List.pairwise_append.2 ⟨hnd, h.nd, fun x hx y hy e => ?_⟩
    have h1 := own_lt (h.own y hy)
    have h2 := (hB x hx).1
    omega
  · intro b hb
    rcases List.mem_append.1 hb with hb | hb
    · exact .inl (Nat.le_trans h.keep.size (hB b hb).1)
    · exact h'.base b hb
  · intro b hb
    rcases List.mem_append.1 hb with hb | hb
    · intro e; have h1 := h.ob _ e; have h2 := h.keep.size; have h3 := (hB b hb).1; omega
    · exact h'.nob b hb
  · intro ψ hψ
    rcases List.mem_cons.1 hψ with rfl | hψ
    · refine hφ.mono fun b _ e => ?_
      rcases e with e | ⟨x, hx, rfl⟩
      · exact .inl (.inl e)
      · rcases List.mem_append.1 hx with hx | hx
        · exact .inr ⟨x, hx, rfl⟩
        · exact .inl (.inr ⟨x, hx, rfl⟩)
    · intro w'' k'
      refine h.cl ψ hψ w'' ⟨k'.os.trans k.os, k'.tape.trans k.tape, k'.output.trans k.output, Nat.le_trans k.size k'.size, fun b hb hn => ?_, Nat.le_trans k.drawn k'.drawn⟩
      rw [k'.block b (Nat.lt_of_lt_of_le hb k.size) ?_, k.block b hb id]
      rintro (e | ⟨x, hx, rfl⟩)
      · exact hn (.inl e)
      · rcases List.mem_append.1 hx with hx | hx
        · have := (hB x hx).1; omega
        · exact hn (.inr ⟨x, hx, rfl⟩)
theorem Pw.callL {x : Operand} {f : FuncId} {fst cap : Array Value} {az : Array Operand} {ts : Array TypeId} {vs vs' : List Value} {pre : World → Prop} {r : α → Value} {p : α → Prop} {bl : α → List Blk} {Ψ : α → World → Prop}
    (hc : CtL P f vs'.toArray pre r p bl Ψ) (hx : ev K x = some (.func (.func f) fst cap)) (hargs : evs K az.toList = some vs) (hvs : fst.toList ++ vs ++ cap.toList = vs') (hcal : callB P f = true) (hw : wantB K ops gd = some true) (hn : Nat.blt d n = true) (hpre : ∀ w, All G w → pre w)
    (h : ∀ x, p x → Pw w0 M O n ((d, r x) :: K) (bl x ++ L) (Ψ x :: G) N) : Pw w0 M O n K L G (OpG P ops ⟨some d, .call ⟨.value x, az, ts⟩, ty, pos, af, gd⟩ N Q) := fun a w ha hs => by
  unfold OpG
  rw [if_pos (wantB_spec (o := ⟨some d, .call ⟨.value x, az, ts⟩, ty, pos, af, gd⟩) hw ha)]
  unfold Oper.wp
  rw [call_run hx hargs hvs hcal ha, Oper.upon_enter]
  refine (hc (Dt O L) w hs.dt (hs.pre hpre)).mono ?_
  rintro e w' ⟨y, rfl, hp, hk, hB, hnd, hφ⟩
  exact h y hp _ _ (ha.put hn _) (hs.gotL hk hB hnd hφ)
theorem CtL.start {f : FuncId} {fn : Func} {c : Code} {args : Array Value} {pre : World → Prop} {r : α → Value} {p : α → Prop} {bl : α → List Blk} {Ψ : α → World → Prop} {n : Nat} {K : Slots} (hf : P.funcs[f]? = some fn) (hb : fn.body = some c) (hn : args.size + (fn.ntmps - args.size) = n)
    (hK : ∀ d v, lk K d = some v → (args ++ Array.replicate (fn.ntmps - args.size) undef).getD d undef = v)
    (h : ∀ D w0, Pw w0 (fun _ => False) D n K [] [pre] (c.wp P (bodyPost P fn (CtPL D w0 r p bl Ψ)))) : CtL P f args pre r p bl Ψ := fun D w hD hp =>
  calls_of_wp hf hb (h D w _ w ⟨rfl, by simpa using hn, hK⟩ ⟨Keep.refl _ _, by simp, List.Pairwise.nil, by simp, by simp, hD, fun φ hφ => by
    rw [List.mem_singleton.1 hφ]
    exact hp.mono fun b _ e => e.elim id (fun ⟨x, hx, _⟩ => by cases hx)⟩)
/-- The same, where the body holds a range over a function. -/
theorem CtL.startM {f : FuncId} {fn : Func} {c : Code} {args : Array Value} {pre : World → Prop} {r : α → Value} {p : α → Prop} {bl : α → List Blk} {Ψ : α → World → Prop} {n : Nat} {K : Slots} (hf : P.funcs[f]? = some fn) (hb : fn.body = some c) (hn : args.size + (fn.ntmps - args.size) = n)
    (hK : ∀ d v, lk K d = some v → (args ++ Array.replicate (fn.ntmps - args.size) undef).getD d undef = v)
    (h : ∀ D w0, Pw w0 (fun _ => False) D n K [] [pre] (c.wp P (bodyPostM Fence.wide 1 P fn (CtPL D w0 r p bl Ψ)))) : CtL P f args pre r p bl Ψ := fun D w hD hp =>
  calls_of_wp_marks hf hb (h D w _ w ⟨rfl, by simpa using hn, hK⟩ ⟨Keep.refl _ _, by simp, List.Pairwise.nil, by simp, by simp, hD, fun φ hφ => by
    rw [List.mem_singleton.1 hφ]
    exact hp.mono fun b _ e => e.elim id (fun ⟨x, hx, _⟩ => by cases hx)⟩)
theorem CtPL.of_st {D0 : Nat → Prop} {r : α → Value} {p : α → Prop} {bl : α → List Blk} {Ψ : α → World → Prop} {x : α} {v : Value} (hs : St w0 (fun _ => False) D0 L G w) (hsub : (bl x).Sublist L) (hx : v = r x) (hp : p x) (hΨ : ∀ w, All G w → Ψ x w) : CtPL D0 w0 r p bl Ψ (.returned v) w :=
  ⟨x, by rw [hx], hp, hs.keep, fun b hb => ⟨(hs.base b (hsub.subset hb)).resolve_right id, hs.own b (hsub.subset hb)⟩, hs.nd.sublist hsub, (hs.pre hΨ).mono fun b _ e => e.elim .inl fun ⟨y, hy, e⟩ => .inr ⟨y, hsub.subset hy, e⟩⟩
theorem Pw.retL {fn : Func} {r : α → Value} {p : α → Prop} {bl : α → List Blk} {Ψ : α → World → Prop} {vs : List Value} {x : α} (hsub : (bl x).Sublist L) (hv : Vs P K (St w0 (fun _ => False) D L G) fn.results.toList vs) (hx : retv vs = r x) (hp : p x) (hΨ : ∀ w, All G w → Ψ x w) :
    Pw w0 (fun _ => False) D n K L G (bodyPost P fn (CtPL D w0 r p bl Ψ) .ret) := fun a w ha hs =>
  ⟨ha.defers, _, results_run ha hs hv, CtPL.of_st hs hsub hx hp hΨ⟩
theorem Pw.retLM {fn : Func} {r : α → Value} {p : α → Prop} {bl : α → List Blk} {Ψ : α → World → Prop} {vs : List Value} {x : α} {Dm : Nat} {L' : List Blk} (hu : Upd L ⟨Dm, .deferred (some [])⟩ (.deferred none) L') (hsub : (bl x).Sublist L') (hv : Vs P K (St w0 (fun _ => False) D L' G) fn.results.toList vs) (hx : retv vs = r x) (hp : p x) (hΨ : ∀ w, All G w → Ψ x w) :
    Pw w0 (fun _ => False) D n K L G (fun a w => bodyPostM Fence.wide 1 P fn (CtPL D w0 r p bl Ψ) .ret (shD Dm a) w) := fun a w ha hs => by
  have hs' := hs.putO hu
  exact leavesM ha (hs.own _ hu.mem) (results_run ha hs' hv) (CtPL.of_st hs' hsub hx hp hΨ)

theorem Ct.startM {f : FuncId} {fn : Func} {c : Code} {args : Array Value} {pre : World → Prop} {r : α → Value} {p : α → Prop} {Ψ : α → World → Prop} {n : Nat} {K : Slots} (hf : P.funcs[f]? = some fn) (hb : fn.body = some c) (hn : args.size + (fn.ntmps - args.size) = n)
    (hK : ∀ d v, lk K d = some v → (args ++ Array.replicate (fn.ntmps - args.size) undef).getD d undef = v)
    (h : ∀ D w0, Pw w0 (fun _ => False) D n K [] [pre] (c.wp P (bodyPostM Fence.wide 1 P fn (CtP D w0 r p Ψ)))) : Ct P f args pre r p Ψ := fun D w hD hp =>
  calls_of_wp_marks hf hb (h D w _ w ⟨rfl, by simpa using hn, hK⟩ ⟨Keep.refl _ _, by simp, List.Pairwise.nil, by simp, by simp, hD, fun φ hφ => by
    rw [List.mem_singleton.1 hφ]
    exact hp.mono fun b _ e => e.elim id (fun ⟨x, hx, _⟩ => by cases hx)⟩)
theorem CtP.of_st {D0 : Nat → Prop} {r : α → Value} {p : α → Prop} {Ψ : α → World → Prop} {x : α} {v : Value} (hs : St w0 (fun _ => False) D0 L G w) (hx : v = r x) (hp : p x) (hΨ : ∀ w, All G w → Ψ x w) : CtP D0 w0 r p Ψ (.returned v) w :=
  ⟨x, by rw [hx], hp, hs.keep, (hs.pre hΨ).mono fun b _ e => .inl e⟩
/-- An end ahead of the loop. -/
theorem Pw.retMo {fn : Func} {r : α → Value} {p : α → Prop} {Ψ : α → World → Prop} {vs : List Value} {x : α} (hv : Vs P K (St w0 (fun _ => False) D L G) fn.results.toList vs) (hx : retv vs = r x) (hp : p x) (hΨ : ∀ w, All G w → Ψ x w) :
    Pw w0 (fun _ => False) D n K L G (bodyPostM Fence.wide 1 P fn (CtP D w0 r p Ψ) .ret) := fun a w ha hs => by
  show LeavesInM Fence.wide 1 P fn a.tmps _ a.defers .returning w
  rw [ha.defers]
  exact ⟨_, results_run ha hs hv, CtP.of_st hs hx hp hΨ⟩
/-- The end behind the loop. -/
theorem Pw.retM {fn : Func} {r : α → Value} {p : α → Prop} {Ψ : α → World → Prop} {vs : List Value} {x : α} {Dm : Nat} {L' : List Blk} (hu : Upd L ⟨Dm, .deferred (some [])⟩ (.deferred none) L') (hv : Vs P K (St w0 (fun _ => False) D L' G) fn.results.toList vs) (hx : retv vs = r x) (hp : p x) (hΨ : ∀ w, All G w → Ψ x w) :
    Pw w0 (fun _ => False) D n K L G (fun a w => bodyPostM Fence.wide 1 P fn (CtP D w0 r p Ψ) .ret (shD Dm a) w) := fun a w ha hs => by
  have hs' := hs.putO hu
  exact leavesM ha (hs.own _ hu.mem) (results_run ha hs' hv) (CtP.of_st hs' hx hp hΨ)
/-! ### Rounds' ends -/
theorem Pw.arriveR {τ : Type} {A : τ → Prop} {B : τ → Hd} {T : List Blk} (t : τ) (hA : A t) (hK : Sub (B t).K K) (hL : L = (B t).L ++ T) (hG : ∀ w, All G w → All (B t).G w) :
    Pw w0 M O n K L G (fun a w => ∃ t, A t ∧ Sat n (B t).K a ∧ St w0 M O ((B t).L ++ T) (B t).G w) := fun a w ha hs =>
  ⟨t, hA, ⟨ha.defers, ha.size, fun d v e => ha.slot d v (hK.lk d v e)⟩, by rw [← hL]; exact ⟨hs.keep, hs.own, hs.nd, hs.base, hs.nob, hs.ob, fun φ hφ w' k => hG w' (fun ψ hψ => hs.cl ψ hψ w' k) φ hφ⟩⟩
theorem Pw.arriveE {σ : Type} {J : σ → Prop} {I : σ → Rd} {T : List Blk} (s : σ) (hJ : J s) (hL : L = (I s).L ++ T) (hG : ∀ w, All G w → All (I s).G w) :
    Pw w0 M O n K L G (fun a w => ∃ s, J s ∧ St w0 M O ((I s).L ++ T) (I s).G w) := fun a w ha hs =>
  ⟨s, hJ, by rw [← hL]; exact ⟨hs.keep, hs.own, hs.nd, hs.base, hs.nob, hs.ob, fun φ hφ w' k => hG w' (fun ψ hψ => hs.cl ψ hψ w' k) φ hφ⟩⟩
/-- Ways that meet again, none of them out. -/
theorem Pw.joinF {σ : Type} (J : σ → Prop) (I : σ → Hd) {c : Code} (h1 : Pw w0 M O n K L G (c.wp P (Exit.then (Arr J I w0 M O n) (fun _ _ _ => False)))) (h2 : ∀ s, J s → Pw w0 M O n (I s).K (I s).L (I s).G N) : Pw w0 M O n K L G (c.wp P (Exit.then N Q)) := fun a w ha hs =>
  Code.wp_mono (fun e a w h => by
    cases e with
    | normal => obtain ⟨s, hJ, h3, h4⟩ := h; exact h2 s hJ a w h3 h4
    | _ => exact h.elim) (h1 a w ha hs)
theorem Pw.eqL {L' : List Blk} (h : L = L') (k : Pw w0 M O n K L' G X) : Pw w0 M O n K L G X := by rw [h]; exact k
end
instance (priority := low) blksAny {L : List Blk} {G : List (World → Prop)} {g : Nat} {cs : List Value} {t : TypeId} [i : Blks [] G g cs t] : Blks L G g cs t := ⟨fun w hL h => i.h w (fun b hb => by cases hb) h⟩
theorem enters_callB {P : Program} {f : FuncId} (hc : callB P f = true) : ∀ args w, (callFunc f args).run P w = .ok (.enter f args) w := fun args w => by
  unfold callB at hc
  split at hc
  next fn hf =>
    simp only [Bool.and_eq_true, bne_iff_ne, ne_eq] at hc
    obtain ⟨c, hb⟩ := Option.isSome_iff_exists.1 hc.2
    simp [callFunc, hf, hc.1, hb]
  next => cases hc
instance {A L : List Blk} {g : Nat} {cs : List Value} {t : TypeId} [i : OwnB L g cs t] : OwnB (A ++ L) g cs t := ⟨List.mem_append_right _ i.h⟩
instance {A L L' : List Blk} {g : Nat} {cs cs' : List Value} {t : TypeId} [i : UpdC L g cs cs' t L'] : UpdC (A ++ L) g cs cs' t (A ++ L') := ⟨i.h.behind A⟩
end Go.Proofs.Wk
/- Plain facts on wrapped whole numbers and on reading a list; nothing of the program in sight. No conditions. -/
namespace Go.Proofs.Wk
open Go.RowKit

theorem wu64 (n : Int) : IntKind.u64.wrap n = n % 18446744073709551616 := by
  simp [IntKind.wrap, IntKind.bits, IntKind.signed]
theorem wu32 (n : Int) : IntKind.u32.wrap n = n % 4294967296 := by
  simp [IntKind.wrap, IntKind.bits, IntKind.signed]
theorem wu {n : Int} (h0 : 0 ≤ n) (h1 : n ≤ 18446744073709551615) : IntKind.u64.wrap n = n := by rw [wu64]; omega
theorem wi64 {n : Int} (h : -9223372036854775808 ≤ n) (h' : n ≤ 9223372036854775807) : wrap64 n = n := by
  unfold wrap64; omega
theorem wsucc {i : Nat} (h : i < 4611686018427387904) : wrap64 ((i : Int) + 1) = ((i + 1 : Nat) : Int) := by unfold wrap64; omega
theorem bu64 {n : Int} (h : (Lit.int .u64 n).wf = true) : 0 ≤ n ∧ n ≤ 18446744073709551615 := by
  simp [Lit.wf, IntKind.min, IntKind.max, IntKind.signed, IntKind.bits] at h; omega
end Go.Proofs.Wk
/- slices.SortFunc at rows of structs of one's own, by the shelf's contract. Conditions: «as» written with each theorem. -/
namespace Go.Proofs.Wk
open Go.RowKit Go.Shelf Go.Sort
set_option linter.unusedVariables false
set_option linter.unusedSimpArgs false
theorem keep_grow {w w' : World} (k : Keep (fun _ => False) w w') : ∃ q os, w' = grow (w.drewN q) os := by
  refine ⟨w'.drawn - w.drawn, w'.heap.extract w.heap.size w'.heap.size, ?_⟩
  have hh : w'.heap = w.heap ++ w'.heap.extract w.heap.size w'.heap.size := by
    apply Array.ext_getElem?
    intro i
    rcases Nat.lt_or_ge i w.heap.size with hi | hi
    · rw [Array.getElem?_append_left hi, k.block i hi id]
    · rw [Array.getElem?_append_right hi, Array.getElem?_extract]
      rcases Nat.lt_or_ge i w'.heap.size with h2 | h2
      · rw [if_pos (by omega), show w.heap.size + (i - w.heap.size) = i by omega]
      · rw [if_neg (by omega), Array.getElem?_eq_none h2]
  have hd : w'.drawn = w.drawn + (w'.drawn - w.drawn) := by have := k.drawn; omega
  cases w with
  | mk heap tape drawn os output =>
    cases w' with
    | mk heap' tape' drawn' os' output' =>
      have h1 := k.os; have h2 := k.tape; have h3 := k.output
      simp only at h1 h2 h3 hh hd
      subst h1 h2 h3
      unfold grow World.drewN
      simp only
      rw [← hh, ← hd]
section
variable {α : Type} [Inhabited α]
theorem flatK_list {enc : α → List Value} {k : Nat} (hk : ∀ x, (enc x).length = k) (h0 : 0 < k) (l : List α) : (flatK enc k l.toArray).toList = l.flatMap enc := by
  have hlen : (l.flatMap enc).length = l.length * k := by
    induction l with
    | nil => simp
    | cons x r ih => rw [List.flatMap_cons, List.length_append, ih, hk, List.length_cons, Nat.add_mul]; omega
  apply List.ext_getElem?
  intro t
  rcases Nat.lt_or_ge t (l.length * k) with ht | ht
  · have hq : t / k < l.length := (Nat.div_lt_iff_lt_mul h0).2 ht
    have hr : t % k < k := Nat.mod_lt _ h0
    have e : t = t / k * k + t % k := by rw [Nat.mul_comm]; exact (Nat.div_add_mod t k).symm
    have h1 : l[t / k]? = some l[t / k] := List.getElem?_eq_getElem hq
    have h2 : (enc l[t / k])[t % k]? = some ((enc l[t / k])[t % k]'(by rw [hk]; exact hr)) := List.getElem?_eq_getElem _
    have h3 := flat_get (sz := k) (fun y _ => hk y) h1 h2
    rw [← e] at h3
    rw [h3]
    have h4 : (flatK enc k l.toArray)[t]! = (enc l.toArray[t / k]!)[t % k]! := get_flatK enc k l.toArray t (by simpa using ht)
    have h5 : t < (flatK enc k l.toArray).size := by simpa using ht
    rw [getElem!_pos _ t h5] at h4
    rw [List.getElem?_eq_getElem (by simpa using h5), Array.getElem_toList, h4]
    congr 1
    rw [show l.toArray[t / k]! = l[t / k] by rw [getElem!_pos _ _ (by simpa using hq)]; simp]
    rw [getElem!_pos _ _ (by rw [hk]; exact hr)]
  · rw [List.getElem?_eq_none (by simpa using ht), List.getElem?_eq_none (by omega)]
theorem putCells_row {enc : α → List Value} {k : Nat} (hk : ∀ x, (enc x).length = k) (h0 : 0 < k) (l l' : List α) (hl : l'.length = l.length) (ex : List Value) : putCells id 0 (flatK enc k l'.toArray) ((l.flatMap enc ++ ex).toArray) = (l'.flatMap enc ++ ex).toArray := by
  have hlen : ∀ m : List α, (m.flatMap enc).length = m.length * k := fun m => by
    induction m with
    | nil => simp
    | cons x r ih => rw [List.flatMap_cons, List.length_append, ih, hk, List.length_cons, Nat.add_mul]; omega
  have hf := flatK_list hk h0 l'
  have hs : (flatK enc k l'.toArray).size = l'.length * k := by simp
  apply Array.ext_getElem?
  intro t
  unfold putCells
  rw [Array.getElem?_mapIdx]
  simp only [List.getElem?_toArray]
  rcases Nat.lt_or_ge t (l'.length * k) with ht | ht
  · rw [List.getElem?_append_left (by rw [hlen]; rw [hl] at ht; exact ht), List.getElem?_append_left (by rw [hlen]; exact ht), ← hf]
    have h5 : t < (flatK enc k l'.toArray).size := by omega
    rw [List.getElem?_eq_getElem (by rw [hlen]; rw [hl] at ht; exact ht)]
    simp only [Option.map_some, Nat.zero_le, Nat.zero_add, true_and, h5, if_true, id_eq, Nat.sub_zero]
    rw [getElem!_pos _ t h5, List.getElem?_eq_getElem (by simpa using h5), Array.getElem_toList]
  · rw [List.getElem?_append_right (by rw [hlen]; rw [hl] at ht; exact ht), List.getElem?_append_right (by rw [hlen]; exact ht), hlen, hlen, hl]
    cases ex[t - l.length * k]? with
    | none => rfl
    | some v => simp only [Option.map_some]; rw [if_neg (by omega)]
theorem sortW_keep {enc : α → List Value} {k : Nat} {w : World} {blk off m : Nat} {d : Array α} {os : Array Obj} : Keep (fun b => b = blk) w (sortWorldK enc k w blk off m d os) := by
  refine ⟨rfl, rfl, rfl, ?_, fun b hb hn => ?_, Nat.le_add_right _ _⟩
  · simp [sortWorldK, grow, putRowK, putRow, mapBlock, Sort.ahead]
  · simp only [sortWorldK, grow, putRowK, putRow, mapBlock, Sort.ahead]
    rw [Array.getElem?_append_left (by simpa using hb), Array.getElem?_modify, if_neg (fun e => hn e.symm)]
theorem sortW_block {enc : α → List Value} {k : Nat} (hk : ∀ x, (enc x).length = k) (h0 : 0 < k) {w : World} {g m : Nat} {l l' : List α} {ex : List Value} {t : TypeId} {os : Array Obj} (hb : w.heap[g]? = some (row (l.flatMap enc ++ ex) t)) (hl : l'.length = l.length) : (sortWorldK enc k w g 0 m l'.toArray os).heap[g]? = some (row (l'.flatMap enc ++ ex) t) := by
  have hlt := own_lt hb
  simp only [sortWorldK, grow, putRowK, putRow, mapBlock, Sort.ahead]
  rw [Array.getElem?_append_left (by simpa using hlt), Array.getElem?_modify, if_pos rfl, hb]
  show some (onCells _ (.cells _ t (0, 0))) = _
  unfold onCells
  dsimp only
  rw [putCells_row hk h0 l l' hl ex]
end
section
variable {P : Program} {w0 : World} {M O : Nat → Prop} {n : Nat} {K : Slots} {L : List Blk} {G : List (World → Prop)} {Q : Exit → Act → World → Prop} {ops : Array Oper} {rest : List Oper} {w : World} {a : Act} {X : Act → World → Prop}
  {d : Nat} {ty : TypeId} {pos : String} {af : Array Edge} {gd : Option (Nat × Bool)} {N : Act → World → Prop} {α : Type} [Inhabited α]
theorem Pw.sortK {ρ : Ren} (LS : SlLaysF0.n6 P ρ) (k : Nat) (aE : ∀ w, (isAgg (ρ.t 24)).run P w = .ok true w) (zE : ∀ w, (Go.sizeOf (ρ.t 24)).run P w = .ok k w) (enc : α → List Value) (hk : ∀ x, (enc x).length = k) (h0 : 0 < k) (h1 : ∀ x, ∀ v ∈ enc x, v.oneCell' = true) (cf : α → α → Int) (hO : SWO (ltOf cf)) (hT : ∀ x y, (ltOf cf) x y = false → (ltOf cf) y x = false → x = y)
    {f gc : FuncId} {cb : Array Value} {q : Gr} {l : List α} {L0 : List Blk} {e : TypeId} {x : Operand} {ags : Array Operand} {ts : Array TypeId} {pre : World → Prop} (hf : ρ.f 6 = f) (hcb : callB P f = true) (hgc : callB P gc = true) (hx : ev K x = some (.func (.func f) #[] #[])) (hargs : evs K ags.toList = some [gv q l.length, .func (.func gc) #[] cb]) (hL : L = gL q (l.flatMap enc) e ++ L0) (hq : gOk q (l.flatMap enc) l.length k)
    (hcmp : ∀ x y, Ct P gc (#[.agg (enc x).toArray, .agg (enc y).toArray] ++ cb) pre (fun _ : Unit => .int .i64 (cf x y)) (fun _ => True) (fun _ _ => True)) (hpre : ∀ w, All G w → pre w) (hsz : l.length < 4611686018427387904) (hw : wantB K ops gd = some true) (hn : Nat.blt d n = true)
    (h : gOk q ((l.mergeSort fun x y => !(ltOf cf) y x).flatMap enc) l.length k → Pw w0 M O n ((d, .tuple #[]) :: K) (gL q ((l.mergeSort fun x y => !(ltOf cf) y x).flatMap enc) e ++ L0) G N) :
    Pw w0 M O n K L G (OpG P ops ⟨some d, .call ⟨.value x, ags, ts⟩, ty, pos, af, gd⟩ N Q) := fun a w ha hs => by
  subst hL
  unfold OpG
  rw [if_pos (wantB_spec (o := ⟨some d, .call ⟨.value x, ags, ts⟩, ty, pos, af, gd⟩) hw ha)]
  unfold Oper.wp
  rw [call_run hx hargs rfl hcb ha, Oper.upon_enter]
  have hlen : ∀ m : List α, (m.flatMap enc).length = m.length * k := fun m => by
    induction m with
    | nil => simp
    | cons x r ih => rw [List.flatMap_cons, List.length_append, ih, hk, List.length_cons, Nat.add_mul]; omega
  have hml : (l.mergeSort fun x y => !(ltOf cf) y x).length = l.length := List.length_mergeSort l
  obtain _ | ⟨g, cap, ex⟩ := q
  · obtain ⟨hl0, _⟩ := hq
    have hnil : l = [] := List.eq_nil_of_length_eq_zero hl0
    subst hnil
    have hc := AnyF.slices_SortFunc_none LS none 0 (.func (.func gc) #[] cb) w
    rw [hf] at hc
    refine hc.mono ?_
    rintro e w' ⟨rfl, rfl⟩
    refine h ⟨rfl, by simp⟩ _ _ (ha.put hn _) ?_
    simpa using hs
  · obtain ⟨q1, q2, q3⟩ := hq
    have hb := hs.own ⟨g, row (l.flatMap enc ++ ex) e⟩ (List.mem_cons_self ..)
    have hH : HoldsK enc k w g 0 l.toArray := by
      intro j hj
      have hj' : j < l.length * k := by simpa using hj
      constructor
      · have e1 : (l.flatMap enc)[j]? = some ((flatK enc k l.toArray)[j]) := by
          have h9 := flatK_list hk h0 l
          rw [← h9, List.getElem?_eq_getElem (by simpa using hj'), Array.getElem_toList]
        rw [Nat.zero_add, cell_of_blk hb, List.getElem?_append_left (by rw [hlen]; exact hj'), e1, getElem!_pos _ j hj]
        rfl
      · simp [World.frozen?, hb]
    have hcl : CmpLays P gc cb enc k cf g 0 l.toArray.size w := by
      intro m os dk hdk x y
      have hk1 := sortW_keep (enc := enc) (k := k) (w := w) (blk := g) (off := 0) (m := m) (d := dk) (os := os)
      have hpre' : Cls (fun _ => False) (sortWorldK enc k w g 0 m dk os) pre := fun w'' k'' => hs.pre hpre w'' ((hk1.mono fun b _ e => .inr ⟨_, List.mem_cons_self .., e.symm⟩).trans (k''.mono fun b _ e => e.elim))
      refine (hcmp x y (fun _ => False) _ (fun b e => e.elim) hpre').mono ?_
      rintro e w' ⟨_, rfl, _, hk2, _⟩
      exact ⟨rfl, keep_grow hk2⟩
    have hc := AnyQ.slices_SortFunc_total LS k aE zE enc hk h1 cf hO gc cb g 0 cap l.toArray w (enters_callB hgc) hcl hH (own_lt hb) (by simpa using hsz) hT
    rw [hf] at hc
    have hargs' : (#[gv (some (g, cap, ex)) l.length, .func (.func gc) #[] cb] : Array Value) = #[.slice (some ⟨g, 0, none⟩) l.toArray.size cap, .func (.func gc) #[] cb] := by simp [gv]
    show Calls P f #[gv (some (g, cap, ex)) l.length, .func (.func gc) #[] cb] w _
    rw [hargs']
    refine hc.mono ?_
    rintro e' w' ⟨rfl, m, os, rfl⟩
    refine h ⟨by rw [hlen, hml], q2, by rw [List.length_append, hlen, hml, ← hlen l, ← List.length_append]; exact q3⟩ _ _ (ha.put hn _) ?_
    exact hs.turn (L' := ⟨g, row ((l.mergeSort fun x y => !(ltOf cf) y x).flatMap enc ++ ex) e⟩ :: L0) .head sortW_keep (sortW_block hk h0 hb hml)
end
end Go.Proofs.Wk
/- One rule more: a copy, at elements of several cells. -/
namespace Go.Proofs.Wk
open Go.RowKit
set_option linter.unusedVariables false
set_option linter.unusedSimpArgs false
section
variable {P : Program} {w0 : World} {M O : Nat → Prop} {n : Nat} {K : Slots} {L : List Blk} {G : List (World → Prop)} {Q : Exit → Act → World → Prop} {ops : Array Oper} {rest : List Oper} {w : World} {a : Act} {X : Act → World → Prop}
  {d : Nat} {ty : TypeId} {pos : String} {af : Array Edge} {gd : Option (Nat × Bool)} {N : Act → World → Prop} {S : World → Prop} {α : Type} {D : Nat → Prop}
theorem Pw.appendCopyK {s x : Operand} {t e : TypeId} {i : TypeInfo} {z : Value} {A : Option Addr} {m c g : Nat} {news : List Value} (hsv : ev K s = some (.slice (some ⟨g, 0, none⟩) 0 0)) (hx : ev K x = some (.slice A m c)) (ht : P.underlying t = some (.slice e)) (hi : P.info? e = some i) (hz : i.zero = some z) (hzs : z.cells.size = i.size)
    (hl : news.length = m * i.size) (hnews : ∀ w, St w0 M O L G w → ∀ j u, news[j]? = some u → ∃ b, A = some b ∧ w.cell? (b.add j) = some u) (hsz : 0 < i.size) (hm : m ≤ maxLen) (hb : m * i.bytes ≤ 140737488355328) (hmem : (⟨g, row [] e⟩ : Blk) ∈ L) (hw : wantB K ops gd = some true) (hn : Nat.blt d n = true)
    (h : ∀ g cap ex, m ≤ cap → (news ++ ex).length = cap * i.size → Pw w0 M O n ((d, .slice (some ⟨g, 0, none⟩) m cap) :: K) (⟨g, row (news ++ ex) e⟩ :: L) G N) (h0 : m = 0 → Pw w0 M O n ((d, .slice (some ⟨g, 0, none⟩) 0 0) :: K) L G N) :
    Pw w0 M O n K L G (OpG P ops ⟨some d, .call ⟨.builtin .append, #[s, x], #[t, t]⟩, ty, pos, af, gd⟩ N Q) :=
  Pw.stepE hw rfl hn fun a w ha hs => by
    by_cases hm0 : m = 0
    · subst hm0
      have hn0 : news = [] := List.eq_nil_of_length_eq_zero (by simpa using hl)
      refine ⟨.slice (some ⟨g, 0, none⟩) 0 0, L, G, w, ?_, hs, h0 rfl⟩
      have hf : (Builtin.firstCells i.size 0 (.slice A 0 c)).run P w = .ok #[] w := by
        cases A <;> simp [Builtin.firstCells, loadCells, loadCellsFrom]
      have : (Builtin.append_ #[t, t] ty #[.slice (some ⟨g, 0, none⟩) 0 0, .slice A 0 c]).run P w = .ok (.slice (some ⟨g, 0, none⟩) 0 0) w := by
        simp [Builtin.append_, underlying, ht, sizeOf, typeInfo, hi, Builtin.lenOf, hf, storeCells]
      simp [execOp, resolve, invoke, builtin, ha.eval hsv, ha.eval hx, this]
    · have hlen : 0 < news.length := by rw [hl]; exact Nat.mul_pos (by omega) hsz
      obtain ⟨b, rfl, _⟩ := hnews w hs 0 news[0] (List.getElem?_eq_getElem hlen)
      have hnews' : ∀ j u, news[j]? = some u → w.cell? (b.add j) = some u := fun j u hj => by
        obtain ⟨b', e, hc⟩ := hnews w hs j u hj
        cases e; exact hc
      have hr := run_append_grow (P := P) w t ty e i z ht hi hz ⟨g, 0, none⟩ 0 0 [] (by simp) (by simp) b m c news hl hnews' (by omega) (by simp only [maxLen] at hm; omega) (growslice_fits (by omega) (by simpa using hb))
      have hge := grownCap_ge w (0 + m) 0 e
      have e1 : ([] : List Value).toArray ++ news.toArray ++ Builtin.zeroCells z.cells (grownCap w (0 + m) 0 e - (0 + m)) = (news ++ (Builtin.zeroCells z.cells (grownCap w (0 + m) 0 e - (0 + m))).toList).toArray := by rw [← Array.toList_inj]; simp
      rw [e1] at hr
      simp only [Nat.zero_add] at hr hge
      refine ⟨_, _, _, _, by simp [execOp, resolve, invoke, builtin, ha.eval hsv, ha.eval hx, hr]; rfl, hs.drew.new _, h _ _ _ hge ?_⟩
      simp [size_zeroCells, hzs, hl, ← Nat.add_mul]
      congr 1; omega
variable {fuel : Nat} {l : Array Bool}
theorem Pw.takeMin {x y : Operand} {ts : Array TypeId} {k k' : IntKind} {u v : Int} (i : Nat) (l' : Array Bool) (ho : ops[i]? = some ⟨some d, .call ⟨.builtin .min, #[x, y], ts⟩, ty, pos, af, gd⟩) (hx : ev K x = some (.int k u)) (hy : ev K y = some (.int k' v)) (hw : wantB K ops gd = some true) (hn : Nat.blt d n = true) (hc : takeB ops l i l' = true) (hQ : NoPan Q) (hS : ∀ w, St w0 M O L G w → S w)
    (h : Pw w0 M O n ((d, .int k (if v < u then v else u)) :: K) L G (wpAnyH P .any ops Q S fuel l')) : Pw w0 M O n K L G (wpAnyH P .any ops Q S (fuel + 1) l) :=
  Pw.take i l' ho rfl hn hw hc hQ hS (fun a w ha _ => by simp [execOp, resolve, invoke, builtin, Builtin.min_, Builtin.min2, ha.eval hx, ha.eval hy]) h
theorem Pw.takeCutA {x lo : Operand} {t e : TypeId} {A : Option Addr} {m c : Nat} {k : IntKind} {j : Int} {f : TypeInfo} (i : Nat) (l' : Array Bool) (ho : ops[i]? = some ⟨some d, .slice t x (some lo) none none, ty, pos, af, gd⟩) (hx : ev K x = some (.slice A m c)) (hlo : ev K lo = some (.int k j)) (ht : P.underlying t = some (.slice e)) (hf : P.info? e = some f) (h0 : 0 ≤ j) (h1 : j ≤ (m : Int)) (h2 : m ≤ c)
    (hw : wantB K ops gd = some true) (hn : Nat.blt d n = true) (hc : takeB ops l i l' = true) (hQ : NoPan Q) (hS : ∀ w, St w0 M O L G w → S w)
    (h : Pw w0 M O n ((d, .slice (Wk.cutA A j.toNat c f.size) (m - j.toNat) (c - j.toNat)) :: K) L G (wpAnyH P .any ops Q S fuel l')) : Pw w0 M O n K L G (wpAnyH P .any ops Q S (fuel + 1) l) :=
  Pw.take i l' ho rfl hn hw hc hQ hS (fun a w ha _ => by
    simp [execOp, ha.eval hx, ha.eval hlo, Instr.sliceAt, Instr.slice, Instr.sliceBounds, Instr.sliceBound, asIntOf, underlying, ht, sizeOf, typeInfo, hf, h0, h1, Wk.cutA]) h
/-- A field's place in a row of structs. -/
theorem Pw.takeFS {s : TypeId} {x : Operand} {j : Nat} {A : Addr} {fs : Array Field} {f : Field} {t : TypeInfo} (i : Nat) (l' : Array Bool) (ho : ops[i]? = some ⟨some d, .fieldAddr s x j, ty, pos, af, gd⟩) (hs : P.underlying s = some (.struct fs)) (hf : fs[j]? = some f) (hi : P.info? f.type = some t) (h0 : Nat.beq t.size 0 = false) (hx : ev K x = some (.pointer (some A)))
    (hw : wantB K ops gd = some true) (hn : Nat.blt d n = true) (hc : takeB ops l i l' = true) (hQ : NoPan Q) (hS : ∀ w, St w0 M O L G w → S w)
    (h : Pw w0 M O n ((d, .pointer (some (A.add f.offset))) :: K) L G (wpAnyH P .any ops Q S fuel l')) : Pw w0 M O n K L G (wpAnyH P .any ops Q S (fuel + 1) l) :=
  Pw.take i l' ho rfl hn hw hc hQ hS (fun a w ha _ => fieldS_run hs hf hi h0 hx ha) h
theorem Pw.takeLF {x : Operand} {ad : Addr} {u : TypeId} {sz sz' o : Nat} {j : Int} {enc : α → List Value} {held : α → World → Prop} {rs : List α} {c : Nat} {G0 : List (World → Prop)} (y : α) {v : Value} (i : Nat) (l' : Array Bool) (ho : ops[i]? = some ⟨some d, .load u x, ty, pos, af, gd⟩) (hx : ev K x = some (.pointer (some ((ad.add (j.toNat * sz)).add o)))) (hr : RowsAt G0 (some ad) α enc held sz' rs c) (hsz : sz = sz') (hi : rs[j.toNat]? = some y) (hv : (enc y)[o]? = some v) (hu : plainB P u = true)
    (hw : wantB K ops gd = some true) (hn : Nat.blt d n = true) (hc : takeB ops l i l' = true) (hQ : NoPan Q) (hS : ∀ w, St w0 M O L G w → All G0 w)
    (h : Pw w0 M O n ((d, v) :: K) L G (wpAnyH P .any ops Q (All G0) fuel l')) : Pw w0 M O n K L G (wpAnyH P .any ops Q (All G0) (fuel + 1) l) := by
  subst hsz
  exact Pw.take i l' ho rfl hn hw hc hQ hS (fun a w ha hS' => load1_run hx ha hu (by rw [add_add]; exact ((hr.h w hS').at hi).2.2 o v hv)) h
theorem Pw.takeLA {x : Operand} {ad : Addr} {u : TypeId} {sz sz' : Nat} {j : Int} {enc : α → List Value} {held : α → World → Prop} {rs : List α} {c : Nat} {G0 : List (World → Prop)} (y : α) (i : Nat) (l' : Array Bool) (ho : ops[i]? = some ⟨some d, .load u x, ty, pos, af, gd⟩) (hx : ev K x = some (.pointer (some (ad.add (j.toNat * sz))))) (hr : RowsAt G0 (some ad) α enc held sz' rs c) (hsz : sz = sz') (hi : rs[j.toNat]? = some y) (hu : aggB P u (enc y).length = true)
    (hw : wantB K ops gd = some true) (hn : Nat.blt d n = true) (hc : takeB ops l i l' = true) (hQ : NoPan Q) (hS : ∀ w, St w0 M O L G w → All G0 w)
    (h : Pw w0 M O n ((d, .agg (enc y).toArray) :: K) L G (wpAnyH P .any ops Q (All G0) fuel l')) : Pw w0 M O n K L G (wpAnyH P .any ops Q (All G0) (fuel + 1) l) := by
  subst hsz
  exact Pw.take i l' ho rfl hn hw hc hQ hS (fun a w ha hS' => loadA_run hx ha hu (fun q v hq => by rw [add_add]; exact ((hr.h w hS').at hi).2.2 q v hq)) h
end
end Go.Proofs.Wk
/- Lists of limbs «as» numbers, plainly: what a list is worth, the list without noughts at its end, when two of these are one. No program in sight; no conditions beyond those that are written. -/
namespace Go.Proofs.Wk
open Go.RowKit
set_option linter.unusedSimpArgs false
set_option linter.unusedVariables false

theorem rd_getElem {xs : List Int} {i : Int} (h1 : i.toNat < xs.length) : rd xs i = xs[i.toNat] := by
  unfold rd; rw [List.getD_eq_getElem?_getD, List.getElem?_eq_getElem h1]; rfl
theorem drop_rd {xs : List Int} {i : Int} (h0 : 0 ≤ i) (h1 : i < (xs.length : Int)) : xs.drop i.toNat = rd xs i :: xs.drop (i + 1).toNat := by
  have h : i.toNat < xs.length := by omega
  rw [List.drop_eq_getElem_cons h, rd_getElem h, show (i + 1).toNat = i.toNat + 1 by omega]
/-- A list without noughts at its end. -/
def trimL : List Int → List Int
  | [] => []
  | x :: xs => if trimL xs = [] ∧ x = 0 then [] else x :: trimL xs
/-- What a list of limbs is worth. -/
def val : List Int → Int
  | [] => 0
  | x :: xs => x + 4294967296 * val xs
/-- All are limbs. -/
def Lm (xs : List Int) : Prop := ∀ x ∈ xs, 0 ≤ x ∧ x ≤ 4294967295
theorem Lm.nil : Lm [] := by intro x hx; cases hx
theorem Lm.cons {x : Int} {xs : List Int} (h : 0 ≤ x ∧ x ≤ 4294967295) (hs : Lm xs) : Lm (x :: xs) := by
  intro y hy; rcases List.mem_cons.1 hy with rfl | hy
  · exact h
  · exact hs y hy
theorem Lm.head {x : Int} {xs : List Int} (h : Lm (x :: xs)) : 0 ≤ x ∧ x ≤ 4294967295 := h x (by simp)
theorem Lm.tail {x : Int} {xs : List Int} (h : Lm (x :: xs)) : Lm xs := fun y hy => h y (by simp [hy])
theorem Lm.append {xs ys : List Int} (h : Lm xs) (h' : Lm ys) : Lm (xs ++ ys) := by
  intro x hx; rcases List.mem_append.1 hx with hx | hx
  · exact h x hx
  · exact h' x hx
theorem Lm.left {xs ys : List Int} (h : Lm (xs ++ ys)) : Lm xs := fun x hx => h x (by simp [hx])
theorem Lm.right {xs ys : List Int} (h : Lm (xs ++ ys)) : Lm ys := fun x hx => h x (by simp [hx])
theorem Lm.take {xs : List Int} (h : Lm xs) (n : Nat) : Lm (xs.take n) := fun x hx => h x (List.mem_of_mem_take hx)
theorem Lm.drop {xs : List Int} (h : Lm xs) (n : Nat) : Lm (xs.drop n) := fun x hx => h x (List.mem_of_mem_drop hx)
theorem Lm.rd {xs : List Int} (h : Lm xs) {i : Int} : 0 ≤ rd xs i ∧ rd xs i ≤ 4294967295 := by
  by_cases hi : i.toNat < xs.length
  · rw [rd_getElem hi]; exact h _ (List.getElem_mem hi)
  · unfold Go.Proofs.Wk.rd; rw [List.getD_eq_getElem?_getD, List.getElem?_eq_none (by omega)]; simp
theorem Lm.zeros (n : Nat) : Lm (List.replicate n 0) := by
  intro x hx; obtain ⟨_, rfl⟩ := List.mem_replicate.1 hx; omega
theorem val_nonneg : ∀ {xs : List Int}, Lm xs → 0 ≤ val xs
  | [], _ => by simp [val]
  | x :: xs, h => by have := val_nonneg h.tail; have := h.head; simp only [val]; omega
theorem val_zeros : ∀ n : Nat, val (List.replicate n 0) = 0
  | 0 => rfl
  | n + 1 => by rw [List.replicate_succ]; simp [val, val_zeros n]
theorem val_trimL : ∀ xs : List Int, val (trimL xs) = val xs
  | [] => rfl
  | x :: xs => by
    have ih := val_trimL xs
    unfold trimL
    split
    · rename_i h; rw [h.1] at ih; simp only [val] at ih ⊢; omega
    · simp only [val]; omega
theorem Lm.trim : ∀ {xs : List Int}, Lm xs → Lm (trimL xs)
  | [], h => h
  | x :: xs, h => by
    unfold trimL; split
    · exact Lm.nil
    · exact Lm.cons h.head (Lm.trim h.tail)
theorem trimL_idem : ∀ xs : List Int, trimL (trimL xs) = trimL xs
  | [] => rfl
  | x :: xs => by
    have ih := trimL_idem xs
    by_cases h : trimL xs = [] ∧ x = 0
    · have e : trimL (x :: xs) = [] := by rw [trimL, if_pos h]
      rw [e]; rfl
    · have e : trimL (x :: xs) = x :: trimL xs := by rw [trimL, if_neg h]
      rw [e, trimL, ih, if_neg h]
theorem trimL_length : ∀ xs : List Int, (trimL xs).length ≤ xs.length
  | [] => Nat.le_refl _
  | x :: xs => by
    have ih := trimL_length xs
    unfold trimL; split <;> simp <;> omega
theorem trimL_nil_of_val : ∀ {xs : List Int}, Lm xs → val xs = 0 → trimL xs = []
  | [], _, _ => rfl
  | x :: xs, h, hv => by
    have h1 := val_nonneg h.tail; have h2 := h.head
    simp only [val] at hv
    rw [trimL, if_pos ⟨trimL_nil_of_val h.tail (by omega), by omega⟩]
/-- What is worth the same is the same, without noughts. -/
theorem trimL_eq : ∀ {xs ys : List Int}, Lm xs → Lm ys → val xs = val ys → trimL xs = trimL ys
  | [], ys, _, h, hv => by rw [trimL_nil_of_val h (by rw [← hv]; rfl)]; rfl
  | x :: xs, [], h, _, hv => by rw [trimL_nil_of_val h (by rw [hv]; rfl)]; rfl
  | x :: xs, y :: ys, h, h', hv => by
    have a := h.head; have b := h'.head; have c := val_nonneg h.tail; have d := val_nonneg h'.tail
    simp only [val] at hv
    have e : x = y := by omega
    have f : val xs = val ys := by omega
    subst e
    have ih := trimL_eq h.tail h'.tail f
    unfold trimL; rw [ih]
theorem trimL_snoc_zero : ∀ xs : List Int, trimL (xs ++ [0]) = trimL xs
  | [] => by simp [trimL]
  | x :: xs => by rw [List.cons_append, trimL, trimL, trimL_snoc_zero xs]
theorem trimL_snoc_ne : ∀ (xs : List Int) {y : Int}, y ≠ 0 → trimL (xs ++ [y]) = xs ++ [y]
  | [], y, h => by simp [trimL, h]
  | x :: xs, y, h => by rw [List.cons_append, trimL, trimL_snoc_ne xs h, if_neg (by simp)]
theorem take_rd {xs : List Int} {i : Int} (h0 : 0 ≤ i) (h1 : i < (xs.length : Int)) : xs.take (i + 1).toNat = xs.take i.toNat ++ [rd xs i] := by
  have h : i.toNat < xs.length := by omega
  rw [show (i + 1).toNat = i.toNat + 1 by omega, List.take_succ_eq_append_getElem h, rd_getElem h]
theorem trimL_last {xs : List Int} (h : 0 < xs.length) : trimL xs = if rd xs ((xs.length : Int) - 1) = 0 then trimL (xs.take ((xs.length : Int) - 1).toNat) else xs := by
  have e := take_rd (xs := xs) (i := (xs.length : Int) - 1) (by omega) (by omega)
  rw [show ((xs.length : Int) - 1 + 1).toNat = xs.length by omega, List.take_length] at e
  split
  · rename_i h0
    conv => lhs; rw [e, h0, trimL_snoc_zero]
  · rename_i h0
    conv => lhs; rw [e, trimL_snoc_ne _ h0]
    exact e.symm
/-- Without noughts at its end, all limbs. -/
def Fm (xs : List Int) : Prop := Lm xs ∧ trimL xs = xs
theorem Fm.lm {xs : List Int} (h : Fm xs) : Lm xs := h.1
theorem Fm.of {xs : List Int} (h : Lm xs) : Fm (trimL xs) := ⟨h.trim, trimL_idem xs⟩
theorem Fm.eq {xs ys : List Int} (h : Fm xs) (h' : Fm ys) (hv : val xs = val ys) : xs = ys := by
  have := trimL_eq h.1 h'.1 hv; rwa [h.2, h'.2] at this
theorem Fm.nil : Fm [] := ⟨Lm.nil, rfl⟩
theorem Fm.zero {xs : List Int} (h : Fm xs) (hv : val xs = 0) : xs = [] := h.eq Fm.nil hv
theorem Fm.iff {xs : List Int} (h : Lm xs) : Fm xs ↔ xs.length = 0 ∨ rd xs ((xs.length : Int) - 1) ≠ 0 := by
  constructor
  · intro hf
    by_cases h0 : xs.length = 0
    · exact .inl h0
    · refine .inr fun hz => ?_
      have e := trimL_last (xs := xs) (by omega)
      rw [if_pos hz, hf.2] at e
      have := trimL_length (xs.take ((xs.length : Int) - 1).toNat)
      have h2 := congrArg List.length e
      rw [List.length_take] at this
      omega
  · rintro (h0 | h0)
    · rw [List.eq_nil_of_length_eq_zero h0]; exact Fm.nil
    · refine ⟨h, ?_⟩
      by_cases h1 : xs.length = 0
      · rw [List.eq_nil_of_length_eq_zero h1]; rfl
      · rw [trimL_last (by omega), if_neg h0]
theorem val_append : ∀ xs ys : List Int, val (xs ++ ys) = val xs + 4294967296 ^ xs.length * val ys
  | [], ys => by simp [val]
  | x :: xs, ys => by
    have ih := val_append xs ys
    rw [List.cons_append, val, ih, val, List.length_cons, Int.pow_succ, Int.mul_add]
    have e : (4294967296 : Int) * (4294967296 ^ xs.length * val ys) = 4294967296 ^ xs.length * 4294967296 * val ys := by
      rw [← Int.mul_assoc, Int.mul_comm 4294967296 (4294967296 ^ xs.length)]
    rw [e]; omega
theorem val_lt : ∀ {xs : List Int}, Lm xs → val xs < 4294967296 ^ xs.length
  | [], _ => by simp [val]
  | x :: xs, h => by
    have ih := val_lt h.tail; have := h.head
    rw [List.length_cons, Int.pow_succ, val]; omega
/-- A natural «as» a list without noughts. -/
theorem Fm.pos {x : Int} {xs : List Int} (h : Fm (x :: xs)) : 0 < val (x :: xs) := by
  have := val_nonneg h.1
  rcases Int.lt_or_eq_of_le this with h0 | h0
  · exact h0
  · have := h.zero h0.symm; cases this

/-- Powers of a limb's size. -/
def pw (n : Nat) : Int := 4294967296 ^ n
theorem pw_zero : pw 0 = 1 := by simp [pw]
theorem pw_succ (n : Nat) : pw (n + 1) = pw n * 4294967296 := by unfold pw; rw [Int.pow_succ]
theorem pw_add (m n : Nat) : pw (m + n) = pw m * pw n := by unfold pw; rw [Int.pow_add]
theorem pw_pos : ∀ n : Nat, 0 < pw n
  | 0 => by rw [pw_zero]; omega
  | n + 1 => by have := pw_pos n; rw [pw_succ]; omega
theorem pw_le {m n : Nat} (h : m ≤ n) : pw m ≤ pw n := by
  obtain ⟨d, rfl⟩ := Nat.exists_eq_add_of_le h
  rw [pw_add]
  have h1 := pw_pos m; have h2 := pw_pos d
  have := Int.mul_le_mul_of_nonneg_left (show (1 : Int) ≤ pw d by omega) (show 0 ≤ pw m by omega)
  omega
theorem val_lt_pw {xs : List Int} (h : Lm xs) : val xs < pw xs.length := val_lt h
theorem val_append_pw (xs ys : List Int) : val (xs ++ ys) = val xs + pw xs.length * val ys := val_append xs ys
theorem rd_past {xs : List Int} {i : Int} (h : (xs.length : Int) ≤ i) : rd xs i = 0 := by
  unfold rd; rw [List.getD_eq_getElem?_getD, List.getElem?_eq_none (by omega)]; rfl
/-- One limb more. -/
theorem val_take_succ (xs : List Int) (i : Nat) : val (xs.take (i + 1)) = val (xs.take i) + pw i * rd xs (i : Int) := by
  by_cases h : i < xs.length
  · have e := take_rd (xs := xs) (i := (i : Int)) (by omega) (by omega)
    rw [show ((i : Int) + 1).toNat = i + 1 by omega, show (i : Int).toNat = i by omega] at e
    rw [e, val_append_pw, List.length_take, Nat.min_eq_left (by omega)]; simp [val]
  · rw [rd_past (by omega), List.take_of_length_le (by omega), List.take_of_length_le (by omega)]; simp
theorem take_set_le {xs : List Int} {i j : Nat} (h : i ≤ j) (v : Int) : (xs.set j v).take i = xs.take i := by
  rw [List.take_set_of_le h]
theorem rd_set_eq {xs : List Int} {i : Nat} (h : i < xs.length) (v : Int) : rd (xs.set i v) (i : Int) = v := by
  unfold rd; rw [List.getD_eq_getElem?_getD, show (i : Int).toNat = i by omega, List.getElem?_set_self (by omega)]; rfl
theorem rd_set_ne {xs : List Int} {i : Nat} {j : Int} (h : 0 ≤ j) (h' : (i : Int) ≠ j) (v : Int) : rd (xs.set i v) j = rd xs j := by
  unfold rd; rw [List.getD_eq_getElem?_getD, List.getD_eq_getElem?_getD, List.getElem?_set_ne (by omega)]
theorem val_take_set {xs : List Int} {i : Nat} (h : i < xs.length) (v : Int) : val ((xs.set i v).take (i + 1)) = val (xs.take i) + pw i * v := by
  rw [val_take_succ, take_set_le (Nat.le_refl _), rd_set_eq h]
theorem Lm.set {xs : List Int} (h : Lm xs) (i : Nat) {v : Int} (hv : 0 ≤ v ∧ v ≤ 4294967295) : Lm (xs.set i v) := by
  intro x hx
  rcases List.mem_or_eq_of_mem_set hx with hx | rfl
  · exact h x hx
  · exact hv
theorem take_zeros (n i : Nat) : val ((List.replicate n (0 : Int)).take i) = 0 := by
  rw [List.take_replicate]; exact val_zeros _
/-- A number «as» limbs. -/
def natL (n : Int) : List Int := if n ≤ 0 then [] else (n % 4294967296) :: natL (n / 4294967296)
termination_by n.toNat
decreasing_by omega
theorem natL_nil {n : Int} (h : n ≤ 0) : natL n = [] := by unfold natL; rw [if_pos h]
theorem natL_cons {n : Int} (h : 0 < n) : natL n = (n % 4294967296) :: natL (n / 4294967296) := by
  conv => lhs; unfold natL
  rw [if_neg (by omega)]
theorem natL_spec : ∀ (d : Nat) (n : Int), n.toNat ≤ d → Fm (natL n) ∧ (0 ≤ n → val (natL n) = n) := by
  intro d
  induction d with
  | zero => intro n hn; rw [natL_nil (by omega)]; exact ⟨Fm.nil, fun _ => by simp [val]; omega⟩
  | succ d ih =>
    intro n hn
    by_cases h : n ≤ 0
    · rw [natL_nil h]; exact ⟨Fm.nil, fun _ => by simp [val]; omega⟩
    · obtain ⟨h1, h2⟩ := ih (n / 4294967296) (by omega)
      have h2' := h2 (by omega)
      rw [natL_cons (by omega)]
      refine ⟨⟨Lm.cons (by omega) h1.1, ?_⟩, fun _ => by simp only [val]; omega⟩
      unfold trimL
      rw [h1.2, if_neg]
      rintro ⟨e1, e2⟩
      rw [e1] at h2'; simp only [val] at h2'; omega
theorem natL_fm (n : Int) : Fm (natL n) := (natL_spec n.toNat n (Nat.le_refl _)).1
theorem val_natL {n : Int} (h : 0 ≤ n) : val (natL n) = n := (natL_spec n.toNat n (Nat.le_refl _)).2 h
theorem Fm.natL {xs : List Int} (h : Fm xs) : xs = natL (val xs) := h.eq (natL_fm _) (val_natL (val_nonneg h.1)).symm
theorem trim_natL {xs : List Int} (h : Lm xs) : trimL xs = natL (val xs) := by rw [(Fm.of h).natL, val_trimL]
theorem natL_zero : natL 0 = [] := natL_nil (by omega)
theorem Fm.len_pw {xs : List Int} (h : Fm xs) (h0 : 0 < xs.length) : pw (xs.length - 1) ≤ val xs := by
  have e := val_take_succ xs (xs.length - 1)
  rw [show xs.length - 1 + 1 = xs.length by omega, List.take_length] at e
  have h1 : rd xs ((xs.length : Int) - 1) ≠ 0 := by
    rcases (Fm.iff h.1).1 h with h2 | h2
    · omega
    · exact h2
  rw [show (((xs.length - 1 : Nat)) : Int) = (xs.length : Int) - 1 by omega] at e
  have h2 := h.1.rd (i := (xs.length : Int) - 1)
  have h3 := val_nonneg (h.1.take (xs.length - 1))
  have h4 := pw_pos (xs.length - 1)
  have h5 := Int.mul_le_mul_of_nonneg_left (show (1 : Int) ≤ rd xs ((xs.length : Int) - 1) by omega) (show 0 ≤ pw (xs.length - 1) by omega)
  omega
theorem Fm.len_le {xs : List Int} (h : Fm xs) (n : Nat) : xs.length ≤ n ↔ val xs < pw n := by
  constructor
  · intro hl
    have := val_lt_pw h.1; have := pw_le hl; omega
  · intro hv
    by_cases h0 : xs.length ≤ n
    · exact h0
    · have := h.len_pw (by omega)
      have := pw_le (show n ≤ xs.length - 1 by omega)
      omega
/-- How two numbers compare. -/
def cmpS (a b : Int) : Int := if a < b then -1 else if a = b then 0 else 1
theorem Fm.lt_of_len {xs ys : List Int} (h : Fm xs) (h' : Fm ys) (hl : xs.length < ys.length) : val xs < val ys := by
  have h1 := val_lt_pw h.1
  have h2 := h'.len_pw (by omega)
  have h3 := pw_le (show xs.length ≤ ys.length - 1 by omega)
  omega
theorem cmpS_step {V W P x y : Int} (hV : 0 ≤ V) (hW : 0 ≤ W) (hV' : V < P) (hW' : W < P) : cmpS (V + P * x) (W + P * y) = if x < y then -1 else if y < x then 1 else cmpS V W := by
  have hP : 0 ≤ P := by omega
  unfold cmpS
  by_cases h1 : x < y
  · have := Int.mul_le_mul_of_nonneg_left (show x + 1 ≤ y by omega) hP
    rw [Int.mul_add] at this
    rw [if_pos h1, if_pos (by omega)]
  · rw [if_neg h1]
    by_cases h2 : y < x
    · have := Int.mul_le_mul_of_nonneg_left (show y + 1 ≤ x by omega) hP
      rw [Int.mul_add] at this
      rw [if_pos h2, if_neg (by omega), if_neg (by omega)]
    · rw [if_neg h2]
      have : x = y := by omega
      subst this
      by_cases h3 : V < W
      · rw [if_pos h3, if_pos (by omega)]
      · rw [if_neg h3, if_neg (by omega)]
        by_cases h4 : V = W
        · rw [if_pos h4, if_pos (by omega)]
        · rw [if_neg h4, if_neg (by omega)]

theorem or_low {x y : Int} (hx : 0 ≤ x) (hx' : x ≤ 4294967295) (hy : 0 ≤ y) (hy' : y ≤ 4294967295) : Go.bits .or .u64 (y * 4294967296) x = y * 4294967296 + x := by
  obtain ⟨a, rfl⟩ := Int.eq_ofNat_of_zero_le hx
  obtain ⟨b, rfl⟩ := Int.eq_ofNat_of_zero_le hy
  have e : ((b : Int) * 4294967296) = ((2 ^ 32 * b : Nat) : Int) := by omega
  rw [e, Go.u64_or_nat _ _ (by omega) (by omega), ← Nat.two_pow_add_eq_or_of_lt (by omega)]
  omega
theorem or_high {x y : Int} (hx : 0 ≤ x) (hx' : x ≤ 4294967295) (hy : 0 ≤ y) (hy' : y ≤ 4294967295) : Go.bits .or .u64 x (y * 4294967296) = y * 4294967296 + x := by
  obtain ⟨a, rfl⟩ := Int.eq_ofNat_of_zero_le hx
  obtain ⟨b, rfl⟩ := Int.eq_ofNat_of_zero_le hy
  have e : ((b : Int) * 4294967296) = ((2 ^ 32 * b : Nat) : Int) := by omega
  rw [e, Go.u64_or_nat _ _ (by omega) (by omega), Nat.or_comm, ← Nat.two_pow_add_eq_or_of_lt (by omega)]
  omega

end Go.Proofs.Wk
/- What the printed functions of layer 1 that form naturals come to: trim, Of, Formed, formed, fit. Conditions: lists of limbs, of fewer than 2^40 elements. -/
namespace Go.Proofs.Wk
open Go.RowKit
set_option linter.unusedSimpArgs false
set_option linter.unusedVariables false

theorem trim_k : ∀ (n : Nat) (l : List Int), l.length = n → n < 1099511627776 → ∀ k, n < k → limb_trim.l0 k l = some (trimL l) := by
  intro n
  induction n with
  | zero =>
    intro l hl _ k hk
    obtain ⟨k, rfl⟩ : ∃ m, k = m + 1 := ⟨k - 1, by omega⟩
    simp only [limb_trim.l0]
    rw [if_neg (by omega), List.eq_nil_of_length_eq_zero hl]; rfl
  | succ n ih =>
    intro l hl hn k hk
    obtain ⟨k, rfl⟩ : ∃ m, k = m + 1 := ⟨k - 1, by omega⟩
    have hw : wrap64 ((l.length : Int) - 1) = (l.length : Int) - 1 := wi64 (by omega) (by omega)
    simp only [limb_trim.l0]
    rw [hw, if_pos (by omega), if_pos (by omega), if_pos (by omega), trimL_last (by omega)]
    by_cases h0 : rd l ((l.length : Int) - 1) = 0
    · rw [if_pos h0, if_pos (by omega), if_pos h0]
      exact ih _ (by rw [List.length_take]; omega) (by omega) k (by omega)
    · rw [if_neg h0, if_neg h0]
theorem trim_ev {l : List Int} (h : l.length < 1099511627776) {k : Nat} (hk : l.length < k) : limb_trim.f k l = some (trimL l) := trim_k _ l rfl h k hk
/-- A number «as» a natural. -/
def ofN (n : Int) : List Int := trimL [n % 4294967296, n / 4294967296 % 4294967296]
theorem ofN_fm (n : Int) : Fm (ofN n) := Fm.of (Lm.cons (by omega) (Lm.cons (by omega) Lm.nil))
theorem ofN_val {n : Int} (h0 : 0 ≤ n) (h1 : n ≤ 18446744073709551615) : val (ofN n) = n := by
  unfold ofN; rw [val_trimL]; simp only [val]; omega
/-- Is a list a natural: not too long, no nought at its end. -/
def fmB (l : List Int) : Bool := decide (l.length ≤ 400) && (decide (l.length = 0) || decide (rd l ((l.length : Int) - 1) ≠ 0))
theorem fmB_iff {l : List Int} (h : Lm l) : fmB l = true ↔ l.length ≤ 400 ∧ Fm l := by
  unfold fmB; rw [Fm.iff h]; simp
theorem Formed_ev {l : List Int} (h : l.length < 1099511627776) : limb_Formed.f l = some (fmB l) := by
  have hw : wrap64 ((l.length : Int) - 1) = (l.length : Int) - 1 := wi64 (by omega) (by omega)
  unfold limb_Formed.f fmB
  rw [hw]
  by_cases h1 : l.length ≤ 400
  · rw [if_pos (by omega)]
    by_cases h2 : l.length = 0
    · rw [if_pos (by omega)]; simp [h1, h2]
    · rw [if_neg (by omega), if_pos (by omega), if_pos (by omega)]; simp [h1, h2, bne]; rfl
  · rw [if_neg (by omega)]; simp [h1]
theorem index_ev : ∀ (d : Nat) (ls : List (List Int)) (k : Nat) (i : Int), 0 ≤ i → (ls.length : Int) - i = d → ls.length < 1099511627776 → (∀ l ∈ ls, l.length < 1099511627776) → d < k →
    ∃ r, slices_IndexFunc_limb_Nat_limb_Nat__limb_formed_1.l0 k ls (ls.length : Int) i = some r ∧ decide (r ≥ 0) = (ls.drop i.toNat).any (fun l => !fmB l) := by
  intro d
  induction d with
  | zero =>
    intro ls k i h0 hd _ _ hk
    obtain ⟨k, rfl⟩ : ∃ m, k = m + 1 := ⟨k - 1, by omega⟩
    refine ⟨-1, ?_, ?_⟩
    · simp only [slices_IndexFunc_limb_Nat_limb_Nat__limb_formed_1.l0]; rw [if_neg (by omega)]
    · rw [List.drop_eq_nil_of_le (by omega)]; rfl
  | succ d ih =>
    intro ls k i h0 hd hl hls hk
    obtain ⟨k, rfl⟩ : ∃ m, k = m + 1 := ⟨k - 1, by omega⟩
    have hi : i.toNat < ls.length := by omega
    have hrd : rd_L1 ls i = ls[i.toNat] := by unfold rd_L1; rw [List.getD_eq_getElem?_getD, List.getElem?_eq_getElem hi]; rfl
    have hdr : ls.drop i.toNat = ls[i.toNat] :: ls.drop (i + 1).toNat := by rw [List.drop_eq_getElem_cons hi, show (i + 1).toNat = i.toNat + 1 by omega]
    have hF : limb_formed_1.f (rd_L1 ls i) = some (!fmB (rd_L1 ls i)) := by
      unfold limb_formed_1.f; rw [Formed_ev (by rw [hrd]; exact hls _ (List.getElem_mem hi))]; rfl
    simp only [slices_IndexFunc_limb_Nat_limb_Nat__limb_formed_1.l0]
    rw [if_pos (by omega), if_pos h0, if_pos (by omega), hF]; simp only [Option.bind_some]
    rw [hdr, List.any_cons, ← hrd]
    cases hb : fmB (rd_L1 ls i) with
    | true =>
      obtain ⟨r, hr, h⟩ := ih ls k (i + 1) (by omega) (by omega) hl hls (by omega)
      refine ⟨r, ?_, ?_⟩
      · rw [if_neg (by simp), wi64 (by omega) (by omega)]; exact hr
      · rw [h]; rfl
    | false => exact ⟨i, by rw [if_pos (by simp)], by simp [h0]⟩
theorem not_any_not : ∀ ls : List (List Int), (!ls.any (fun l => !fmB l)) = ls.all fmB
  | [] => rfl
  | a :: b => by rw [List.any_cons, List.all_cons, ← not_any_not b]; cases fmB a <;> simp
theorem formed_ev {ls : List (List Int)} (hl : ls.length < 1099511627776) (hls : ∀ l ∈ ls, l.length < 1099511627776) {k : Nat} (hk : ls.length < k) : limb_formed.f k ls = some (ls.all fmB) := by
  obtain ⟨r, hr, h⟩ := index_ev ls.length ls k 0 (by omega) (by omega) hl hls hk
  unfold limb_formed.f slices_ContainsFunc_limb_Nat_limb_Nat__limb_formed_1.f slices_IndexFunc_limb_Nat_limb_Nat__limb_formed_1.f
  rw [hr]; simp only [Option.bind_some]; rw [h]
  exact congrArg some (not_any_not ls)
theorem formed2_ev {a b : List Int} (ha : a.length < 1099511627776) (hb : b.length < 1099511627776) {k : Nat} (hk : 2 < k) : limb_formed.f k [a, b] = some (fmB a && fmB b) := by
  rw [formed_ev (by simp) (by intro l hl; simp at hl; rcases hl with rfl | rfl <;> assumption) (by simpa using hk)]; simp
/-- A result that isn't too long. -/
def fitL (l : List Int) : List Int × Int := if (trimL l).length ≤ 400 then (trimL l, 0) else ([], 4)
/-- A number «as» a result that isn't too long. -/
def fitN (n : Int) : List Int × Int := if (natL n).length ≤ 400 then (natL n, 0) else ([], 4)
theorem fitL_val {l : List Int} (h : Lm l) : fitL l = fitN (val l) := by unfold fitL fitN; rw [trim_natL h]
theorem ofN_natL {n : Int} (h0 : 0 ≤ n) (h1 : n ≤ 18446744073709551615) : ofN n = natL n := by rw [(ofN_fm n).natL, ofN_val h0 h1]
theorem fmB_natL {n : Int} (h : (natL n).length ≤ 400) : fmB (natL n) = true := (fmB_iff (natL_fm n).1).2 ⟨h, natL_fm n⟩

end Go.Proofs.Wk
/- What compare and Cmp of layer 1 come to, the reference's too. Conditions: lists of limbs, of fewer than 2^39 elements. -/
namespace Go.Proofs.Wk
open Go.RowKit
set_option linter.unusedSimpArgs false
set_option linter.unusedVariables false

theorem cmp_loop {xs ys : List Int} (hx : Lm xs) (hy : Lm ys) (hl : xs.length < 549755813888) (hl' : ys.length < 549755813888) : ∀ (n k : Nat), n ≤ xs.length → n ≤ ys.length → n < k →
    limb_compare.l0 k xs ys ((n : Int) - 1) = some (cmpS (val (xs.take n)) (val (ys.take n))) := by
  intro n
  induction n with
  | zero =>
    intro k _ _ hk
    obtain ⟨k, rfl⟩ : ∃ m, k = m + 1 := ⟨k - 1, by omega⟩
    simp only [limb_compare.l0]; rw [if_neg (by omega)]; simp [val, cmpS]
  | succ n ih =>
    intro k h1 h2 hk
    obtain ⟨k, rfl⟩ : ∃ m, k = m + 1 := ⟨k - 1, by omega⟩
    have e : (((n + 1 : Nat) : Int) - 1) = (n : Int) := by omega
    simp only [limb_compare.l0]
    rw [e, if_pos (by omega), if_pos (by omega), if_pos (by omega), if_pos (by omega), wi64 (by omega) (by omega), ih k (by omega) (by omega) (by omega), val_take_succ, val_take_succ]
    have a1 := val_nonneg (hx.take n); have a2 := val_nonneg (hy.take n)
    have a3 := val_lt_pw (hx.take n); have a4 := val_lt_pw (hy.take n)
    rw [List.length_take, Nat.min_eq_left (by omega)] at a3 a4
    rw [cmpS_step a1 a2 a3 a4]
    by_cases h3 : rd xs (n : Int) < rd ys (n : Int)
    · rw [if_pos h3, if_pos h3]
    · rw [if_neg h3, if_neg h3]
      by_cases h4 : rd ys (n : Int) < rd xs (n : Int)
      · rw [if_pos (by omega), if_pos h4]
      · rw [if_neg (by omega), if_neg h4]
theorem compare_ev {a b : List Int} (ha : Fm a) (hb : Fm b) (hl : a.length < 549755813888) (hl' : b.length < 549755813888) {k : Nat} (hk : a.length < k) : limb_compare.f k a b = some (cmpS (val a) (val b)) := by
  unfold limb_compare.f
  by_cases h1 : a.length < b.length
  · have := ha.lt_of_len hb h1
    rw [if_pos (by omega)]; unfold cmpS; rw [if_pos this]
  · rw [if_neg (by omega)]
    by_cases h2 : b.length < a.length
    · have := hb.lt_of_len ha h2
      rw [if_pos (by omega)]; unfold cmpS; rw [if_neg (by omega), if_neg (by omega)]
    · rw [if_neg (by omega), wi64 (by omega) (by omega)]
      have := cmp_loop ha.1 hb.1 hl hl' a.length k (by omega) (by omega) hk
      rw [this, List.take_length, List.take_of_length_le (by omega)]

end Go.Proofs.Wk
/- What Cmp of layer 1 comes to. Conditions: lists of limbs, of fewer than 2^39 elements. -/
namespace Go.Proofs.Wk
open Go.RowKit
set_option linter.unusedSimpArgs false
set_option linter.unusedVariables false

end Go.Proofs.Wk
/- What fit of layer 1 comes to. Conditions stand with it. -/
namespace Go.Proofs.Wk
open Go.RowKit
set_option linter.unusedSimpArgs false
set_option linter.unusedVariables false

theorem fit_ev {l : List Int} (h : l.length < 1099511627776) {k : Nat} (hk : l.length < k) : limb_fit.f k l = some (fitL l) := by
  unfold limb_fit.f fitL; rw [trim_ev h hk]; simp only [Option.bind_some]
  by_cases h1 : (trimL l).length ≤ 400
  · rw [if_neg (by omega), if_pos h1]
  · rw [if_pos (by omega), if_neg h1]

end Go.Proofs.Wk
/- What Sub of layer 1 comes to: the difference, or its error. Conditions: lists of limbs, of fewer than 2^39 elements. -/
namespace Go.Proofs.Wk
open Go.RowKit
set_option linter.unusedSimpArgs false
set_option linter.unusedVariables false

end Go.Proofs.Wk
/- What Add of layer 1 comes to: the sum, or its error. Conditions: lists of limbs, of fewer than 2^39 elements. -/
namespace Go.Proofs.Wk
open Go.RowKit
set_option linter.unusedSimpArgs false
set_option linter.unusedVariables false

end Go.Proofs.Wk
/- What Mul of layer 1 comes to: the product, or its error. Conditions: lists of limbs, of fewer than 2^38 elements. -/
namespace Go.Proofs.Wk
open Go.RowKit
set_option linter.unusedSimpArgs false
set_option linter.unusedVariables false

theorem mul_step {P Q c x y o V U W s : Int} (h : V + P * Q * c = U + P * x * W) (hs : s = c + x * y + o) : V + P * Q * (s % 4294967296) + (P * Q * 4294967296) * (s / 4294967296) = U + P * Q * o + P * x * (W + Q * y) := by
  have := Int.emod_add_mul_ediv s 4294967296
  grind
theorem mul_le {x y : Int} (hx : 0 ≤ x ∧ x ≤ 4294967295) (hy : 0 ≤ y ∧ y ≤ 4294967295) : 0 ≤ x * y ∧ x * y ≤ 18446744065119617025 := by
  have h1 := Int.mul_nonneg hx.1 hy.1
  have h2 := Int.mul_le_mul hx.2 hy.2 hy.1 (by omega : (0 : Int) ≤ 4294967295)
  omega

theorem mul_inner {a b : List Int} (hb : Lm b) {x : Int} (hx : 0 ≤ x ∧ x ≤ 4294967295) (hlb : b.length < 274877906944) (hla : a.length < 274877906944) {i n : Nat} (hin : i < n) (hn : n = a.length) {out0 : List Int} (hl0 : out0.length = n + b.length) : ∀ (d j k : Nat) (out : List Int) (c : Int),
    j + d = b.length → out.length = n + b.length → Lm out → (∀ q : Int, ((i + j : Nat) : Int) ≤ q → rd out q = rd out0 q) → 0 ≤ c → c ≤ 4294967295 →
    val (out.take (i + j)) + pw i * pw j * c = val (out0.take (i + j)) + pw i * x * val (b.take j) → d < k →
    ∃ (k' : Nat) (out' : List Int), k ≤ k' + d + 1 ∧ k' < k ∧ out'.length = n + b.length ∧ Lm out' ∧ val (out'.take (i + b.length + 1)) = val (out0.take (i + b.length)) + pw i * x * val b ∧
      limb_Mul.l1 k b out (i : Int) x c a (n : Int) (i : Int) b (b.length : Int) (j : Int) = limb_Mul.l0 k' b out' a (n : Int) ((i + 1 : Nat) : Int) := by
  intro d
  induction d with
  | zero =>
    intro j k out c hj hol hm hsame hc0 hc1 hv hk
    obtain ⟨k, rfl⟩ : ∃ m, k = m + 1 := ⟨k - 1, by omega⟩
    obtain rfl : j = b.length := by omega
    refine ⟨k, out.set (i + b.length) c, by omega, by omega, by rw [List.length_set]; exact hol, hm.set _ ⟨hc0, hc1⟩, ?_, ?_⟩
    · rw [val_take_set (by omega), pw_add, hv, List.take_length]
    · simp only [limb_Mul.l1]
      rw [if_neg (by omega), wi64 (n := (i : Int) + (b.length : Int)) (by omega) (by omega), if_pos (by omega), if_pos (by omega), wsucc (by omega), Int.emod_eq_of_lt hc0 (by omega), show ((i : Int) + (b.length : Int)).toNat = i + b.length by omega]
  | succ d ih =>
    intro j k out c hj hol hm hsame hc0 hc1 hv hk
    obtain ⟨k, rfl⟩ : ∃ m, k = m + 1 := ⟨k - 1, by omega⟩
    have hy := hb.rd (i := (j : Int))
    have ho := hm.rd (i := ((i + j : Nat) : Int))
    have hxy := mul_le hx hy
    generalize hp : x * rd b (j : Int) = p at hxy
    have e1 : ∀ s : Int, (out.set (i + j) (s % 4294967296)).length = n + b.length := fun s => by rw [List.length_set]; exact hol
    have e2 : ∀ s : Int, s = c + p + rd out ((i + j : Nat) : Int) → val ((out.set (i + j) (s % 4294967296)).take (i + (j + 1))) + pw i * pw (j + 1) * (s / 4294967296) = val (out0.take (i + (j + 1))) + pw i * x * val (b.take (j + 1)) := by
      intro s hs
      rw [show i + (j + 1) = i + j + 1 by omega, val_take_set (by omega), val_take_succ out0, val_take_succ b, pw_add, pw_succ, ← hsame _ (Int.le_refl _)]
      have := mul_step hv (show s = c + x * rd b (j : Int) + rd out ((i + j : Nat) : Int) by omega)
      rw [show pw i * (pw j * 4294967296) = pw i * pw j * 4294967296 by grind]
      exact this
    have e3 : ∀ s : Int, ∀ q : Int, ((i + (j + 1) : Nat) : Int) ≤ q → rd (out.set (i + j) (s % 4294967296)) q = rd out0 q := by
      intro s q hq; rw [rd_set_ne (by omega) (by omega)]; exact hsame q (by omega)
    obtain ⟨k', out', g1, g2, g3, g4, g5, g6⟩ := ih (j + 1) k (out.set (i + j) ((c + p + rd out ((i + j : Nat) : Int)) % 4294967296)) ((c + p + rd out ((i + j : Nat) : Int)) / 4294967296) (by omega) (e1 _) (hm.set _ (by omega)) (e3 _) (by omega) (by omega) (e2 _ rfl) (by omega)
    refine ⟨k', out', by omega, by omega, g3, g4, g5, ?_⟩
    rw [← g6]
    simp only [limb_Mul.l1]
    rw [if_pos (by omega), if_pos (by omega), if_pos (by omega), wi64 (n := (i : Int) + (j : Int)) (by omega) (by omega), if_pos (by omega), if_pos (by omega), wsucc (by omega), show (i : Int) + (j : Int) = ((i + j : Nat) : Int) by omega, wu (n := x) (by omega) (by omega), wu (n := rd b (j : Int)) (by omega) (by omega), hp, wu (n := p) (by omega) (by omega), wu (n := rd out ((i + j : Nat) : Int)) (by omega) (by omega), wu (n := p + rd out ((i + j : Nat) : Int)) (by omega) (by omega), wu (by omega) (by omega), show (((i + j : Nat) : Int)).toNat = i + j by omega, show c + (p + rd out ((i + j : Nat) : Int)) = c + p + rd out ((i + j : Nat) : Int) by omega]
theorem mul_outer {a b : List Int} (ha : Lm a) (hb : Lm b) (hlb : b.length < 274877906944) (hla : a.length < 274877906944) : ∀ (d i k : Nat) (out : List Int),
    i + d = a.length → out.length = a.length + b.length → Lm out → val (out.take (i + b.length)) = val (a.take i) * val b → (d + 1) * (b.length + 2) + a.length + b.length + 2 < k →
    limb_Mul.l0 k b out a (a.length : Int) (i : Int) = some (fitN (val a * val b)) := by
  intro d
  induction d with
  | zero =>
    intro i k out hi hol hm hv hk
    obtain ⟨k, rfl⟩ : ∃ m, k = m + 1 := ⟨k - 1, by omega⟩
    obtain rfl : i = a.length := by omega
    simp only [limb_Mul.l0]
    rw [if_neg (by omega), fit_ev (by omega) (by omega), fitL_val hm]; simp only [Option.bind_some]
    rw [List.take_of_length_le (by omega), List.take_length] at hv
    rw [hv]
  | succ d ih =>
    intro i k out hi hol hm hv hk
    obtain ⟨k, rfl⟩ : ∃ m, k = m + 1 := ⟨k - 1, by omega⟩
    have hx := ha.rd (i := (i : Int))
    have hmul : (d + 1 + 1) * (b.length + 2) = (d + 1) * (b.length + 2) + (b.length + 2) := by rw [Nat.add_mul]; omega
    obtain ⟨k', out', g1, g2, g3, g4, g5, g6⟩ := mul_inner (a := a) hb hx hlb hla (i := i) (n := a.length) (by omega) rfl (out0 := out) hol b.length 0 k out 0 (by omega) hol hm (fun _ _ => rfl) (by omega) (by omega) (by simp [val]) (by omega)
    simp only [limb_Mul.l0]
    rw [if_pos (by omega), if_pos (by omega), if_pos (by omega)]
    have g6' : limb_Mul.l1 k b out (i : Int) (rd a (i : Int)) 0 a (a.length : Int) (i : Int) b (b.length : Int) 0 = limb_Mul.l0 k' b out' a (a.length : Int) ((i + 1 : Nat) : Int) := g6
    rw [g6']
    refine ih (i + 1) k' out' (by omega) g3 g4 ?_ (by omega)
    rw [show i + 1 + b.length = i + b.length + 1 by omega, g5, hv, val_take_succ]
    grind
/-- The product of two lists, or the error. -/
def mulS (a b : List Int) : List Int × Int := if fmB a = true ∧ fmB b = true then fitN (val a * val b) else ([], 1)
theorem mul_ev {a b : List Int} (ha : Lm a) (hb : Lm b) (hal : a.length < 274877906944) (hbl : b.length < 274877906944) {k : Nat} (hk : (a.length + 1) * (b.length + 2) + a.length + b.length + 10 < k) : limb_Mul.f k a b = some (mulS a b) := by
  unfold limb_Mul.f mulS
  rw [formed2_ev (by omega) (by omega) (by omega)]; simp only [Option.bind_some]
  cases hfa : fmB a <;> cases hfb : fmB b <;> simp
  rw [wi64 (n := (a.length : Int) + (b.length : Int)) (by omega) (by omega)]
  refine ⟨by omega, by omega, ?_⟩
  rw [show ((a.length : Int) + (b.length : Int)).toNat = a.length + b.length by omega]
  exact mul_outer ha hb hbl hal a.length 0 k (List.replicate (a.length + b.length) 0) (by omega) (by simp) (Lm.zeros _) (by rw [take_zeros]; simp [val]) (by omega)

end Go.Proofs.Wk
/- What small, shift and unshift of layer 1 come to. Conditions: lists of limbs, of fewer than 2^38 elements; a shift by at most 31 bits. -/
namespace Go.Proofs.Wk
open Go.RowKit
set_option linter.unusedSimpArgs false
set_option linter.unusedVariables false

/-- Powers of two. -/
def p2 (n : Nat) : Int := 2 ^ n
theorem p2_nat (n : Nat) : p2 n = ((2 ^ n : Nat) : Int) := by unfold p2; simp
theorem p2_pos (n : Nat) : 0 < p2 n := by rw [p2_nat]; have := Nat.pow_pos (n := n) (show 0 < 2 by omega); omega
theorem p2_add (m n : Nat) : p2 (m + n) = p2 m * p2 n := by unfold p2; rw [Int.pow_add]
theorem p2_succ (n : Nat) : p2 (n + 1) = 2 * p2 n := by unfold p2; rw [Int.pow_succ]; omega
theorem p2_le {m n : Nat} (h : m ≤ n) : p2 m ≤ p2 n := by
  rw [p2_nat, p2_nat]; exact Int.ofNat_le.mpr (Nat.pow_le_pow_right (by omega) h)
theorem p2_31 {s : Nat} (h : s ≤ 31) : p2 s ≤ 2147483648 := by
  have := p2_le h; rw [show p2 31 = 2147483648 by decide +kernel] at this; exact this
theorem p2_32 {s : Nat} (h : s ≤ 32) : p2 s * p2 (32 - s) = 4294967296 := by
  rw [← p2_add, show s + (32 - s) = 32 by omega]; decide +kernel
theorem p2_pw (n : Nat) : p2 (32 * n) = pw n := by
  induction n with
  | zero => rw [pw_zero]; decide +kernel
  | succ n ih => rw [show 32 * (n + 1) = 32 * n + 32 by omega, p2_add, ih, pw_succ, show p2 32 = 4294967296 by decide +kernel]
theorem shl_u64 {x : Int} {s : Nat} (hx : 0 ≤ x ∧ x ≤ 4294967295) (hs : s ≤ 31) : shl .u64 x (s : Int) = x * p2 s := by
  unfold shl
  rw [show min ((s : Int)).toNat IntKind.u64.bits = s by simp [IntKind.bits]; omega]
  have h1 := p2_31 hs; have h2 := p2_pos s
  have h3 := Int.mul_le_mul hx.2 h1 (by omega) (by omega : (0 : Int) ≤ 4294967295)
  have h4 := Int.mul_nonneg hx.1 (show 0 ≤ p2 s by omega)
  exact wu (n := x * 2 ^ s) h4 (Int.le_trans h3 (by omega))
theorem shr_nat {k : IntKind} {x : Int} {s : Nat} (hs : s ≤ k.bits) : shr k x (s : Int) = x / p2 s := by
  unfold shr p2; rw [show min ((s : Int)).toNat k.bits = s by omega]
theorem or32 {c y : Int} {s : Nat} (hs : s ≤ 32) (hc0 : 0 ≤ c) (hc : c < p2 s) (hy0 : 0 ≤ y) (hy : y ≤ 4294967295) (hd : y % p2 s = 0) : Go.bits .or .u32 c y = c + y := by
  obtain ⟨c', rfl⟩ := Int.eq_ofNat_of_zero_le hc0
  obtain ⟨y', rfl⟩ := Int.eq_ofNat_of_zero_le hy0
  rw [p2_nat] at hc hd
  have hc2 : c' < 2 ^ s := by omega
  have hd2 : y' % 2 ^ s = 0 := by
    have : ((y' % 2 ^ s : Nat) : Int) = 0 := by rw [Int.natCast_emod]; exact hd
    omega
  obtain ⟨t, rfl⟩ : ∃ t, y' = 2 ^ s * t := ⟨y' / 2 ^ s, by have := Nat.div_add_mod y' (2 ^ s); omega⟩
  have h32 : 2 ^ s ≤ 2 ^ 32 := Nat.pow_le_pow_right (by omega) hs
  rw [Go.u32_or_nat _ _ (by omega) (by omega), Nat.or_comm, ← Nat.two_pow_add_eq_or_of_lt hc2]
  omega

/- the one-limb quotient -/
theorem small_step {b D Q R x t q : Int} (hD : D = b * Q + R) (ht : t = R * 4294967296 + x) (hq : t = b * q + t % b) : x + 4294967296 * D = b * (q + 4294967296 * Q) + t % b := by grind
theorem small_loop {a : List Int} (ha : Lm a) {b : Int} (hb0 : 0 < b) (hb1 : b ≤ 4294967295) (hl : a.length < 274877906944) : ∀ (i k : Nat) (out : List Int) (r : Int),
    i ≤ a.length → out.length = a.length → Lm out → 0 ≤ r → r < b → val (a.drop i) = b * val (out.drop i) + r → a.length + i + 3 < k →
    limb_small.l0 k a b out r ((i : Int) - 1) = some (natL (val a / b), natL (val a % b)) := by
  intro i
  induction i with
  | zero =>
    intro k out r hi hol hm hr0 hr1 hv hk
    obtain ⟨k, rfl⟩ : ∃ m, k = m + 1 := ⟨k - 1, by omega⟩
    simp only [limb_small.l0]
    rw [if_neg (by omega), trim_ev (by omega) (by omega), trim_natL hm]; simp only [Option.bind_some]
    rw [trim_ev (by simp) (by simp; omega), Int.emod_eq_of_lt hr0 (by omega), trim_natL (Lm.cons (by omega) Lm.nil)]; simp only [Option.bind_some]
    rw [List.drop_zero, List.drop_zero] at hv
    have hq : val a / b = val out := by
      rw [hv, Int.add_ediv_of_dvd_left ⟨_, rfl⟩, Int.mul_ediv_cancel_left _ (by omega), Int.ediv_eq_zero_of_lt hr0 hr1]; omega
    have hr : val a % b = r := by
      rw [hv, Int.add_comm, Int.add_mul_emod_self_left, Int.emod_eq_of_lt hr0 hr1]
    rw [hq, hr]; simp [val]
  | succ i ih =>
    intro k out r hi hol hm hr0 hr1 hv hk
    obtain ⟨k, rfl⟩ : ∃ m, k = m + 1 := ⟨k - 1, by omega⟩
    have hx := ha.rd (i := (i : Int))
    have e0 : (((i + 1 : Nat) : Int) - 1) = (i : Int) := by omega
    have hR : 0 ≤ r * 4294967296 ∧ r * 4294967296 ≤ 18446744069414584320 := by omega
    have hor := or_low hx.1 hx.2 hr0 (show r ≤ 4294967295 by omega)
    simp only [limb_small.l0]
    rw [e0, if_pos (by omega), if_pos (by omega), if_pos (by omega), wu (n := b) (by omega) (by omega), if_neg (by omega), if_pos (by omega), wu (n := r * 4294967296) (by omega) (by omega), wu (n := rd a (i : Int)) (by omega) (by omega), hor, show ((i : Int)).toNat = i by omega, wi64 (n := (i : Int) - 1) (by omega) (by omega)]
    obtain ⟨t, ht⟩ : ∃ t, t = r * 4294967296 + rd a (i : Int) := ⟨_, rfl⟩
    rw [← ht, Int.tdiv_eq_ediv_of_nonneg (by omega), Int.tmod_eq_emod_of_nonneg (by omega)]
    have hm0 := Int.emod_nonneg t (show b ≠ 0 by omega)
    have hm1 := Int.emod_lt_of_pos t hb0
    have hd0 := Int.ediv_nonneg (show 0 ≤ t by omega) (show 0 ≤ b by omega)
    have hda := Int.mul_ediv_add_emod t b
    have hq1 : t / b ≤ 4294967295 := by
      have h1 : t / b < 4294967296 := by
        apply Int.ediv_lt_of_lt_mul hb0
        have := Int.mul_le_mul_of_nonneg_right (show r + 1 ≤ b by omega) (show (0 : Int) ≤ 4294967296 by omega)
        rw [Int.add_mul] at this
        rw [Int.mul_comm 4294967296 b]; omega
      omega
    rw [wu (n := t / b) hd0 (by omega), Int.emod_eq_of_lt hd0 (by omega)]
    refine ih k (out.set i (t / b)) (t % b) (by omega) (by simp; omega) (hm.set _ ⟨hd0, hq1⟩) hm0 hm1 ?_ (by omega)
    have d1 := drop_rd (xs := a) (i := (i : Int)) (by omega) (by omega)
    have d2 := drop_rd (xs := out.set i (t / b)) (i := (i : Int)) (by omega) (by simp; omega)
    rw [show ((i : Int)).toNat = i by omega, show ((i : Int) + 1).toNat = i + 1 by omega] at d1 d2
    have d3 : (out.set i (t / b)).drop (i + 1) = out.drop (i + 1) := List.drop_set_of_lt (by omega)
    rw [rd_set_eq (by omega), d3] at d2
    rw [d1, d2]; simp only [val]
    exact small_step hv ht hda.symm
theorem small_ev {a : List Int} (ha : Lm a) {b : Int} (hb0 : 0 < b) (hb1 : b ≤ 4294967295) (hl : a.length < 274877906944) {k : Nat} (hk : 2 * a.length + 3 < k) : limb_small.f k a b = some (natL (val a / b), natL (val a % b)) := by
  unfold limb_small.f
  rw [if_pos (by omega), if_pos (by omega), wi64 (n := (a.length : Int) - 1) (by omega) (by omega), show ((a.length : Int)).toNat = a.length by omega]
  refine small_loop ha hb0 hb1 hl a.length k _ 0 (by omega) (by simp) (Lm.zeros _) (by omega) hb0 ?_ (by omega)
  rw [List.drop_eq_nil_of_le (by omega), List.drop_eq_nil_of_le (by simp)]; simp [val]

/- shift -/
theorem shift_step {V P c A p x y l h : Int} (hV : V + P * c = A * p) (hy : y = x * p) (hl : y = l + 4294967296 * h) : V + P * (c + l) + P * 4294967296 * h = (A + P * x) * p := by grind
theorem shift_loop {a : List Int} (ha : Lm a) {s : Nat} (hs : s ≤ 31) (hl : a.length < 274877906944) : ∀ (d i k : Nat) (out : List Int),
    i + d = a.length → out.length = a.length + 1 → Lm out → rd out (i : Int) < p2 s → val (out.take i) + pw i * rd out (i : Int) = val (a.take i) * p2 s → d < k →
    ∃ out', limb_shift.l0 k (s : Int) out a (a.length : Int) (i : Int) = some out' ∧ out'.length = a.length + 1 ∧ Lm out' ∧ val out' = val a * p2 s := by
  intro d
  induction d with
  | zero =>
    intro i k out hi hol hm hc hv hk
    obtain ⟨k, rfl⟩ : ∃ m, k = m + 1 := ⟨k - 1, by omega⟩
    obtain rfl : i = a.length := by omega
    refine ⟨out, ?_, hol, hm, ?_⟩
    · simp only [limb_shift.l0]; rw [if_neg (by omega)]
    · have e := val_take_succ out a.length
      rw [List.take_of_length_le (by omega), hv, List.take_length] at e; exact e
  | succ d ih =>
    intro i k out hi hol hm hc hv hk
    obtain ⟨k, rfl⟩ : ∃ m, k = m + 1 := ⟨k - 1, by omega⟩
    have hx := ha.rd (i := (i : Int)); have ho := hm.rd (i := (i : Int))
    have hp0 := p2_pos s; have hp1 := p2_31 hs; have hpp := p2_32 (show s ≤ 32 by omega)
    obtain ⟨x, hxe⟩ : ∃ x, x = rd a (i : Int) := ⟨_, rfl⟩
    rw [← hxe] at hx
    obtain ⟨y, hye⟩ : ∃ y, y = x * p2 s := ⟨_, rfl⟩
    have hy0 : 0 ≤ y := by rw [hye]; exact Int.mul_nonneg hx.1 (by omega)
    have hy1 : y ≤ 4294967295 * p2 s := by rw [hye]; exact Int.mul_le_mul_of_nonneg_right hx.2 (by omega)
    have hlow : (y % 4294967296) % p2 s = 0 := by
      have hdvd : p2 s ∣ (4294967296 : Int) := ⟨p2 (32 - s), hpp.symm⟩
      rw [Int.emod_emod_of_dvd _ hdvd, hye, Int.mul_emod_left]
    have hhi : y / 4294967296 < p2 s := by
      apply Int.ediv_lt_of_lt_mul (by omega); omega
    have hor := or32 (c := rd out (i : Int)) (y := y % 4294967296) (show s ≤ 32 by omega) ho.1 hc (by omega) (by omega) hlow
    have hsum : rd out (i : Int) + y % 4294967296 ≤ 4294967295 := by
      -- both are below: the low part is a multiple of p2 s below 2^32
      have h1 := Int.mul_ediv_add_emod (y % 4294967296) (p2 s)
      rw [hlow] at h1
      have h2 : (y % 4294967296) / p2 s < p2 (32 - s) := by
        apply Int.ediv_lt_of_lt_mul hp0; rw [Int.mul_comm, hpp]; omega
      have h3 := Int.mul_le_mul_of_nonneg_left (show (y % 4294967296) / p2 s + 1 ≤ p2 (32 - s) by omega) (show 0 ≤ p2 s by omega)
      rw [Int.mul_add, hpp] at h3
      omega
    simp only [limb_shift.l0]
    rw [if_pos (by omega), if_pos (by omega), if_pos (by omega), if_pos (by omega), if_pos (by omega), wsucc (by omega), if_pos (by omega), if_pos (by omega), ← hxe, wu (n := x) (by omega) (by omega), shl_u64 hx hs, ← hye, hor, show ((i : Int)).toNat = i by omega, show (((i + 1 : Nat) : Int)).toNat = i + 1 by omega, Int.emod_eq_of_lt (a := y / 4294967296) (by omega) (by omega)]
    have l1 : ((out.set i (rd out (i : Int) + y % 4294967296)).set (i + 1) (y / 4294967296)).length = a.length + 1 := by rw [List.length_set, List.length_set]; exact hol
    refine ih (i + 1) k _ (by omega) l1 ((hm.set _ ⟨by omega, hsum⟩).set _ (by omega)) ?_ ?_ (by omega)
    · rw [rd_set_eq (by rw [List.length_set]; omega)]; exact hhi
    · rw [rd_set_eq (by rw [List.length_set]; omega), take_set_le (Nat.le_refl _), val_take_set (by omega), val_take_succ a, pw_succ, ← hxe]
      exact shift_step hv hye (by omega)
theorem shift_ev {a : List Int} (ha : Lm a) {s : Nat} (hs : s ≤ 31) (hl : a.length < 274877906944) {k : Nat} (hk : a.length < k) :
    ∃ out, limb_shift.f k a (s : Int) = some out ∧ out.length = a.length + 1 ∧ Lm out ∧ val out = val a * p2 s := by
  unfold limb_shift.f
  rw [wi64 (n := (a.length : Int) + 1) (by omega) (by omega), if_pos (by omega), if_pos (by omega), show ((a.length : Int) + 1).toNat = a.length + 1 by omega]
  refine shift_loop ha hs hl a.length 0 k _ (by omega) (by simp) (Lm.zeros _) ?_ ?_ hk
  · have := p2_pos s
    rw [rd_getElem (by simp)]; simp; omega
  · rw [rd_getElem (by simp)]; simp [val]

/- unshift -/
theorem unshift_loop {a : List Int} (ha : Lm a) {s : Nat} (hs : s ≤ 31) (hl : a.length < 274877906944) : ∀ (d i k : Nat) (out : List Int),
    i + d = a.length → out.length = a.length → Lm out → val (out.take i) + pw i * (val (a.drop i) / p2 s) = val a / p2 s → a.length + d + 2 < k →
    limb_unshift.l0 k a (s : Int) out (a.length : Int) (i : Int) = some (natL (val a / p2 s)) := by
  intro d
  induction d with
  | zero =>
    intro i k out hi hol hm hv hk
    obtain ⟨k, rfl⟩ : ∃ m, k = m + 1 := ⟨k - 1, by omega⟩
    obtain rfl : i = a.length := by omega
    simp only [limb_unshift.l0]
    rw [if_neg (by omega), trim_ev (by omega) (by omega), trim_natL hm]; simp only [Option.bind_some]
    rw [List.take_of_length_le (by omega), List.drop_eq_nil_of_le (by omega)] at hv
    simp only [val, Int.zero_ediv, Int.mul_zero, Int.add_zero] at hv
    rw [hv]
  | succ d ih =>
    intro i k out hi hol hm hv hk
    obtain ⟨k, rfl⟩ : ∃ m, k = m + 1 := ⟨k - 1, by omega⟩
    have hx := ha.rd (i := (i : Int)); have hy := ha.rd (i := ((i + 1 : Nat) : Int))
    have hp0 := p2_pos s; have hp1 := p2_31 hs; have hpp := p2_32 (show s ≤ 32 by omega)
    have d1 := drop_rd (xs := a) (i := (i : Int)) (by omega) (by omega)
    rw [show ((i : Int)).toNat = i by omega, show ((i : Int) + 1).toNat = i + 1 by omega] at d1
    have hV := val_nonneg (ha.drop (i + 1))
    -- what stands behind
    have hdiv : val (a.drop i) / p2 s / 4294967296 = val (a.drop (i + 1)) / p2 s := by
      rw [d1]; simp only [val]
      rw [Int.ediv_ediv_of_nonneg (by omega), Int.mul_comm (p2 s), ← Int.ediv_ediv_of_nonneg (by omega)]
      congr 1; omega
    have go : ∀ o : Int, o = (val (a.drop i) / p2 s) % 4294967296 → limb_unshift.l0 k a (s : Int) (out.set i o) (a.length : Int) ((i + 1 : Nat) : Int) = some (natL (val a / p2 s)) := by
      intro o ho
      refine ih (i + 1) k _ (by omega) (by rw [List.length_set]; exact hol) (hm.set _ (by omega)) ?_ (by omega)
      rw [val_take_set (by omega), pw_succ, ← hdiv, ho, ← hv]
      have := Int.emod_add_mul_ediv (val (a.drop i) / p2 s) 4294967296
      grind
    simp only [limb_unshift.l0]
    rw [if_pos (by omega), if_pos (by omega), if_pos (by omega), wsucc (by omega), show ((i : Int)).toNat = i by omega]
    by_cases hn : ((i + 1 : Nat) : Int) < (a.length : Int)
    · have d2 := drop_rd (xs := a) (i := ((i + 1 : Nat) : Int)) (by omega) (by omega)
      rw [show (((i + 1 : Nat) : Int)).toNat = i + 1 by omega, show (((i + 1 : Nat) : Int) + 1).toNat = i + 2 by omega] at d2
      have hor := or_high hx.1 hx.2 hy.1 hy.2
      rw [if_pos hn, if_pos (by omega), if_pos (by omega), if_pos (by omega), wu (n := rd a (i : Int)) (by omega) (by omega), wu (n := rd a ((i + 1 : Nat) : Int)) (by omega) (by omega), wu (n := rd a ((i + 1 : Nat) : Int) * 4294967296) (by omega) (by omega), hor, shr_nat (by simp [IntKind.bits]; omega)]
      refine go _ ?_
      rw [d1, d2]; simp only [val]
      obtain ⟨T, hT⟩ : ∃ T, T = rd a ((i + 1 : Nat) : Int) * 4294967296 + rd a (i : Int) := ⟨_, rfl⟩
      rw [← hT]
      have e1 : rd a (i : Int) + 4294967296 * (rd a ((i + 1 : Nat) : Int) + 4294967296 * val (a.drop (i + 2))) = T + p2 s * (4294967296 * (p2 (32 - s) * val (a.drop (i + 2)))) := by
        rw [hT]
        have : p2 s * (4294967296 * (p2 (32 - s) * val (a.drop (i + 2)))) = (p2 s * p2 (32 - s)) * (4294967296 * val (a.drop (i + 2))) := by grind
        rw [this, hpp]; omega
      rw [e1, Int.add_mul_ediv_left _ _ (by omega), Int.add_mul_emod_self_left]
    · have hz : val (a.drop (i + 1)) = 0 := by rw [List.drop_eq_nil_of_le (by omega)]; rfl
      rw [if_neg hn, if_pos (by omega), if_pos (by omega), wu (n := rd a (i : Int)) (by omega) (by omega), shr_nat (by simp [IntKind.bits]; omega)]
      refine go _ ?_
      rw [d1]; simp only [val]; rw [hz]; simp
theorem unshift_ev {a : List Int} (ha : Lm a) {s : Nat} (hs : s ≤ 31) (hl : a.length < 274877906944) {k : Nat} (hk : 2 * a.length + 2 < k) : limb_unshift.f k a (s : Int) = some (natL (val a / p2 s)) := by
  unfold limb_unshift.f
  rw [if_pos (by omega), if_pos (by omega), show ((a.length : Int)).toNat = a.length by omega]
  refine unshift_loop ha hs hl a.length 0 k _ (by omega) (by simp) (Lm.zeros _) ?_ (by omega)
  simp [val, pw_zero]

end Go.Proofs.Wk
/- What guess, take and give of layer 1 come to: a quotient's limb, at most one too great; what is taken and given. Conditions: lists of limbs, of fewer than 2^38 elements. -/
namespace Go.Proofs.Wk
open Go.RowKit
set_option linter.unusedSimpArgs false
set_option linter.unusedVariables false

theorem mul_le2 {x y : Int} (hx : 0 ≤ x ∧ x ≤ 4294967295) (hy : 0 ≤ y ∧ y ≤ 4294967295) : 0 ≤ x * y ∧ x * y ≤ 18446744065119617025 := by
  have h1 := Int.mul_nonneg hx.1 hy.1
  have h2 := Int.mul_le_mul hx.2 hy.2 hy.1 (by omega : (0 : Int) ≤ 4294967295)
  omega

/- take -/
theorem take_step {V P c br U W q x y o d p br' : Int} (hV : V = U - q * W + P * (c + br)) (hp : p = c + q * y) (hd : d = x - p % 4294967296 - br) (ho : o = d + 4294967296 * br') :
    V + P * o = U + P * x - q * (W + P * y) + P * 4294967296 * (p / 4294967296 + br') := by
  have := Int.emod_add_mul_ediv p 4294967296
  grind
theorem take_loop {u v : List Int} (hu : Lm u) (hv : Lm v) {q : Int} (hq : 0 ≤ q ∧ q ≤ 4294967295) (hlu : u.length < 274877906944) (hlv : v.length < 274877906944) : ∀ (d i k : Nat) (out : List Int) (c br : Int),
    i + d = u.length → out.length = u.length → Lm out → (∀ j : Int, (i : Int) ≤ j → rd out j = rd u j) → 0 ≤ c → c ≤ 4294967295 → 0 ≤ br → br ≤ 1 → val (out.take i) = val (u.take i) - q * val (v.take i) + pw i * (c + br) → (v.length < i → c = 0) → d < k →
    ∃ (b : Bool) (out' : List Int) (c' br' : Int), limb_take.l0 k out v q c br (u.length : Int) (i : Int) = some (b, out') ∧ out'.length = u.length ∧ Lm out' ∧ 0 ≤ c' ∧ c' ≤ 4294967295 ∧ 0 ≤ br' ∧ br' ≤ 1 ∧ (b = true ↔ br' = 1) ∧ val out' = val u - q * val (v.take u.length) + pw u.length * (c' + br') ∧ (v.length < u.length → c' = 0) := by
  intro d
  induction d with
  | zero =>
    intro i k out c br hi hol hm hsame hc0 hc1 hb0 hb1 hval hcz hk
    obtain ⟨k, rfl⟩ : ∃ m, k = m + 1 := ⟨k - 1, by omega⟩
    obtain rfl : i = u.length := by omega
    refine ⟨br != 0, out, c, br, ?_, hol, hm, hc0, hc1, hb0, hb1, ?_, ?_, hcz⟩
    · simp only [limb_take.l0]; rw [if_neg (by omega)]
    · rcases (show br = 0 ∨ br = 1 by omega) with h | h <;> subst h <;> simp
    · rw [List.take_of_length_le (by omega), List.take_length] at hval; exact hval
  | succ d ih =>
    intro i k out c br hi hol hm hsame hc0 hc1 hb0 hb1 hval hcz hk
    obtain ⟨k, rfl⟩ : ∃ m, k = m + 1 := ⟨k - 1, by omega⟩
    have hx := hu.rd (i := (i : Int)); have hy := hv.rd (i := (i : Int))
    have hqy := mul_le2 hq hy
    obtain ⟨m1, hm1⟩ : ∃ m1, m1 = q * rd v (i : Int) := ⟨_, rfl⟩
    rw [← hm1] at hqy
    have hcy : c + m1 ≤ 18446744069414584320 := by omega
    have go : ∀ p d' br' : Int, p = c + m1 → d' = rd u (i : Int) - p % 4294967296 - br → 0 ≤ br' → br' ≤ 1 → d' % 4294967296 = d' + 4294967296 * br' →
        ∃ (b : Bool) (out' : List Int) (c2 br2 : Int), limb_take.l0 k (out.set i (d' % 4294967296)) v q (p / 4294967296) br' (u.length : Int) ((i + 1 : Nat) : Int) = some (b, out') ∧ out'.length = u.length ∧ Lm out' ∧ 0 ≤ c2 ∧ c2 ≤ 4294967295 ∧ 0 ≤ br2 ∧ br2 ≤ 1 ∧ (b = true ↔ br2 = 1) ∧ val out' = val u - q * val (v.take u.length) + pw u.length * (c2 + br2) ∧ (v.length < u.length → c2 = 0) := by
      intro p d' br' hp hd' h0 h1 hmod
      refine ih (i + 1) k _ _ _ (by omega) (by rw [List.length_set]; exact hol) (hm.set _ (by omega)) ?_ (by omega) (by omega) h0 h1 ?_ ?_ (by omega)
      · intro j hj; rw [rd_set_ne (by omega) (by omega)]; exact hsame j (by omega)
      · rw [val_take_set (by omega), val_take_succ u, val_take_succ v, pw_succ]
        exact take_step hval (by rw [hp, hm1]) hd' hmod
      · intro h
        have hz : rd v (i : Int) = 0 := rd_past (by omega)
        rw [hz] at hm1
        rcases Nat.lt_or_ge v.length i with h2 | h2
        · have := hcz h2; omega
        · omega
    simp only [limb_take.l0]
    rw [if_pos (by omega)]
    by_cases hb : (i : Int) < (v.length : Int)
    · rw [if_pos hb, if_pos (by omega), if_pos (by omega)]; simp only [Option.bind_some]
      rw [wsucc (by omega), show ((i : Int)).toNat = i by omega, hsame (i : Int) (by omega), wu (n := rd v (i : Int)) (by omega) (by omega), ← hm1, wu (n := m1) (by omega) (by omega), wu (n := c + m1) (by omega) (by omega), wi64 (n := rd u (i : Int)) (by omega) (by omega), wi64 (n := rd u (i : Int) - (c + m1) % 4294967296) (by omega) (by omega), wi64 (n := rd u (i : Int) - (c + m1) % 4294967296 - br) (by omega) (by omega)]
      by_cases hn : rd u (i : Int) - (c + m1) % 4294967296 - br < 0
      · rw [if_pos hn]; exact go _ _ 1 rfl rfl (by omega) (by omega) (by omega)
      · rw [if_neg hn]; exact go _ _ 0 rfl rfl (by omega) (by omega) (by omega)
    · have hz : rd v (i : Int) = 0 := rd_past (by omega)
      rw [hz] at hm1
      have hm0 : m1 = 0 := by omega
      rw [if_neg hb, if_pos (by omega), if_pos (by omega)]; simp only [Option.bind_some]
      rw [wsucc (by omega), show ((i : Int)).toNat = i by omega, hsame (i : Int) (by omega), wi64 (n := rd u (i : Int)) (by omega) (by omega), wi64 (n := rd u (i : Int) - c % 4294967296) (by omega) (by omega), wi64 (n := rd u (i : Int) - c % 4294967296 - br) (by omega) (by omega)]
      by_cases hn : rd u (i : Int) - c % 4294967296 - br < 0
      · rw [if_pos hn]; exact go c _ 1 (by omega) rfl (by omega) (by omega) (by omega)
      · rw [if_neg hn]; exact go c _ 0 (by omega) rfl (by omega) (by omega) (by omega)
/-- What is taken: u - q v, and pw more where that is below nought. -/
theorem take_ev {u v : List Int} (hu : Lm u) (hv : Lm v) {q : Int} (hq : 0 ≤ q ∧ q ≤ 4294967295) (hlu : u.length < 274877906944) (hlv : v.length < u.length) {k : Nat} (hk : u.length < k) :
    ∃ (b : Bool) (out' : List Int), limb_take.f k u v q = some (b, out') ∧ out'.length = u.length ∧ Lm out' ∧ val out' = val u - q * val v + pw u.length * (if b = true then 1 else 0) := by
  obtain ⟨b, out', c', br', h1, h2, h3, h4, h5, h6, h7, h8, h9, h10⟩ := take_loop hu hv hq hlu (by omega) u.length 0 k u 0 0 (by omega) rfl hu (fun _ _ => rfl) (by omega) (by omega) (by omega) (by omega) (by simp [val]) (fun _ => rfl) hk
  refine ⟨b, out', h1, h2, h3, ?_⟩
  rw [h9, h10 hlv, List.take_of_length_le (by omega)]
  cases b with
  | true => rw [h8.1 rfl]; simp
  | false =>
    have : br' = 0 := by
      rcases (show br' = 0 ∨ br' = 1 by omega) with h | h
      · exact h
      · exact absurd (h8.2 h) (by simp)
    rw [this]; simp

/- give -/
theorem give_step {V P c U W x y s : Int} (hV : V + P * c = U + W) (hs : s = c + x + y) : V + P * (s % 4294967296) + P * 4294967296 * (s / 4294967296) = U + P * x + (W + P * y) := by
  have := Int.emod_add_mul_ediv s 4294967296
  grind
theorem give_loop {u v : List Int} (hu : Lm u) (hv : Lm v) (hlu : u.length < 274877906944) (hlv : v.length < 274877906944) : ∀ (d i k : Nat) (out : List Int) (c : Int),
    i + d = u.length → out.length = u.length → Lm out → (∀ j : Int, (i : Int) ≤ j → rd out j = rd u j) → 0 ≤ c → c ≤ 1 → val (out.take i) + pw i * c = val (u.take i) + val (v.take i) → d < k →
    ∃ (out' : List Int) (c' : Int), limb_give.l0 k out v c (u.length : Int) (i : Int) = some out' ∧ out'.length = u.length ∧ Lm out' ∧ 0 ≤ c' ∧ c' ≤ 1 ∧ val out' + pw u.length * c' = val u + val (v.take u.length) := by
  intro d
  induction d with
  | zero =>
    intro i k out c hi hol hm hsame hc0 hc1 hval hk
    obtain ⟨k, rfl⟩ : ∃ m, k = m + 1 := ⟨k - 1, by omega⟩
    obtain rfl : i = u.length := by omega
    refine ⟨out, c, ?_, hol, hm, hc0, hc1, ?_⟩
    · simp only [limb_give.l0]; rw [if_neg (by omega)]
    · rw [List.take_of_length_le (by omega), List.take_length] at hval; exact hval
  | succ d ih =>
    intro i k out c hi hol hm hsame hc0 hc1 hval hk
    obtain ⟨k, rfl⟩ : ∃ m, k = m + 1 := ⟨k - 1, by omega⟩
    have hx := hu.rd (i := (i : Int)); have hy := hv.rd (i := (i : Int))
    have go : ∀ s : Int, s = c + rd u (i : Int) + rd v (i : Int) →
        ∃ (out' : List Int) (c' : Int), limb_give.l0 k (out.set i (s % 4294967296)) v (s / 4294967296) (u.length : Int) ((i + 1 : Nat) : Int) = some out' ∧ out'.length = u.length ∧ Lm out' ∧ 0 ≤ c' ∧ c' ≤ 1 ∧ val out' + pw u.length * c' = val u + val (v.take u.length) := by
      intro s hs
      refine ih (i + 1) k _ _ (by omega) (by rw [List.length_set]; exact hol) (hm.set _ (by omega)) ?_ (by omega) (by omega) ?_ (by omega)
      · intro j hj; rw [rd_set_ne (by omega) (by omega)]; exact hsame j (by omega)
      · rw [val_take_set (by omega), val_take_succ u, val_take_succ v, pw_succ]
        exact give_step hval hs
    simp only [limb_give.l0]
    rw [if_pos (by omega), if_pos (by omega), if_pos (by omega), wsucc (by omega), show ((i : Int)).toNat = i by omega, hsame (i : Int) (by omega), wu (n := rd u (i : Int)) (by omega) (by omega), wu (n := c + rd u (i : Int)) (by omega) (by omega)]
    by_cases hb : (i : Int) < (v.length : Int)
    · rw [if_pos hb, wu (n := rd v (i : Int)) (by omega) (by omega), wu (n := c + rd u (i : Int) + rd v (i : Int)) (by omega) (by omega)]
      exact go _ rfl
    · have hz : rd v (i : Int) = 0 := rd_past (by omega)
      rw [if_neg hb]
      exact go _ (by omega)
theorem give_ev {u v : List Int} (hu : Lm u) (hv : Lm v) (hlu : u.length < 274877906944) (hlv : v.length ≤ u.length) {k : Nat} (hk : u.length < k) :
    ∃ (out' : List Int) (c' : Int), limb_give.f k u v = some out' ∧ out'.length = u.length ∧ Lm out' ∧ 0 ≤ c' ∧ c' ≤ 1 ∧ val out' + pw u.length * c' = val u + val v := by
  obtain ⟨out', c', h1, h2, h3, h4, h5, h6⟩ := give_loop hu hv hlu (by omega) u.length 0 k u 0 (by omega) rfl hu (fun _ _ => rfl) (by omega) (by omega) (by simp [val]) hk
  rw [List.take_of_length_le hlv] at h6
  exact ⟨out', c', h1, h2, h3, h4, h5, h6⟩

/- guess -/
/-- A quotient that has been lowered only where it was too great, and is no more too great by two limbs of the divisor. -/
theorem guess_up {q t v1 v2 r u2 V2 U3 : Int} (h1 : q * v1 + r = t) (hV : V2 = v1 * 4294967296 + v2) (hU : U3 = t * 4294967296 + u2) (h2 : q * v2 ≤ r * 4294967296 + u2) : q * V2 ≤ U3 := by
  have : q * V2 = t * 4294967296 - r * 4294967296 + q * v2 := by rw [hV, ← h1]; grind
  omega
theorem guess_down {q t v1 v2 r u2 V2 U3 : Int} (h1 : q * v1 + r = t) (hV : V2 = v1 * 4294967296 + v2) (hU : U3 = t * 4294967296 + u2) (h2 : r * 4294967296 + u2 < q * v2) : U3 + 1 ≤ q * V2 := by
  have : q * V2 = t * 4294967296 - r * 4294967296 + q * v2 := by rw [hV, ← h1]; grind
  omega
/-- The limb's loop: Q the true quotient. -/
theorem guess_loop {u v : List Int} (hu : Lm u) (hv : Lm v) {n : Nat} (hn : v.length = n) (hn2 : 2 ≤ n) (hun : u.length = n + 1) (hln : n < 274877906944) {v1 v2 u2 t Q : Int}
    (hv1 : rd v ((n : Int) - 1) = v1) (hv2 : rd v ((n : Int) - 2) = v2) (hu2 : rd u ((n : Int) - 2) = u2) (hv1p : 2147483648 ≤ v1) (ht0 : 0 ≤ t) (ht1 : t ≤ v1 * 4294967296 + 4294967295)
    (hQ0 : 0 ≤ Q) (hQB : Q ≤ 4294967295) (hQ : ∀ q : Int, t * 4294967296 + u2 + 1 ≤ q * (v1 * 4294967296 + v2) → 0 ≤ q → Q < q) : ∀ (d k : Nat) (q r : Int),
    Q ≤ q → q ≤ 4294967298 → 0 ≤ r → r ≤ 4294967295 → q * v1 + r = t → 4294967296 - r ≤ d * 2147483648 → 2 * d + 2 < k →
    ∃ q', limb_guess.l0 k u v (n : Int) ((n + 1 : Nat) : Int) q r = some q' ∧ Q ≤ q' ∧ q' ≤ 4294967295 ∧ q' * (v1 * 4294967296 + v2) ≤ t * 4294967296 + u2 := by
  intro d
  induction d with
  | zero => intro k q r _ _ _ h4 _ h6 _; omega
  | succ d ih =>
    intro k q r hQq hqB hr0 hr1 hqt hd hk
    obtain ⟨k, rfl⟩ : ∃ m, k = m + 1 + 1 := ⟨k - 2, by omega⟩
    have hV1 := hv.rd (i := (n : Int) - 1); have hV2 := hv.rd (i := (n : Int) - 2); have hU2 := hu.rd (i := (n : Int) - 2)
    rw [hv1] at hV1; rw [hv2] at hV2; rw [hu2] at hU2
    -- what a lowering does
    have low : Q < q → limb_guess.j1 (k + 1) u v (n : Int) ((n + 1 : Nat) : Int) q r true = limb_guess.j1 (k + 1) u v (n : Int) ((n + 1 : Nat) : Int) q r true := fun _ => rfl
    have lower : Q ≤ q - 1 → (∃ q', limb_guess.j1 (k + 1) u v (n : Int) ((n + 1 : Nat) : Int) q r true = some q' ∧ Q ≤ q' ∧ q' ≤ 4294967295 ∧ q' * (v1 * 4294967296 + v2) ≤ t * 4294967296 + u2) := by
      intro hq1
      have hqt' : (q - 1) * v1 + (r + v1) = t := by rw [Int.sub_mul]; omega
      simp only [limb_guess.j1, if_true]
      rw [wi64 (n := (n : Int) - 1) (by omega) (by omega), if_pos (by omega), if_pos (by omega), hv1, wu (n := v1) (by omega) (by omega), wu (n := r + v1) (by omega) (by omega), wu (n := q - 1) (by omega) (by omega)]
      by_cases hb : (r + v1) / 4294967296 = 0
      · rw [if_pos hb]
        exact ih k (q - 1) (r + v1) hq1 (by omega) (by omega) (by omega) hqt' (by omega) (by omega)
      · rw [if_neg hb]
        have hqle : q - 1 ≤ 4294967295 := by
          rcases Int.lt_or_le 4294967295 (q - 1) with h | h
          · have := Int.mul_le_mul_of_nonneg_right (show 4294967296 ≤ q - 1 by omega) (show 0 ≤ v1 by omega)
            omega
          · exact h
        refine ⟨q - 1, rfl, hq1, hqle, ?_⟩
        refine guess_up hqt' rfl rfl ?_
        have := Int.mul_le_mul hqle hV2.2 hV2.1 (by omega : (0 : Int) ≤ 4294967295)
        omega
    simp only [limb_guess.l0]
    by_cases hq : q / 4294967296 = 0
    · have hqs : q ≤ 4294967295 := by omega
      have hm := mul_le2 (x := q) (y := v2) ⟨by omega, hqs⟩ hV2
      have hor := or_low hU2.1 hU2.2 hr0 hr1
      rw [if_pos hq, wi64 (n := (n : Int) - 2) (by omega) (by omega), if_pos (by omega), if_pos (by omega), wi64 (n := ((n + 1 : Nat) : Int) - 3) (by omega) (by omega), if_pos (by omega), if_pos (by omega), show ((n + 1 : Nat) : Int) - 3 = (n : Int) - 2 by omega, hv2, hu2, wu (n := v2) (by omega) (by omega), wu (n := u2) (by omega) (by omega), wu (n := r * 4294967296) (by omega) (by omega), hor, wu (n := q * v2) (by omega) (by omega)]
      by_cases hc : q * v2 > r * 4294967296 + u2
      · rw [show decide (q * v2 > r * 4294967296 + u2) = true from decide_eq_true hc]
        have h1 := guess_down hqt (V2 := v1 * 4294967296 + v2) rfl (U3 := t * 4294967296 + u2) rfl (by omega)
        have := hQ q h1 (by omega)
        exact lower (by omega)
      · rw [show decide (q * v2 > r * 4294967296 + u2) = false from decide_eq_false hc]
        refine ⟨q, ?_, hQq, hqs, guess_up hqt rfl rfl (by omega)⟩
        simp only [limb_guess.j1]
        rw [if_neg (by simp)]
    · rw [if_neg hq]
      exact lower (by omega)

end Go.Proofs.Wk
/- What guess of layer 1 comes to, and one row of the long quotient. Conditions: lists of limbs, the divisor's last one at least 2^31. -/
namespace Go.Proofs.Wk
open Go.RowKit
set_option linter.unusedSimpArgs false
set_option linter.unusedVariables false

/-- A true quotient, and what is at most one above it. -/
theorem quot_lt {U V P V' V2 U' U3 q : Int} (hU : U = U' + P * U3) (hV : V = V' + P * V2) (hV' : 0 ≤ V') (hU' : U' < P) (hP : 0 < P) (hVp : 0 < V) (h : U3 + 1 ≤ q * V2) (hq : 0 ≤ q) : U / V < q := by
  apply Int.ediv_lt_of_lt_mul hVp
  have h1 := Int.mul_le_mul_of_nonneg_left h (show 0 ≤ P by omega)
  have h2 := Int.mul_nonneg hq hV'
  have e : q * V = q * V' + P * (q * V2) := by rw [hV]; grind
  rw [Int.mul_add] at h1
  omega
theorem quot_up {U V P V' V2 U' U3 q : Int} (hU : U = U' + P * U3) (hV : V = V' + P * V2) (hV' : V' < P) (hV0 : 0 ≤ V') (hU' : 0 ≤ U') (hP : 0 < P) (hVp : 0 < V) (hV2 : 4294967296 ≤ V2) (h : q * V2 ≤ U3) (hq : 0 ≤ q) (hqB : q ≤ 4294967295) : q ≤ U / V + 1 := by
  have h1 := Int.mul_le_mul_of_nonneg_left h (show 0 ≤ P by omega)
  have h2 : q * V' ≤ 4294967295 * V' := Int.mul_le_mul_of_nonneg_right hqB hV0
  have h3 := Int.mul_le_mul_of_nonneg_left hV2 (show 0 ≤ P by omega)
  have e : q * V = q * V' + P * (q * V2) := by rw [hV]; grind
  have e2 := Int.mul_ediv_add_emod U V
  have e3 := Int.emod_lt_of_pos U hVp
  have h4 : q * V < U + V := by omega
  have h5 : q * V < (U / V + 2) * V := by
    have : (U / V + 2) * V = V * (U / V) + 2 * V := by grind
    omega
  have := Int.lt_of_mul_lt_mul_right h5 (by omega)
  omega
theorem guess_ev {u v : List Int} (hu : Lm u) (hv : Lm v) {n : Nat} (hn : v.length = n) (hn2 : 2 ≤ n) (hun : u.length = n + 1) (hln : n < 274877906944) (hv1p : 2147483648 ≤ rd v ((n : Int) - 1)) (hlt : val u < val v * 4294967296) {k : Nat} (hk : 6 < k) :
    ∃ g, limb_guess.f k u v = some g ∧ val u / val v ≤ g ∧ g ≤ val u / val v + 1 ∧ 0 ≤ g ∧ g ≤ 4294967295 := by
  obtain ⟨m, hm⟩ : ∃ m, n = m + 2 := ⟨n - 2, by omega⟩
  have A1 := hv.rd (i := (n : Int) - 1); have A2 := hv.rd (i := (n : Int) - 2)
  have B0 := hu.rd (i := (n : Int)); have B1 := hu.rd (i := (n : Int) - 1); have B2 := hu.rd (i := (n : Int) - 2)
  obtain ⟨v1, hv1⟩ : ∃ x, rd v ((n : Int) - 1) = x := ⟨_, rfl⟩
  obtain ⟨v2, hv2⟩ : ∃ x, rd v ((n : Int) - 2) = x := ⟨_, rfl⟩
  obtain ⟨u0, hu0⟩ : ∃ x, rd u (n : Int) = x := ⟨_, rfl⟩
  obtain ⟨u1, hu1⟩ : ∃ x, rd u ((n : Int) - 1) = x := ⟨_, rfl⟩
  obtain ⟨u2, hu2⟩ : ∃ x, rd u ((n : Int) - 2) = x := ⟨_, rfl⟩
  rw [hv1] at A1 hv1p; rw [hv2] at A2; rw [hu0] at B0; rw [hu1] at B1; rw [hu2] at B2
  have eV : val v = val (v.take m) + pw m * (v1 * 4294967296 + v2) := by
    have e1 := val_take_succ v m; have e2 := val_take_succ v (m + 1)
    rw [List.take_of_length_le (by omega)] at e2
    rw [show ((m : Nat) : Int) = (n : Int) - 2 by omega, hv2] at e1
    rw [show (((m + 1 : Nat)) : Int) = (n : Int) - 1 by omega, hv1, pw_succ] at e2
    rw [e2, e1]; grind
  have eU : val u = val (u.take m) + pw m * ((u0 * 4294967296 + u1) * 4294967296 + u2) := by
    have e1 := val_take_succ u m; have e2 := val_take_succ u (m + 1); have e3 := val_take_succ u (m + 2)
    rw [List.take_of_length_le (by omega)] at e3
    rw [show ((m : Nat) : Int) = (n : Int) - 2 by omega, hu2] at e1
    rw [show (((m + 1 : Nat)) : Int) = (n : Int) - 1 by omega, hu1, pw_succ] at e2
    rw [show (((m + 2 : Nat)) : Int) = (n : Int) by omega, hu0, pw_succ, pw_succ] at e3
    rw [e3, e2, e1]; grind
  have hP := pw_pos m
  have V0 := val_nonneg (hv.take m); have U0 := val_nonneg (hu.take m)
  have V1 := val_lt_pw (hv.take m); have U1 := val_lt_pw (hu.take m)
  rw [List.length_take, Nat.min_eq_left (by omega)] at V1 U1
  obtain ⟨t, ht⟩ : ∃ t, t = u0 * 4294967296 + u1 := ⟨_, rfl⟩
  rw [← ht] at eU
  have hV2 : 4294967296 ≤ v1 * 4294967296 + v2 := by omega
  have hVp : 0 < val v := by
    have := Int.mul_le_mul_of_nonneg_left hV2 (show 0 ≤ pw m by omega)
    omega
  have ht1 : t ≤ v1 * 4294967296 + 4294967295 := by
    rcases Int.lt_or_le (v1 * 4294967296 + 4294967295) t with h | h
    · exfalso
      have h1 : v1 * 4294967296 + v2 + 1 ≤ t := by omega
      have h2 := Int.mul_le_mul_of_nonneg_left (show (v1 * 4294967296 + v2 + 1) * 4294967296 ≤ t * 4294967296 + u2 by omega) (show 0 ≤ pw m by omega)
      have e : pw m * ((v1 * 4294967296 + v2 + 1) * 4294967296) = (pw m * (v1 * 4294967296 + v2)) * 4294967296 + pw m * 4294967296 := by grind
      omega
    · exact h
  obtain ⟨Q, hQe⟩ : ∃ Q, Q = val u / val v := ⟨_, rfl⟩
  have hQ0 : 0 ≤ Q := by rw [hQe]; exact Int.ediv_nonneg (by have := val_nonneg hu; omega) (by omega)
  have hQB : Q ≤ 4294967295 := by
    have : Q < 4294967296 := by rw [hQe]; apply Int.ediv_lt_of_lt_mul hVp; rw [Int.mul_comm]; exact hlt
    omega
  have hQ : ∀ q : Int, t * 4294967296 + u2 + 1 ≤ q * (v1 * 4294967296 + v2) → 0 ≤ q → Q < q := by
    intro q h hq
    rw [hQe]; exact quot_lt eU eV V0 U1 hP hVp h hq
  have d0 := Int.mul_ediv_add_emod t v1
  have d1 := Int.emod_nonneg t (show v1 ≠ 0 by omega)
  have d2 := Int.emod_lt_of_pos t (show 0 < v1 by omega)
  have d3 := Int.ediv_nonneg (show 0 ≤ t by omega) (show 0 ≤ v1 by omega)
  have g0 : Q ≤ t / v1 := by
    have h1 : t + 1 ≤ (t / v1 + 1) * v1 := by rw [Int.add_mul, Int.mul_comm (t / v1) v1]; omega
    have h2 := Int.mul_nonneg (show 0 ≤ t / v1 + 1 by omega) A2.1
    have h3 : (t / v1 + 1) * (v1 * 4294967296 + v2) = (t / v1 + 1) * v1 * 4294967296 + (t / v1 + 1) * v2 := by grind
    have := hQ (t / v1 + 1) (by omega) (by omega)
    omega
  have g1 : t / v1 ≤ 4294967298 := by
    have : t / v1 < 4294967298 := by
      apply Int.ediv_lt_of_lt_mul (by omega); omega
    omega
  obtain ⟨q', w1, w2, w3, w4⟩ := guess_loop hu hv hn hn2 hun hln hv1 hv2 hu2 hv1p (by omega) ht1 hQ0 hQB hQ 2 k (t / v1) (t % v1) g0 g1 d1 (by omega) (by rw [Int.mul_comm]; exact d0) (by omega) (by omega)
  refine ⟨q', ?_, by rw [← hQe]; exact w2, quot_up eU eV V1 V0 U0 hP hVp hV2 w4 (by omega) w3, by omega, w3⟩
  have hor := or_low B1.1 B1.2 B0.1 B0.2
  unfold limb_guess.f
  rw [hun, hn, wi64 (n := ((n + 1 : Nat) : Int) - 1) (by omega) (by omega), wi64 (n := ((n + 1 : Nat) : Int) - 2) (by omega) (by omega), wi64 (n := (n : Int) - 1) (by omega) (by omega), if_pos (by omega), if_pos (by omega), if_pos (by omega), if_pos (by omega), if_pos (by omega), if_pos (by omega), show ((n + 1 : Nat) : Int) - 1 = (n : Int) by omega, show ((n + 1 : Nat) : Int) - 2 = (n : Int) - 1 by omega, hv1, hu0, hu1, wu (n := v1) (by omega) (by omega), wu (n := u0) (by omega) (by omega), wu (n := u1) (by omega) (by omega), wu (n := u0 * 4294967296) (by omega) (by omega), hor, if_neg (by omega), ← ht, Int.tdiv_eq_ediv_of_nonneg (by omega), Int.tmod_eq_emod_of_nonneg (by omega), wu (n := t / v1) d3 (by omega)]
  exact w1

/-- One row: the window's quotient is taken off it. -/
theorem row_ev {w v : List Int} (hw : Lm w) (hv : Lm v) {n : Nat} (hn : v.length = n) (hn2 : 2 ≤ n) (hwn : w.length = n + 1) (hln : n < 274877906943) (hv1p : 2147483648 ≤ rd v ((n : Int) - 1)) (hlt : val w < val v * 4294967296) {k : Nat} (hk : n + 6 < k) :
    ∃ g b w1, limb_guess.f k w v = some g ∧ limb_take.f k w v g = some (b, w1) ∧ w1.length = n + 1 ∧ Lm w1 ∧ 0 ≤ g ∧ g ≤ 4294967295 ∧ val v * (val w / val v) = val v * (val w / val v) ∧
      ((b = false ∧ g = val w / val v ∧ val w1 = val w - val v * (val w / val v)) ∨ (b = true ∧ g - 1 = val w / val v ∧ ∃ w2, limb_give.f k w1 v = some w2 ∧ w2.length = n + 1 ∧ Lm w2 ∧ val w2 = val w - val v * (val w / val v))) := by
  obtain ⟨g, g1, g2, g3, g4, g5⟩ := guess_ev hw hv hn hn2 hwn (by omega) hv1p hlt (k := k) (by omega)
  obtain ⟨b, w1, t1, t2, t3, t4⟩ := take_ev hw hv ⟨g4, g5⟩ (by omega) (by omega) (k := k) (by omega)
  have V0 := val_nonneg hv; have W0 := val_nonneg hw
  have W1 := val_nonneg t3; have W2 := val_lt_pw t3; have VP := val_lt_pw hv
  rw [t2] at W2
  have hVp : 0 < val v := by omega
  have e := Int.mul_ediv_add_emod (val w) (val v)
  have e1 := Int.emod_nonneg (val w) (show val v ≠ 0 by omega)
  have e2 := Int.emod_lt_of_pos (val w) hVp
  have PP : val v < pw w.length := by have := pw_le (show v.length ≤ w.length by omega); omega
  obtain ⟨Q, hQ⟩ : ∃ Q, Q = val w / val v := ⟨_, rfl⟩
  rw [← hQ] at g2 g3 e ⊢
  refine ⟨g, b, w1, g1, t1, by omega, t3, g4, g5, rfl, ?_⟩
  cases b with
  | false =>
    left
    have hg : g = Q := by
      rcases (show g = Q ∨ g = Q + 1 by omega) with h | h
      · exact h
      · exfalso
        rw [h, Int.add_mul, Int.mul_comm Q] at t4
        simp at t4; omega
    refine ⟨rfl, hg, ?_⟩
    rw [hg, Int.mul_comm Q] at t4; simpa using t4
  | true =>
    right
    have hg : g = Q + 1 := by
      rcases (show g = Q ∨ g = Q + 1 by omega) with h | h
      · exfalso
        rw [h, Int.mul_comm Q] at t4
        simp at t4; omega
      · exact h
    rw [hg, Int.add_mul, Int.mul_comm Q] at t4
    simp at t4
    obtain ⟨w2, c', s1, s2, s3, s4, s5, s6⟩ := give_ev t3 hv (by omega) (by omega) (k := k) (by omega)
    have X0 := val_nonneg s3; have X1 := val_lt_pw s3
    rw [s2, t2] at X1; rw [t2] at s6
    refine ⟨rfl, by omega, w2, s1, by omega, s3, ?_⟩
    rcases (show c' = 0 ∨ c' = 1 by omega) with h | h <;> subst h
    · exfalso; simp at s6; omega
    · simp at s6; omega

end Go.Proofs.Wk
/- What long, divide and DivMod of layer 1 come to: quotient and rest. Conditions: lists of limbs, of fewer than 2^37 elements. -/
namespace Go.Proofs.Wk
open Go.RowKit
set_option linter.unusedSimpArgs false
set_option linter.unusedVariables false

theorem val_split (xs : List Int) (j : Nat) (h : j ≤ xs.length) : val xs = val (xs.take j) + pw j * val (xs.drop j) := by
  have := val_append_pw (xs.take j) (xs.drop j)
  rw [List.take_append_drop, List.length_take, Nat.min_eq_left h] at this; exact this
theorem val_drop_succ {xs : List Int} {j : Nat} (h : j < xs.length) : val (xs.drop j) = rd xs (j : Int) + 4294967296 * val (xs.drop (j + 1)) := by
  have d1 := drop_rd (xs := xs) (i := (j : Int)) (by omega) (by omega)
  rw [show ((j : Int)).toNat = j by omega, show ((j : Int) + 1).toNat = j + 1 by omega] at d1
  rw [d1]; rfl
/-- A window and what stands above it. -/
theorem val_window {xs : List Int} {j n : Nat} (h : j + n ≤ xs.length) : val (xs.drop j) = val ((xs.drop j).take n) + pw n * val (xs.drop (j + n)) := by
  rw [val_split (xs.drop j) n (by rw [List.length_drop]; omega), List.drop_drop]
theorem val_put {xs ys : List Int} {j n : Nat} (h : j + n ≤ xs.length) (hy : ys.length = n) : val (xs.take j ++ ys ++ xs.drop (j + n)) = val (xs.take j) + pw j * (val ys + pw n * val (xs.drop (j + n))) := by
  rw [List.append_assoc, val_append_pw, val_append_pw, List.length_take, Nat.min_eq_left (by omega), hy]
theorem put_len {xs ys : List Int} {j n : Nat} (h : j + n ≤ xs.length) (hy : ys.length = n) : (xs.take j ++ ys ++ xs.drop (j + n)).length = xs.length := by
  simp; omega
theorem put_drop {xs ys : List Int} {j n : Nat} (h : j + n ≤ xs.length) (hy : ys.length = n) : (xs.take j ++ ys ++ xs.drop (j + n)).drop j = ys ++ xs.drop (j + n) := by
  rw [List.append_assoc]
  have e := List.drop_left (l₁ := xs.take j) (l₂ := ys ++ xs.drop (j + n))
  rw [List.length_take, Nat.min_eq_left (by omega)] at e; exact e
theorem put_take {xs ys : List Int} {j n : Nat} (h : j + n ≤ xs.length) (hy : ys.length = n) : (xs.take j ++ ys ++ xs.drop (j + n)).take j = xs.take j := by
  rw [List.append_assoc]
  have e := List.take_left (l₁ := xs.take j) (l₂ := ys ++ xs.drop (j + n))
  rw [List.length_take, Nat.min_eq_left (by omega)] at e; exact e
theorem put_high {xs ys : List Int} {j n : Nat} (h : j + n ≤ xs.length) (hy : ys.length = n) : (xs.take j ++ ys ++ xs.drop (j + n)).drop (j + n) = xs.drop (j + n) := by
  have e := List.drop_left (l₁ := xs.take j ++ ys) (l₂ := xs.drop (j + n))
  rw [List.length_append, List.length_take, Nat.min_eq_left (by omega), hy] at e; exact e
theorem val_set_zero {xs : List Int} (hx : Lm xs) {j : Nat} (h : j < xs.length) (h0 : rd xs (j : Int) = 0) (x : Int) : val (xs.set j x) = val xs + pw j * x := by
  rw [val_split (xs.set j x) (j + 1) (by rw [List.length_set]; omega), val_take_set h, List.drop_set_of_lt (by omega), val_split xs (j + 1) (by omega), val_take_succ, h0]
  grind

/-- The rows, from the top one down. -/
theorem rows_ev {v : List Int} (hv : Lm v) {n : Nat} (hn : v.length = n) (hn2 : 2 ≤ n) (hln : n < 137438953472) (hv1p : 2147483648 ≤ rd v ((n : Int) - 1)) {s : Nat} (hs : s ≤ 31) {A : Int} (hA : 0 ≤ A) : ∀ (i k : Nat) (u q : List Int),
    Lm u → Lm q → u.length = n + q.length → q.length < 137438953472 → i ≤ q.length → (∀ j : Nat, j < i → rd q (j : Int) = 0) → A = val u + val v * val q → val (u.drop i) < val v → n + q.length + u.length + i + 8 < k →
    limb_long.l1 k (s : Int) v u q ((i : Int) - 1) = some (natL (A / val v), natL (A % val v / p2 s)) := by
  intro i
  induction i with
  | zero =>
    intro k u q hu hq hul hql hi hz hAv hlt hk
    obtain ⟨k, rfl⟩ : ∃ m, k = m + 1 := ⟨k - 1, by omega⟩
    rw [List.drop_zero] at hlt
    have U0 := val_nonneg hu; have Q0 := val_nonneg hq
    have VP := val_lt_pw hv
    rw [hn] at VP
    simp only [limb_long.l1]
    rw [if_neg (by omega), trim_ev (by omega) (by omega), trim_natL hq]; simp only [Option.bind_some]
    rw [if_pos (by omega), if_pos (by omega), hn, show ((n : Int)).toNat = n by omega, unshift_ev (hu.take n) hs (by rw [List.length_take]; omega) (by rw [List.length_take]; omega)]
    simp only [Option.bind_some]
    have e := val_split u n (by omega)
    have T0 := val_nonneg (hu.take n)
    have D0 := val_nonneg (hu.drop n)
    have e2 : val (u.drop n) = 0 := by
      rcases Int.lt_or_eq_of_le D0 with h | h
      · exfalso
        have := Int.mul_le_mul_of_nonneg_left (show 1 ≤ val (u.drop n) by omega) (show 0 ≤ pw n by have := pw_pos n; omega)
        omega
      · exact h.symm
    rw [e2] at e
    have e3 : val (u.take n) = val u := by omega
    have hd : A / val v = val q := by
      rw [hAv, Int.add_mul_ediv_left _ _ (by omega), Int.ediv_eq_zero_of_lt U0 hlt]; omega
    have hr : A % val v = val u := by
      rw [hAv, Int.add_mul_emod_self_left, Int.emod_eq_of_lt U0 hlt]
    rw [hd, hr, e3]
  | succ i ih =>
    intro k u q hu hq hul hql hi hz hAv hlt hk
    obtain ⟨k, rfl⟩ : ∃ m, k = m + 1 := ⟨k - 1, by omega⟩
    have hwl : ((u.drop i).take (n + 1)).length = n + 1 := by rw [List.length_take, List.length_drop]; omega
    have hw : Lm ((u.drop i).take (n + 1)) := (hu.drop i).take _
    have VP := val_lt_pw hv
    rw [hn] at VP
    have hV0 : 0 < val v := by have := val_nonneg (hu.drop (i + 1)); omega
    have hx := hu.rd (i := (i : Int))
    have d1 := val_drop_succ (xs := u) (j := i) (by omega)
    have d2 := val_window (xs := u) (j := i) (n := n + 1) (by omega)
    have H0 := val_nonneg (hu.drop (i + (n + 1)))
    have W0 := val_nonneg hw
    have hdl : val (u.drop i) < val v * 4294967296 := by omega
    have high : val (u.drop (i + (n + 1))) = 0 := by
      rcases Int.lt_or_eq_of_le H0 with h | h
      · exfalso
        have h1 := Int.mul_le_mul_of_nonneg_left (show 1 ≤ val (u.drop (i + (n + 1))) by omega) (show 0 ≤ pw (n + 1) by have := pw_pos (n + 1); omega)
        have h2 := pw_succ n
        omega
      · exact h.symm
    rw [high] at d2
    have dw : val ((u.drop i).take (n + 1)) = val (u.drop i) := by omega
    obtain ⟨g, b, w1, g1, t1, l1, m1, gq0, gq1, _, hcase⟩ := row_ev hw hv hn hn2 hwl (by omega) hv1p (by omega) (k := k) (by omega)
    rw [dw] at hcase
    obtain ⟨D, hD⟩ : ∃ D, D = val (u.drop i) := ⟨_, rfl⟩
    rw [← hD] at hcase hdl
    have em := Int.mul_ediv_add_emod D (val v)
    have em1 := Int.emod_lt_of_pos D hV0
    obtain ⟨Q, hQ⟩ : ∃ Q, Q = D / val v := ⟨_, rfl⟩
    rw [← hQ] at hcase em
    have hsu := val_split u i (by omega)
    rw [← hD] at hsu
    -- the last step, whichever list it was
    have go : ∀ w2 : List Int, w2.length = n + 1 → Lm w2 → val w2 = D - val v * Q → 0 ≤ Q → Q ≤ 4294967295 →
        limb_long.l1 k (s : Int) v (u.take i ++ w2 ++ u.drop (i + (n + 1))) (q.set i Q) ((i : Int) - 1) = some (natL (A / val v), natL (A % val v / p2 s)) := by
      intro w2 hl2 hm2 hv2 hq0 hq1
      have pl := put_len (xs := u) (ys := w2) (j := i) (n := n + 1) (by omega) hl2
      refine ih k _ _ ((hu.take i).append hm2 |>.append (hu.drop _)) (hq.set _ ⟨hq0, hq1⟩) (by rw [pl, List.length_set]; exact hul) (by rw [List.length_set]; exact hql) (by rw [List.length_set]; omega) ?_ ?_ ?_ (by rw [pl, List.length_set]; omega)
      · intro j hj
        rw [rd_set_ne (by omega) (by omega)]; exact hz j (by omega)
      · rw [val_put (by omega) hl2, high, hv2, val_set_zero hq (by omega) (hz i (by omega)), hAv, hsu]
        grind
      · rw [put_drop (by omega) hl2, val_append_pw, high, hv2]; omega
    simp only [limb_long.l1]
    rw [show (((i + 1 : Nat) : Int) - 1) = (i : Int) by omega, if_pos (by omega)]
    unfold limb_guess.w limb_take.w
    rw [if_pos (by omega), show ((i : Int)).toNat = i by omega, hn, g1]; simp only [Option.bind_some]
    rw [if_pos (by omega), t1]; simp only [Option.bind_some]
    rcases hcase with ⟨hb, hg, hval⟩ | ⟨hb, hg, w2, s1, s2, s3, s4⟩
    · rw [hb, if_neg (by simp), if_pos (by omega), if_pos (by omega), wi64 (n := (i : Int) - 1) (by omega) (by omega), Int.emod_eq_of_lt gq0 (by omega), hg]
      exact go w1 l1 m1 hval (by omega) (by omega)
    · have hQ0 : 0 ≤ Q := by rw [hQ]; exact Int.ediv_nonneg (by omega) (by omega)
      rw [hb, if_pos rfl]
      unfold limb_give.w
      have pl := put_len (xs := u) (ys := w1) (j := i) (n := n + 1) (by omega) l1
      have pd : ((u.take i ++ w1 ++ u.drop (i + (n + 1))).drop i).take (n + 1) = w1 := by
        rw [put_drop (by omega) l1, ← l1, List.take_left]
      rw [if_pos (by omega), show ((i : Int)).toNat = i by omega, hn, pd, s1, put_take (by omega) l1, put_high (by omega) l1]; simp only [Option.bind_some]
      rw [if_pos (by omega), if_pos (by omega), wi64 (n := (i : Int) - 1) (by omega) (by omega), wu (n := g - 1) (by omega) (by omega), Int.emod_eq_of_lt (a := g - 1) (by omega) (by omega), hg]
      exact go w2 s2 s3 s4 hQ0 (by omega)

theorem shl_u32 {x : Int} {s : Nat} (hx : 0 ≤ x * p2 s ∧ x * p2 s ≤ 4294967295) (hs : s ≤ 31) : shl .u32 x (s : Int) = x * p2 s := by
  unfold shl
  rw [show min ((s : Int)).toNat IntKind.u32.bits = s by simp [IntKind.bits]; omega, wu32]
  exact Int.emod_eq_of_lt hx.1 (by unfold p2 at hx; omega)
theorem val_last {xs : List Int} {n : Nat} (h : xs.length = n) (hn : 1 ≤ n) : val xs = val (xs.take (n - 1)) + pw (n - 1) * rd xs ((n : Int) - 1) := by
  have e := val_take_succ xs (n - 1)
  rw [show n - 1 + 1 = n by omega, List.take_of_length_le (by omega), show (((n - 1 : Nat)) : Int) = (n : Int) - 1 by omega] at e
  exact e
theorem top_bound {xs : List Int} (hx : Lm xs) {n : Nat} (hn : xs.length = n + 1) {p P : Int} (h : val xs < pw n * p) (hp : 0 ≤ p) : rd xs (n : Int) < p := by
  have e := val_take_succ xs n
  rw [List.take_of_length_le (by omega)] at e
  have := val_nonneg (hx.take n)
  rcases Int.lt_or_le (rd xs (n : Int)) p with h1 | h1
  · exact h1
  · exfalso
    have := Int.mul_le_mul_of_nonneg_left h1 (show 0 ≤ pw n by have := pw_pos n; omega)
    omega
theorem rg1 (P t p : Int) : P * (t + 1) * p = P * (t * p + p) := by rw [Int.mul_assoc, Int.add_mul, Int.one_mul]
theorem rg2 (x P t p : Int) : (x + P * t) * p = x * p + P * (t * p) := by rw [Int.add_mul, Int.mul_assoc]
/-- A multiple of p2 s below 2^32 stays so with p2 s more. -/
theorem room {top : Int} {s : Nat} (hs : s ≤ 31) (hts : top * p2 s ≤ 4294967295) : top * p2 s + p2 s ≤ 4294967296 := by
  have hp0 := p2_pos s
  have hpp := p2_32 (show s ≤ 32 by omega)
  have h4 : top < p2 (32 - s) := by
    apply Int.lt_of_mul_lt_mul_right (a := p2 s) _ (by omega)
    rw [Int.mul_comm (p2 (32 - s)), hpp]; omega
  have h5 := Int.mul_le_mul_of_nonneg_right (show top + 1 ≤ p2 (32 - s) by omega) (show 0 ≤ p2 s by omega)
  rw [Int.add_mul, Int.mul_comm (p2 (32 - s)), hpp] at h5; omega
theorem moved_hi {b P top p x V : Int} (eb : b = x + P * top) (hx : x < P) (hP : 0 < P) (hp : 0 < p) (h3 : top * p + p ≤ 4294967296) : b * p < P * 4294967296 := by
  have h1 := Int.mul_lt_mul_of_pos_right (show b < P * (top + 1) by rw [Int.mul_add]; omega) hp
  have h6 := Int.mul_le_mul_of_nonneg_left h3 (show 0 ≤ P by omega)
  rw [rg1] at h1; omega
theorem moved_lo {b P top p x : Int} (eb : b = x + P * top) (hx : 0 ≤ x) (hP : 0 < P) (hp : 0 < p) (htl : 2147483648 ≤ top * p) : P * 2147483648 ≤ b * p := by
  have h1 := Int.mul_le_mul_of_nonneg_left htl (show 0 ≤ P by omega)
  have h2 := Int.mul_nonneg hx (show 0 ≤ p by omega)
  rw [eb, rg2]; omega
theorem top_lo {x P t V : Int} (e : V = x + P * t) (hx : x < P) (hP : 0 < P) (h : P * 2147483648 ≤ V) : 2147483648 ≤ t := by
  rcases Int.lt_or_le t 2147483648 with h1 | h1
  · exfalso
    have := Int.mul_le_mul_of_nonneg_left (show t + 1 ≤ 2147483648 by omega) (show 0 ≤ P by omega)
    rw [Int.mul_add] at this
    omega
  · exact h1
theorem top_hi {x P t V : Int} (e : V = x + P * t) (hx : x < P) (hP : 0 < P) (h : t < 2147483648) : V < P * 2147483648 := by
  have := Int.mul_le_mul_of_nonneg_left (show t + 1 ≤ 2147483648 by omega) (show 0 ≤ P by omega)
  rw [Int.mul_add] at this
  omega
theorem high_zero {xs : List Int} (hx : Lm xs) {n : Nat} (hn : n ≤ xs.length) (h : val xs < pw n) : val (xs.take n) = val xs := by
  have sb := val_split xs n hn
  have h0 := val_nonneg (hx.take n); have h1 := val_nonneg (hx.drop n)
  rcases Int.lt_or_eq_of_le h1 with h2 | h2
  · exfalso
    have := Int.mul_le_mul_of_nonneg_left (show 1 ≤ val (xs.drop n) by omega) (show 0 ≤ pw n by have := pw_pos n; omega)
    omega
  · rw [← h2] at sb; omega
theorem take_last_lt {xs : List Int} (hx : Lm xs) {n : Nat} (hn : xs.length = n) (hn1 : 1 ≤ n) : val (xs.take (n - 1)) < pw (n - 1) := by
  have b1 := val_lt_pw (hx.take (n - 1))
  rw [List.length_take, Nat.min_eq_left (by omega)] at b1; exact b1
/-- The divisor, moved. -/
theorem divisor_ev {b : List Int} (hb : Lm b) {n : Nat} (hn : b.length = n) (hn2 : 2 ≤ n) {top : Int} (ht : rd b ((n : Int) - 1) = top) {s : Nat} (hs : s ≤ 31) (hts : top * p2 s ≤ 4294967295) (htl : 2147483648 ≤ top * p2 s)
    {bs : List Int} (e2 : bs.length = n + 1) (e3 : Lm bs) (e4 : val bs = val b * p2 s) : val (bs.take n) = val b * p2 s ∧ pw (n - 1) * 2147483648 ≤ val (bs.take n) ∧ 2147483648 ≤ rd (bs.take n) ((n : Int) - 1) := by
  have eb := val_last hn (by omega)
  rw [ht] at eb
  have hP := pw_pos (n - 1)
  have pn : pw n = pw (n - 1) * 4294967296 := by rw [← pw_succ, show n - 1 + 1 = n by omega]
  have h1 := moved_hi (V := 0) eb (take_last_lt hb hn (by omega)) hP (p2_pos s) (room hs hts)
  have h2 := moved_lo eb (val_nonneg (hb.take _)) hP (p2_pos s) htl
  have h3 := high_zero e3 (n := n) (by omega) (by rw [e4, pn]; exact h1)
  have hvn : (bs.take n).length = n := by rw [List.length_take]; omega
  refine ⟨by rw [h3, e4], by rw [h3, e4]; exact h2, ?_⟩
  exact top_lo (val_last hvn (by omega)) (take_last_lt (e3.take n) hvn (by omega)) hP (by rw [h3, e4]; exact h2)
/-- The dividend, moved. -/
theorem dividend_ev {a : List Int} (ha : Lm a) {n m : Nat} (hn2 : 2 ≤ n) (hm : a.length + 1 = n + m) {s : Nat} (hs : s ≤ 31) {us : List Int} (f2 : us.length = a.length + 1) (f3 : Lm us) (f4 : val us = val a * p2 s) : val (us.drop m) < pw (n - 1) * 2147483648 := by
  have hp0 := p2_pos s; have hp1 := p2_31 hs
  have ust : rd us (a.length : Int) < p2 s := by
    refine top_bound f3 f2 (P := 0) ?_ (by omega)
    rw [f4]
    exact Int.mul_lt_mul_of_pos_right (val_lt_pw ha) hp0
  have hl : (us.drop m).length = n := by rw [List.length_drop]; omega
  have er : rd (us.drop m) ((n : Int) - 1) = rd us (a.length : Int) := by
    rw [rd_getElem (by omega), rd_getElem (by omega), List.getElem_drop]
    congr 1; omega
  refine top_hi (val_last hl (by omega)) (take_last_lt (f3.drop m) hl (by omega)) (pw_pos (n - 1)) ?_
  rw [er]; omega
theorem rest_moved (A B : Int) {p : Int} (hp : 0 < p) : A * p % (B * p) = (A % B) * p := by
  rw [Int.mul_comm A, Int.mul_comm B, Int.mul_emod_mul_of_pos _ _ hp, Int.mul_comm]
theorem long_rows {a : List Int} (ha : Lm a) {b : List Int} (hb : Lm b) {n m : Nat} (hn : b.length = n) (hn2 : 2 ≤ n) (hm : a.length + 1 = n + m) (hla : a.length < 68719476736) {top : Int} (ht : rd b ((n : Int) - 1) = top) {s : Nat} (hs : s ≤ 31)
    (hts : top * p2 s ≤ 4294967295) (htl : 2147483648 ≤ top * p2 s) {us bs : List Int} (e2 : bs.length = n + 1) (e3 : Lm bs) (e4 : val bs = val b * p2 s) (f2 : us.length = a.length + 1) (f3 : Lm us) (f4 : val us = val a * p2 s) {k : Nat} (hk : 5 * a.length + 20 < k) :
    limb_long.l1 k (s : Int) (bs.take n) us (List.replicate m 0) ((m : Int) - 1) = some (natL (val a / val b), natL (val a % val b)) := by
  have hp0 := p2_pos s
  obtain ⟨d1, d2, d3⟩ := divisor_ev hb hn hn2 ht hs hts htl e2 e3 e4
  have d4 := dividend_ev ha hn2 hm hs f2 f3 f4
  have hvn : (bs.take n).length = n := by rw [List.length_take]; omega
  have lr : (List.replicate m (0 : Int)).length = m := List.length_replicate
  have A0 := val_nonneg ha
  have fin := rows_ev (e3.take n) hvn hn2 (by omega) d3 hs (A := val a * p2 s) (Int.mul_nonneg A0 (by omega)) m k us (List.replicate m 0) f3 (Lm.zeros m) (by omega) (by omega) (by omega)
    (by intro j hj; rw [rd_getElem (by omega)]; simp) (by rw [val_zeros, f4]; simp) (by omega) (by omega)
  rw [d1, Int.mul_ediv_mul_of_pos_left _ _ hp0, rest_moved _ _ hp0, Int.mul_ediv_cancel _ (by omega)] at fin
  exact fin
theorem long_head {a b us bs : List Int} {n m k s : Nat} {top : Int} {r : Option (List Int × List Int)} (hn : b.length = n) (hn2 : 2 ≤ n) (hab : n ≤ a.length) (hla : a.length < 68719476736) (ht : rd b ((n : Int) - 1) = top) (hnz : ¬ (shl .u32 top (s : Int) / 2147483648 = 0))
    (e1 : limb_shift.f k b (s : Int) = some bs) (e2 : bs.length = b.length + 1) (f1 : limb_shift.f k a (s : Int) = some us) (f2 : us.length = a.length + 1) (hm : a.length + 1 = n + m) (fin : limb_long.l1 k (s : Int) (bs.take n) us (List.replicate m 0) ((m : Int) - 1) = r) : limb_long.l0 (k + 1) a b (s : Int) = r := by
  have hvn : (bs.take n).length = n := by rw [List.length_take]; omega
  have lr : (List.replicate m (0 : Int)).length = m := List.length_replicate
  have w1 : wrap64 ((n : Int) - 1) = (n : Int) - 1 := wi64 (by omega) (by omega)
  have w2 : wrap64 ((us.length : Int) - (n : Int)) = (m : Int) := by rw [show ((us.length : Int) - (n : Int)) = (m : Int) by omega]; exact wi64 (by omega) (by omega)
  have w3 : wrap64 ((m : Int) - 1) = (m : Int) - 1 := wi64 (by omega) (by omega)
  have c1 : 0 ≤ (n : Int) - 1 := by omega
  have c2 : (n : Int) - 1 < (n : Int) := by omega
  have c3 : 0 ≤ (s : Int) := by omega
  have c4 : 0 ≤ (n : Int) := by omega
  have c5 : (n : Int) ≤ (bs.length : Int) := by omega
  have c6 : 0 ≤ (m : Int) := by omega
  have c7 : m ≤ 70368744177664 := by omega
  unfold limb_long.l0
  rw [hn, w1, if_pos c1, if_pos c2, if_pos c3, ht, if_neg hnz, e1, Option.bind_some, if_pos c4, if_pos c5, Int.toNat_natCast, Option.bind_some, f1, Option.bind_some, hvn, w2, if_pos c6, Int.toNat_natCast, if_pos c7, Option.bind_some, lr, w3]
  exact fin
theorem long_end {a b : List Int} (ha : Lm a) (hb : Lm b) {n : Nat} (hn : b.length = n) (hn2 : 2 ≤ n) (hab : n ≤ a.length) (hla : a.length < 68719476736) {top : Int} (ht : rd b ((n : Int) - 1) = top) (s k : Nat) (hs : s ≤ 31)
    (hts : top * p2 s ≤ 4294967295) (htl : 2147483648 ≤ top * p2 s) (hk : 5 * a.length + 20 < k) : limb_long.l0 (k + 1) a b (s : Int) = some (natL (val a / val b), natL (val a % val b)) := by
  obtain ⟨bs, e1, e2, e3, e4⟩ := shift_ev hb hs (by omega) (k := k) (by omega)
  obtain ⟨us, f1, f2, f3, f4⟩ := shift_ev ha hs (by omega) (k := k) (by omega)
  obtain ⟨m, hm⟩ : ∃ m, a.length + 1 = n + m := ⟨a.length + 1 - n, by omega⟩
  have fin := long_rows ha hb hn hn2 hm hla ht hs hts htl (by omega) e3 e4 f2 f3 f4 hk
  have hvn : (bs.take n).length = n := by rw [List.length_take]; omega
  have hnz : ¬ (shl .u32 top (s : Int) / 2147483648 = 0) := by
    rw [shl_u32 ⟨by omega, hts⟩ hs]; omega
  have m0 : (m : Int).toNat ≤ 70368744177664 := by omega
  have lr : (List.replicate m (0 : Int)).length = m := List.length_replicate
  clear e4 f4 htl hts
  exact long_head hn hn2 hab hla ht hnz e1 e2 f1 f2 hm fin
theorem long_loop {a b : List Int} (ha : Lm a) (hb : Lm b) {n : Nat} (hn : b.length = n) (hn2 : 2 ≤ n) (hab : n ≤ a.length) (hla : a.length < 68719476736) {top : Int} (ht : rd b ((n : Int) - 1) = top) (ht1 : 1 ≤ top) : ∀ (d s k : Nat),
    s + d = 31 → top * p2 s ≤ 4294967295 → 5 * a.length + d + 21 < k → limb_long.l0 k a b (s : Int) = some (natL (val a / val b), natL (val a % val b)) := by
  intro d
  induction d with
  | zero =>
    intro s k hs hts hk
    obtain ⟨k, rfl⟩ : ∃ m, k = m + 1 := ⟨k - 1, by omega⟩
    have hs31 : s = 31 := by omega
    refine long_end ha hb hn hn2 hab hla ht s k (by omega) hts ?_ (by omega)
    rw [hs31, show p2 31 = 2147483648 by decide +kernel]; omega
  | succ d ih =>
    intro s k hs hts hk
    obtain ⟨k, rfl⟩ : ∃ m, k = m + 1 := ⟨k - 1, by omega⟩
    rcases Int.lt_or_le (top * p2 s) 2147483648 with h | h
    · have h0 := Int.mul_nonneg (show 0 ≤ top by omega) (show 0 ≤ p2 s by have := p2_pos s; omega)
      simp only [limb_long.l0]
      rw [hn, wi64 (n := (n : Int) - 1) (by omega) (by omega), if_pos (by omega), if_pos (by omega), if_pos (by omega), ht, shl_u32 ⟨h0, hts⟩ (by omega), if_pos (by omega), wsucc (by omega)]
      refine ih (s + 1) k (by omega) ?_ (by omega)
      rw [p2_succ, ← Int.mul_assoc, Int.mul_comm top 2, Int.mul_assoc]; omega
    · exact long_end ha hb hn hn2 hab hla ht s k (by omega) hts h (by omega)
theorem long_ev {a b : List Int} (ha : Lm a) (hb : Fm b) (hn2 : 2 ≤ b.length) (hab : b.length ≤ a.length) (hla : a.length < 68719476736) {k : Nat} (hk : 5 * a.length + 60 < k) : limb_long.f k a b = some (natL (val a / val b), natL (val a % val b)) := by
  have h := (Fm.iff hb.1).1 hb
  have h1 := hb.1.rd (i := (b.length : Int) - 1)
  unfold limb_long.f
  refine long_loop ha hb.1 rfl hn2 hab hla rfl (by omega) 31 0 k (by omega) ?_ (by omega)
  rw [show p2 0 = 1 by decide +kernel]; omega

end Go.Proofs.Wk
/- What DivMod of layer 1 comes to: quotient and rest, or its error. Conditions: lists of limbs, of fewer than 2^36 elements. -/
namespace Go.Proofs.Wk
open Go.RowKit
set_option linter.unusedSimpArgs false
set_option linter.unusedVariables false

def divS (a b : List Int) : List Int × List Int × Int := if fmB a = true ∧ fmB b = true then (if b.length = 0 then ([], [], 5) else (natL (val a / val b), natL (val a % val b), 0)) else ([], [], 1)
end Go.Proofs.Wk
/- What the reference's trim, Formed, cmp and Same come to. Conditions: lists of limbs, of fewer than 2^40 elements. -/
namespace Go.Proofs.Wk
open Go.RowKit
set_option linter.unusedSimpArgs false
set_option linter.unusedVariables false

theorem rtrim_k : ∀ (n : Nat) (l : List Int), n ≤ l.length → l.length < 1099511627776 → ∀ k, n < k → psephosref01_trim.l0 k l n = some (trimL (l.take n)) := by
  intro n
  induction n with
  | zero =>
    intro l _ hl k hk
    obtain ⟨k, rfl⟩ : ∃ m, k = m + 1 := ⟨k - 1, by omega⟩
    simp only [psephosref01_trim.l0]
    rw [if_neg (by omega)]; simp [trimL]
  | succ n ih =>
    intro l hn hl k hk
    obtain ⟨k, rfl⟩ : ∃ m, k = m + 1 := ⟨k - 1, by omega⟩
    have hw : wrap64 (((n + 1 : Nat) : Int) - 1) = (n : Int) := by rw [wi64 (by omega) (by omega)]; omega
    have e := take_rd (xs := l) (i := (n : Int)) (by omega) (by omega)
    rw [show ((n : Int) + 1).toNat = n + 1 by omega, show (n : Int).toNat = n by omega] at e
    simp only [psephosref01_trim.l0]
    rw [hw, if_pos (by omega), if_pos (by omega), if_pos (by omega), e]
    by_cases h0 : rd l (n : Int) = 0
    · rw [if_pos h0, h0, trimL_snoc_zero]
      exact ih l (by omega) hl k (by omega)
    · rw [if_neg h0, trimL_snoc_ne _ h0, ← e]
      simp only [Option.bind_some]
      rw [if_pos (by omega), if_pos (by omega), show (((n + 1 : Nat) : Int)).toNat = n + 1 by omega, if_pos (by simp; omega)]
      simp
theorem rtrim_ev {l : List Int} (h : l.length < 1099511627776) {k : Nat} (hk : l.length < k) : psephosref01_trim.f k l = some (trimL l) := by
  have := rtrim_k l.length l (by omega) h k hk
  rw [List.take_length] at this; exact this
theorem rFormed_ev {l : List Int} (h : l.length < 1099511627776) : psephosref01_Formed.f l = some (fmB l) := Formed_ev h
end Go.Proofs.Wk
/- What the reference's sub comes to: the difference. Conditions: lists of limbs, of fewer than 2^39 elements, the second one not above the first. -/
namespace Go.Proofs.Wk
open Go.RowKit
set_option linter.unusedSimpArgs false
set_option linter.unusedVariables false

theorem rsub_step {P c x y V A W v c' : Int} (h : V = A - W + P * c) (hs : v = x - c - y + 4294967296 * c') : V + P * v = A + P * x - (W + P * y) + (P * 4294967296) * c' := by grind
theorem rsub_loop {a b : List Int} (ha : Lm a) (hb : Lm b) (hv0 : val b ≤ val a) (hbl : b.length ≤ a.length) (hl : a.length < 549755813888) : ∀ (d i k : Nat) (out : List Int) (c : Int),
    i + d = a.length → out.length = a.length → Lm out → (∀ j : Int, (i : Int) ≤ j → rd out j = rd a j) → 0 ≤ c → c ≤ 1 → val (out.take i) = val (a.take i) - val (b.take i) + pw i * c → a.length + d + 2 < k →
    psephosref01_sub.l0 k b out c (a.length : Int) (i : Int) = some (natL (val a - val b)) := by
  intro d
  induction d with
  | zero =>
    intro i k out c hi hol hm hsame hc0 hc1 hv hk
    obtain ⟨k, rfl⟩ : ∃ m, k = m + 1 := ⟨k - 1, by omega⟩
    obtain rfl : i = a.length := by omega
    simp only [psephosref01_sub.l0]
    rw [if_neg (by omega), rtrim_ev (by omega) (by omega), trim_natL hm]; simp only [Option.bind_some]
    have e : val out = val a - val b := by
      rw [List.take_of_length_le (show out.length ≤ a.length by omega), List.take_length, List.take_of_length_le hbl] at hv
      have h1 := val_lt_pw hm
      rw [hol] at h1
      have h2 : c = 0 := by
        rcases (show c = 0 ∨ c = 1 by omega) with h | h
        · exact h
        · subst h; omega
      subst h2; omega
    rw [e]
  | succ d ih =>
    intro i k out c hi hol hm hsame hc0 hc1 hv hk
    obtain ⟨k, rfl⟩ : ∃ m, k = m + 1 := ⟨k - 1, by omega⟩
    have hx := ha.rd (i := (i : Int)); have hy := hb.rd (i := (i : Int))
    have go : ∀ s c' : Int, s = rd a (i : Int) - c - rd b (i : Int) + 4294967296 → 0 ≤ c' → c' ≤ 1 → s % 4294967296 = rd a (i : Int) - c - rd b (i : Int) + 4294967296 * c' → psephosref01_sub.l0 k b (out.set i (s % 4294967296)) c' (a.length : Int) ((i + 1 : Nat) : Int) = some (natL (val a - val b)) := by
      intro s c' hs h0 h1 hm2
      have e1 : (out.set i (s % 4294967296)).length = a.length := by rw [List.length_set]; exact hol
      have e2 : val ((out.set i (s % 4294967296)).take (i + 1)) = val (a.take (i + 1)) - val (b.take (i + 1)) + pw (i + 1) * c' := by
        rw [val_take_set (by omega), val_take_succ a, val_take_succ b, pw_succ]
        exact rsub_step hv hm2
      have e3 : ∀ j : Int, ((i + 1 : Nat) : Int) ≤ j → rd (out.set i (s % 4294967296)) j = rd a j := by
        intro j hj; rw [rd_set_ne (by omega) (by omega)]; exact hsame j (by omega)
      have e4 : i + 1 + d = a.length := by omega
      have e5 : a.length + d + 2 < k := by omega
      exact ih (i + 1) k _ _ e4 e1 (hm.set _ (by omega)) e3 h0 h1 e2 e5
    simp only [psephosref01_sub.l0]
    rw [if_pos (by omega)]
    by_cases hb1 : (i : Int) < (b.length : Int)
    · rw [if_pos hb1, if_pos (by omega), if_pos (by omega), wsucc (by omega), show ((i : Int)).toNat = i by omega, hsame (i : Int) (by omega), wu (n := rd a (i : Int)) (by omega) (by omega), wu (n := rd b (i : Int)) (by omega) (by omega), wu (n := c + rd b (i : Int)) (by omega) (by omega), wu (n := rd a (i : Int) + 4294967296) (by omega) (by omega), wu (by omega) (by omega)]
      by_cases hn : rd a (i : Int) < c + rd b (i : Int)
      · rw [if_pos hn]; exact go _ 1 (by omega) (by omega) (by omega) (by omega)
      · rw [if_neg hn]; exact go _ 0 (by omega) (by omega) (by omega) (by omega)
    · have hz := rd_past (xs := b) (i := (i : Int)) (by omega)
      rw [if_neg hb1, if_pos (by omega), if_pos (by omega), wsucc (by omega), show ((i : Int)).toNat = i by omega, hsame (i : Int) (by omega), wu (n := rd a (i : Int)) (by omega) (by omega), wu (n := rd a (i : Int) + 4294967296) (by omega) (by omega), wu (by omega) (by omega)]
      by_cases hn : rd a (i : Int) < c
      · rw [if_pos hn]; exact go _ 1 (by omega) (by omega) (by omega) (by omega)
      · rw [if_neg hn]; exact go _ 0 (by omega) (by omega) (by omega) (by omega)
theorem rsub_ev {a b : List Int} (ha : Lm a) (hb : Lm b) (hv0 : val b ≤ val a) (hbl : b.length ≤ a.length) (hl : a.length < 549755813888) {k : Nat} (hk : 2 * a.length + 5 < k) : psephosref01_sub.f k a b = some (natL (val a - val b)) := by
  unfold psephosref01_sub.f; simp only [Option.bind_some, List.nil_append]
  rw [if_pos (by simp; omega)]
  exact rsub_loop ha hb hv0 hbl hl a.length 0 k a 0 (by omega) rfl ha (fun _ _ => rfl) (by omega) (by omega) (by simp [val]) (by omega)

end Go.Proofs.Wk
/- What bits, half and shifted of the reference come to. Conditions: lists of limbs, of fewer than 2^37 elements. -/
namespace Go.Proofs.Wk
open Go.RowKit
set_option linter.unusedSimpArgs false
set_option linter.unusedVariables false

theorem rsplit (xs : List Int) (j : Nat) (h : j ≤ xs.length) : val xs = val (xs.take j) + pw j * val (xs.drop j) := by
  have := val_append_pw (xs.take j) (xs.drop j)
  rw [List.take_append_drop, List.length_take, Nat.min_eq_left h] at this; exact this
theorem rdrop {xs : List Int} {j : Nat} (h : j < xs.length) : val (xs.drop j) = rd xs (j : Int) + 4294967296 * val (xs.drop (j + 1)) := by
  have d1 := drop_rd (xs := xs) (i := (j : Int)) (by omega) (by omega)
  rw [show ((j : Int)).toNat = j by omega, show ((j : Int) + 1).toNat = j + 1 by omega] at d1
  rw [d1]; rfl
theorem p2_split (j : Nat) : p2 j = pw (j / 32) * p2 (j % 32) := by
  rw [← p2_pw, ← p2_add]; congr 1; omega
theorem and_one {y : Int} (h0 : 0 ≤ y) (h1 : y < 2) : Go.bits .and .u32 y 1 = y := by
  rcases (show y = 0 ∨ y = 1 by omega) with h | h <;> subst h <;> decide
theorem idx_div (j : Nat) (h : j < 4398046511104) : wrap64 (Int.tdiv (j : Int) 32) = ((j / 32 : Nat) : Int) := by
  rw [Int.tdiv_eq_ediv_of_nonneg (by omega)]; rw [show ((j : Int) / 32) = ((j / 32 : Nat) : Int) by omega]; exact wi64 (by omega) (by omega)
theorem idx_mod (j : Nat) : IntKind.u64.wrap (Int.tmod (j : Int) 32) = ((j % 32 : Nat) : Int) := by
  rw [Int.tmod_eq_emod_of_nonneg (by omega), show ((j : Int) % 32) = ((j % 32 : Nat) : Int) by omega]; exact wu (by omega) (by omega)
theorem wpred {j : Nat} (h : j < 4398046511104) : wrap64 (((j + 1 : Nat) : Int) - 1) = (j : Int) := by
  rw [show (((j + 1 : Nat) : Int) - 1) = (j : Int) by omega]; exact wi64 (by omega) (by omega)
/-- A number below p2 (j + 1): its limb at j / 32, and what it says of bit j. -/
theorem bit_at {x : List Int} (hx : Lm x) {j : Nat} (hj : j / 32 < x.length) (hv : val x < p2 (j + 1)) : 0 ≤ rd x ((j / 32 : Nat) : Int) / p2 (j % 32) ∧ rd x ((j / 32 : Nat) : Int) / p2 (j % 32) < 2 ∧ (rd x ((j / 32 : Nat) : Int) / p2 (j % 32) = 0 ↔ val x < p2 j) := by
  have e := rsplit x (j / 32) (by omega)
  have e2 := rdrop hj
  have t0 := val_nonneg (hx.take (j / 32)); have t1 := val_lt_pw (hx.take (j / 32))
  rw [List.length_take, Nat.min_eq_left (by omega)] at t1
  have d0 := val_nonneg (hx.drop (j / 32 + 1))
  have l0 := hx.rd (i := ((j / 32 : Nat) : Int))
  have hP := pw_pos (j / 32); have hp := p2_pos (j % 32)
  have s1 : p2 (j + 1) = pw (j / 32) * (2 * p2 (j % 32)) := by rw [p2_succ, p2_split]; exact Int.mul_left_comm _ _ _
  have s2 := p2_split j
  obtain ⟨D, hD⟩ : ∃ D, D = val (x.drop (j / 32)) := ⟨_, rfl⟩
  rw [← hD] at e e2
  have hD0 : 0 ≤ D := by omega
  have hDlt : D < 2 * p2 (j % 32) := by
    rcases Int.lt_or_le D (2 * p2 (j % 32)) with h | h
    · exact h
    · exfalso; have := Int.mul_le_mul_of_nonneg_left h (show 0 ≤ pw (j / 32) by omega); omega
  have h31 := p2_31 (show j % 32 ≤ 31 by omega)
  have hl : rd x ((j / 32 : Nat) : Int) = D := by omega
  rw [hl]
  refine ⟨Int.ediv_nonneg hD0 (by omega), Int.ediv_lt_of_lt_mul hp (by omega), ?_⟩
  constructor
  · intro h
    have h1 : D < p2 (j % 32) := by
      have := Int.mul_ediv_add_emod D (p2 (j % 32)); have := Int.emod_lt_of_pos D hp
      rw [h, Int.mul_zero] at *; omega
    have := Int.mul_le_mul_of_nonneg_left (show D + 1 ≤ p2 (j % 32) by omega) (show 0 ≤ pw (j / 32) by omega)
    rw [Int.mul_add] at this; omega
  · intro h
    apply Int.ediv_eq_zero_of_lt hD0
    rcases Int.lt_or_le D (p2 (j % 32)) with h1 | h1
    · exact h1
    · exfalso; have := Int.mul_le_mul_of_nonneg_left h1 (show 0 ≤ pw (j / 32) by omega); omega
theorem bits_loop {x : List Int} (hx : Lm x) (hl : x.length < 68719476736) : ∀ (n k : Nat), n ≤ 32 * x.length → val x < p2 n → n < k →
    ∃ m : Nat, psephosref01_bits.l0 k x (n : Int) = some (m : Int) ∧ m ≤ n ∧ val x < p2 m ∧ (m = 0 ∨ p2 (m - 1) ≤ val x) := by
  intro n
  induction n with
  | zero =>
    intro k hn hv hk
    obtain ⟨k, rfl⟩ : ∃ m, k = m + 1 := ⟨k - 1, by omega⟩
    refine ⟨0, ?_, by omega, hv, .inl rfl⟩
    simp only [psephosref01_bits.l0]; rw [if_neg (by omega)]
  | succ n ih =>
    intro k hn hv hk
    obtain ⟨k, rfl⟩ : ∃ m, k = m + 1 := ⟨k - 1, by omega⟩
    obtain ⟨b0, b1, b2⟩ := bit_at hx (show n / 32 < x.length by omega) hv
    simp only [psephosref01_bits.l0]
    rw [wpred (by omega), idx_div n (by omega), idx_mod n, if_pos (by omega), if_pos (by omega), if_pos (by omega), if_pos (by omega), shr_nat (by simp [IntKind.bits]; omega), and_one b0 b1]
    by_cases h : rd x ((n / 32 : Nat) : Int) / p2 (n % 32) = 0
    · rw [if_pos h]
      obtain ⟨m, h1, h2, h3, h4⟩ := ih k (by omega) (b2.1 h) (by omega)
      exact ⟨m, h1, by omega, h3, h4⟩
    · rw [if_neg h]
      refine ⟨n + 1, rfl, by omega, hv, .inr ?_⟩
      rcases Int.lt_or_le (val x) (p2 n) with h1 | h1
      · exact absurd (b2.2 h1) h
      · exact h1
theorem bits_ev {x : List Int} (hx : Lm x) (hl : x.length < 68719476736) {k : Nat} (hk : 32 * x.length < k) :
    ∃ m : Nat, psephosref01_bits.f k x = some (m : Int) ∧ m ≤ 32 * x.length ∧ val x < p2 m ∧ (m = 0 ∨ p2 (m - 1) ≤ val x) := by
  unfold psephosref01_bits.f
  rw [show wrap64 (32 * (x.length : Int)) = ((32 * x.length : Nat) : Int) by rw [show (32 * (x.length : Int)) = ((32 * x.length : Nat) : Int) by omega]; exact wi64 (by omega) (by omega)]
  exact bits_loop hx hl _ k (Nat.le_refl _) (by rw [p2_pw]; exact val_lt_pw hx) hk

theorem wadd2 {i w : Nat} (h : i + w < 4398046511104) : wrap64 ((i : Int) + (w : Int)) = ((i + w : Nat) : Int) := by
  rw [show ((i : Int) + (w : Int)) = ((i + w : Nat) : Int) by omega]; exact wi64 (by omega) (by omega)
/- half -/
theorem half_or {c y : Int} (hc0 : 0 ≤ c) (hc : c < 2147483648) (hy0 : 0 ≤ y) (hy : y ≤ 4294967295) : Go.bits .or .u32 c ((y * 2147483648) % 4294967296) = c + (y % 2) * 2147483648 := by
  have e : (y * 2147483648) % 4294967296 = (y % 2) * 2147483648 := by omega
  rw [e]
  exact or32 (s := 31) (by omega) hc0 (by rw [show p2 31 = 2147483648 by decide +kernel]; exact hc) (by omega) (by omega) (by rw [show p2 31 = 2147483648 by decide +kernel]; omega)
theorem half_loop {a : List Int} (ha : Lm a) (hl : a.length < 274877906944) : ∀ (d i k : Nat) (out : List Int),
    i + d = a.length → out.length = a.length → Lm out → (∀ j : Int, (i : Int) ≤ j → rd out j = rd a j) → val (out.take i) + pw i * (val (a.drop i) / 2) = val a / 2 → a.length + d + 2 < k →
    psephosref01_half.l0 k a out (a.length : Int) (i : Int) = some (natL (val a / 2)) := by
  intro d
  induction d with
  | zero =>
    intro i k out hi hol hm hsame hv hk
    obtain ⟨k, rfl⟩ : ∃ m, k = m + 1 := ⟨k - 1, by omega⟩
    obtain rfl : i = a.length := by omega
    simp only [psephosref01_half.l0]
    rw [if_neg (by omega), rtrim_ev (by omega) (by omega), trim_natL hm]; simp only [Option.bind_some]
    rw [List.take_of_length_le (by omega), List.drop_eq_nil_of_le (by omega)] at hv
    simp only [val, Int.zero_ediv, Int.mul_zero, Int.add_zero] at hv
    rw [hv]
  | succ d ih =>
    intro i k out hi hol hm hsame hv hk
    obtain ⟨k, rfl⟩ : ∃ m, k = m + 1 := ⟨k - 1, by omega⟩
    have hx := ha.rd (i := (i : Int)); have hy := ha.rd (i := ((i + 1 : Nat) : Int))
    have d1 := rdrop (xs := a) (j := i) (by omega)
    have hV := val_nonneg (ha.drop (i + 1))
    have hs := hsame (i : Int) (by omega)
    have go : ∀ (o : Int) (out2 : List Int), out2 = out.set i o → o = (val (a.drop i) / 2) % 4294967296 → psephosref01_half.l0 k a out2 (a.length : Int) ((i + 1 : Nat) : Int) = some (natL (val a / 2)) := by
      intro o out2 h2 ho
      subst h2
      refine ih (i + 1) k _ (by omega) (by rw [List.length_set]; exact hol) (hm.set _ (by omega)) ?_ ?_ (by omega)
      · intro j hj; rw [rd_set_ne (by omega) (by omega)]; exact hsame j (by omega)
      · have hdiv : val (a.drop i) / 2 / 4294967296 = val (a.drop (i + 1)) / 2 := by omega
        rw [val_take_set (by omega), pw_succ, ← hdiv, ho, ← hv]
        have := Int.emod_add_mul_ediv (val (a.drop i) / 2) 4294967296
        obtain ⟨E, hE⟩ : ∃ E, E = val (a.drop i) / 2 := ⟨_, rfl⟩
        rw [← hE] at this ⊢
        rw [Int.add_assoc, Int.mul_assoc, ← Int.mul_add, this]
    simp only [psephosref01_half.l0]
    rw [if_pos (by omega), if_pos (by omega), if_pos (by omega), Option.bind_some, wsucc (by omega), Int.toNat_natCast, hs]
    by_cases hn : ((i + 1 : Nat) : Int) < (a.length : Int)
    · have d2 := rdrop (xs := a) (j := i + 1) (by omega)
      have hor := half_or (c := rd a (i : Int) / 2) (y := rd a ((i + 1 : Nat) : Int)) (by omega) (by omega) hy.1 hy.2
      rw [if_pos hn, if_pos (by omega), rd_set_eq (by omega), hor]
      exact go _ _ (List.set_set _) (by omega)
    · have hz : val (a.drop (i + 1)) = 0 := by rw [List.drop_eq_nil_of_le (by omega)]; rfl
      rw [if_neg hn]
      exact go _ _ rfl (by omega)
theorem half_ev {a : List Int} (ha : Lm a) (hl : a.length < 274877906944) {k : Nat} (hk : 2 * a.length + 2 < k) : psephosref01_half.f k a = some (natL (val a / 2)) := by
  unfold psephosref01_half.f
  rw [Option.bind_some, if_pos (by simp; omega), Option.bind_some, List.nil_append]
  exact half_loop ha hl a.length 0 k a (by omega) rfl ha (fun _ _ => rfl) (by simp [val, pw_zero]) (by omega)

/- shifted -/
theorem rshift_step {V P W c A p x y l h : Int} (hV : V + P * W * c = A * (W * p)) (hy : y = x * p) (hl : y = l + 4294967296 * h) : V + P * W * (c + l) + P * W * 4294967296 * h = (A + P * x) * (W * p) := by grind
theorem shifted_loop {a : List Int} (ha : Lm a) {s w : Nat} (hs : s ≤ 31) (hl : a.length < 68719476736) (hw : w < 68719476736) {n : Int} (hn1 : ∀ _ : Unit, wrap64 (Int.tdiv n 32) = (w : Int)) (hn2 : ∀ _ : Unit, IntKind.u64.wrap (Int.tmod n 32) = (s : Int)) : ∀ (d i k : Nat) (out : List Int),
    i + d = a.length → out.length = a.length + w + 1 → Lm out → rd out ((i + w : Nat) : Int) < p2 s → (∀ j : Int, ((i + w : Nat) : Int) < j → rd out j = 0) → val (out.take (i + w)) + pw i * pw w * rd out ((i + w : Nat) : Int) = val (a.take i) * (pw w * p2 s) → a.length + w + 2 + d < k →
    psephosref01_shifted.l0 k a n out (a.length : Int) (i : Int) = some (natL (val a * (pw w * p2 s))) := by
  intro d
  induction d with
  | zero =>
    intro i k out hi hol hm hc hz hv hk
    obtain ⟨k, rfl⟩ : ∃ m, k = m + 1 := ⟨k - 1, by omega⟩
    obtain rfl : i = a.length := by omega
    simp only [psephosref01_shifted.l0]
    rw [if_neg (by omega), rtrim_ev (by omega) (by omega), trim_natL hm]; simp only [Option.bind_some]
    have e := val_take_succ out (a.length + w)
    rw [List.take_of_length_le (by omega), pw_add, hv, List.take_length] at e
    rw [e]
  | succ d ih =>
    intro i k out hi hol hm hc hz hv hk
    obtain ⟨k, rfl⟩ : ∃ m, k = m + 1 := ⟨k - 1, by omega⟩
    have hx := ha.rd (i := (i : Int)); have ho := hm.rd (i := ((i + w : Nat) : Int))
    have hp0 := p2_pos s; have hp1 := p2_31 hs; have hpp := p2_32 (show s ≤ 32 by omega)
    obtain ⟨x, hxe⟩ : ∃ x, x = rd a (i : Int) := ⟨_, rfl⟩
    rw [← hxe] at hx
    obtain ⟨y, hye⟩ : ∃ y, y = x * p2 s := ⟨_, rfl⟩
    have hy0 : 0 ≤ y := by rw [hye]; exact Int.mul_nonneg hx.1 (by omega)
    have hy1 : y ≤ 4294967295 * p2 s := by rw [hye]; exact Int.mul_le_mul_of_nonneg_right hx.2 (by omega)
    have hlow : (y % 4294967296) % p2 s = 0 := by
      have hdvd : p2 s ∣ (4294967296 : Int) := ⟨p2 (32 - s), hpp.symm⟩
      rw [Int.emod_emod_of_dvd _ hdvd, hye, Int.mul_emod_left]
    have hhi : y / 4294967296 < p2 s := by
      apply Int.ediv_lt_of_lt_mul (by omega); omega
    have hor := or32 (c := rd out ((i + w : Nat) : Int)) (y := y % 4294967296) (show s ≤ 32 by omega) ho.1 hc (by omega) (by omega) hlow
    have hsum : rd out ((i + w : Nat) : Int) + y % 4294967296 ≤ 4294967295 := by
      have h1 := Int.mul_ediv_add_emod (y % 4294967296) (p2 s)
      rw [hlow] at h1
      have h2 : (y % 4294967296) / p2 s < p2 (32 - s) := by
        apply Int.ediv_lt_of_lt_mul hp0; rw [Int.mul_comm, hpp]; omega
      have h3 := Int.mul_le_mul_of_nonneg_left (show (y % 4294967296) / p2 s + 1 ≤ p2 (32 - s) by omega) (show 0 ≤ p2 s by omega)
      rw [Int.mul_add, hpp] at h3
      omega
    simp only [psephosref01_shifted.l0]
    rw [if_pos (by omega), if_pos (by omega), if_pos (by omega), hn1 (), hn2 (), wadd2 (i := i) (w := w) (by omega), wsucc (i := i + w) (by omega), wsucc (i := i) (by omega), if_pos (by omega), if_pos (by omega), if_pos (by omega), if_pos (by omega), if_pos (by omega), ← hxe, wu (n := x) (by omega) (by omega), shl_u64 hx hs, ← hye, hor, Int.toNat_natCast, Int.toNat_natCast, Int.emod_eq_of_lt (a := y / 4294967296) (by omega) (by omega)]
    have l1 : ((out.set (i + w) (rd out ((i + w : Nat) : Int) + y % 4294967296)).set (i + w + 1) (y / 4294967296)).length = a.length + w + 1 := by rw [List.length_set, List.length_set]; exact hol
    have ei : i + 1 + w = i + w + 1 := by omega
    refine ih (i + 1) k _ (by omega) l1 ((hm.set _ ⟨by omega, hsum⟩).set _ (by omega)) ?_ ?_ ?_ (by omega)
    · rw [ei, rd_set_eq (by rw [List.length_set]; omega)]; exact hhi
    · intro j hj
      rw [rd_set_ne (by omega) (by omega), rd_set_ne (by omega) (by omega)]; exact hz j (by omega)
    · rw [ei, rd_set_eq (by rw [List.length_set]; omega), take_set_le (Nat.le_refl _), val_take_set (by omega), val_take_succ a, pw_succ, pw_add, ← hxe]
      have := rshift_step hv hye (show y = y % 4294967296 + 4294967296 * (y / 4294967296) by omega)
      rw [← this, Int.mul_assoc (pw i) 4294967296 (pw w), Int.mul_comm 4294967296 (pw w), ← Int.mul_assoc (pw i)]
theorem shifted_ev {a : List Int} (ha : Lm a) (hl : a.length < 68719476736) {n : Nat} (hn : n < 2199023255552) {k : Nat} (hk : 2 * a.length + n / 32 + 2 < k) : psephosref01_shifted.f k a (n : Int) = some (natL (val a * p2 n)) := by
  have c1 : a.length + n / 32 + 1 ≤ 70368744177664 := by omega
  have z : ∀ j : Int, rd (List.replicate (a.length + n / 32 + 1) (0 : Int)) j = 0 := by
    intro j
    by_cases h : j.toNat < (List.replicate (a.length + n / 32 + 1) (0 : Int)).length
    · rw [rd_getElem h]; simp
    · unfold Go.Proofs.Wk.rd; rw [List.getD_eq_getElem?_getD, List.getElem?_eq_none (by omega)]; rfl
  unfold psephosref01_shifted.f
  rw [idx_div n (by omega), wadd2 (i := a.length) (w := n / 32) (by omega), wsucc (by omega), if_pos (by omega), Int.toNat_natCast, if_pos c1, p2_split n]
  refine shifted_loop ha (show n % 32 ≤ 31 by omega) hl (show n / 32 < 68719476736 by omega) (fun _ => idx_div n (by omega)) (fun _ => idx_mod n) a.length 0 k _ (by omega) (by simp) (Lm.zeros _) ?_ (fun j _ => z j) ?_ (by omega)
  · rw [z]; exact p2_pos _
  · rw [z, take_zeros]; simp [val]

end Go.Proofs.Wk
/- What the reference's cmp comes to: «as» the program's compare. Conditions: lists of limbs, of fewer than 2^39 elements. -/
namespace Go.Proofs.Wk
open Go.RowKit
set_option linter.unusedSimpArgs false
set_option linter.unusedVariables false

theorem rcmp_l0 : ∀ (k : Nat) (a b : List Int) (i : Int), psephosref01_cmp.l0 k a b i = limb_compare.l0 k a b i := by
  intro k
  induction k with
  | zero => intro a b i; rfl
  | succ k ih => intro a b i; simp only [psephosref01_cmp.l0, limb_compare.l0, ih]
theorem rcmp_ev {a b : List Int} (ha : Fm a) (hb : Fm b) (hl : a.length < 549755813888) (hl' : b.length < 549755813888) {k : Nat} (hk : a.length < k) : psephosref01_cmp.f k a b = some (cmpS (val a) (val b)) := by
  rw [← compare_ev ha hb hl hl' hk]
  unfold psephosref01_cmp.f limb_compare.f
  rw [rcmp_l0]
  by_cases h1 : a.length < b.length
  · rw [if_neg (by omega), if_pos (by omega), if_pos (by omega)]
  · by_cases h2 : b.length < a.length
    · rw [if_neg (by omega), if_neg (by omega), if_neg (by omega), if_pos (by omega)]
    · rw [if_pos (by omega), if_neg (by omega), if_neg (by omega)]

end Go.Proofs.Wk
/- What divMod of the reference comes to: quotient and rest, bit by bit. Conditions: lists of limbs without noughts at the end, of fewer than 2^36 elements. -/
namespace Go.Proofs.Wk
open Go.RowKit
set_option linter.unusedSimpArgs false
set_option linter.unusedVariables false

theorem or32b {c y : Int} {s : Nat} (hs : s ≤ 32) (hc0 : 0 ≤ c) (hc : c < p2 s) (hy0 : 0 ≤ y) (hy : y ≤ 4294967295) (hd : y % p2 s = 0) : Go.bits .or .u32 y c = y + c := by
  obtain ⟨c', rfl⟩ := Int.eq_ofNat_of_zero_le hc0
  obtain ⟨y', rfl⟩ := Int.eq_ofNat_of_zero_le hy0
  rw [p2_nat] at hc hd
  have hc2 : c' < 2 ^ s := by omega
  have hd2 : y' % 2 ^ s = 0 := by
    have : ((y' % 2 ^ s : Nat) : Int) = 0 := by rw [Int.natCast_emod]; exact hd
    omega
  obtain ⟨t, rfl⟩ : ∃ t, y' = 2 ^ s * t := ⟨y' / 2 ^ s, by have := Nat.div_add_mod y' (2 ^ s); omega⟩
  have h32 : 2 ^ s ≤ 2 ^ 32 := Nat.pow_le_pow_right (by omega) hs
  rw [Go.u32_or_nat _ _ (by omega) (by omega), ← Nat.two_pow_add_eq_or_of_lt hc2]
  omega
theorem room32 {y : Int} {s : Nat} (hs : s ≤ 32) (hy : y ≤ 4294967295) (hd : y % p2 s = 0) : y + p2 s ≤ 4294967296 := by
  have hp0 := p2_pos s
  have hpp := p2_32 hs
  have e := Int.mul_ediv_add_emod y (p2 s)
  rw [hd] at e
  have h4 : y / p2 s < p2 (32 - s) := by
    apply Int.ediv_lt_of_lt_mul hp0; rw [Int.mul_comm, hpp]; omega
  have h5 := Int.mul_le_mul_of_nonneg_left (show y / p2 s + 1 ≤ p2 (32 - s) by omega) (show 0 ≤ p2 s by omega)
  rw [Int.mul_add, hpp] at h5; omega
theorem shl_one {s : Nat} (hs : s ≤ 31) : shl .u32 1 (s : Int) = p2 s := by
  unfold shl
  have h1 := p2_31 hs; have h2 := p2_pos s
  rw [show min ((s : Int)).toNat IntKind.u32.bits = s by simp [IntKind.bits]; omega, wu32, Int.one_mul]
  exact Int.emod_eq_of_lt (by unfold p2 at h2; omega) (by unfold p2 at h1; omega)
theorem val_set (xs : List Int) {j : Nat} (h : j < xs.length) (x : Int) : val (xs.set j x) = val xs + pw j * (x - rd xs (j : Int)) := by
  rw [rsplit (xs.set j x) (j + 1) (by rw [List.length_set]; omega), val_take_set h, List.drop_set_of_lt (by omega), rsplit xs (j + 1) (by omega), val_take_succ, Int.mul_sub]
  omega
/-- The bits below j are not set. -/
def Low (q : List Int) (j : Nat) : Prop := ∀ i : Nat, i < j → rd q ((i / 32 : Nat) : Int) % p2 (i % 32 + 1) = 0
theorem low_set {q : List Int} {i : Nat} (hl : i / 32 < q.length) (h : Low q (i + 1)) : Low (q.set (i / 32) (rd q ((i / 32 : Nat) : Int) + p2 (i % 32))) i := by
  intro j hj
  have hj1 := h j (by omega)
  by_cases e : j / 32 = i / 32
  · rw [e] at hj1 ⊢
    rw [rd_set_eq hl]
    obtain ⟨d, hd⟩ : ∃ d, i % 32 = (j % 32 + 1) + d := ⟨i % 32 - (j % 32 + 1), by omega⟩
    rw [hd, p2_add, Int.add_mul_emod_self_left]
    exact hj1
  · rw [rd_set_ne (by omega) (by omega)]; exact hj1
theorem natL_len_le {v : Int} {n : Nat} (h0 : 0 ≤ v) (h : v < pw n) : (natL v).length ≤ n := ((natL_fm v).len_le n).2 (by rw [val_natL h0]; exact h)
theorem step_up {A R b Q x P : Int} (hA : A = R + b * Q) (hx : x = b * P) : A = (R - x) + b * (Q + P) := by rw [hA, hx, Int.mul_add]; omega
/-- The bits of the quotient, from the top one down. -/
theorem dm_loop {A b : Int} (hA : 0 ≤ A) (hb : 0 < b) {L : Nat} (hL : L < 68719476736) : ∀ (j k : Nat) (q : List Int) (R X : Int), j ≤ 32 * q.length → q.length < 68719476736 → Lm q → Low q j → 0 ≤ R → R < b * p2 j → X = b * p2 j / 2 → R < pw L → X < pw L → A = R + b * val q → 3 * L + q.length + j + 20 < k →
    psephosref01_divMod.l0 k q (natL R) (natL X) ((j : Int) - 1) = some (natL (A / b), natL (A % b)) := by
  intro j
  induction j with
  | zero =>
    intro k q R X hj hql hq hlow hR0 hR1 hX hRL hXL hAe hk
    obtain ⟨k, rfl⟩ : ∃ m, k = m + 1 := ⟨k - 1, by omega⟩
    rw [show p2 0 = 1 by decide +kernel, Int.mul_one] at hR1
    simp only [psephosref01_divMod.l0]
    rw [if_neg (by omega), rtrim_ev (by omega) (by omega), trim_natL hq, Option.bind_some]
    have hd : A / b = val q := by
      rw [hAe, Int.add_mul_ediv_left _ _ (by omega), Int.ediv_eq_zero_of_lt hR0 hR1]; omega
    have hr : A % b = R := by
      rw [hAe, Int.add_mul_emod_self_left, Int.emod_eq_of_lt hR0 hR1]
    rw [hd, hr]
  | succ j ih =>
    intro k q R X hj hql hq hlow hR0 hR1 hX hRL hXL hAe hk
    obtain ⟨k, rfl⟩ : ∃ m, k = m + 1 := ⟨k - 1, by omega⟩
    have hp := p2_pos j
    have hX2 : X = b * p2 j := by
      rw [hX, p2_succ, Int.mul_left_comm]; omega
    have hX0 : 0 < X := by rw [hX2]; exact Int.mul_pos hb hp
    have hR2 : R < 2 * X := by
      rw [p2_succ, Int.mul_left_comm, ← hX2] at hR1; exact hR1
    have lR := natL_len_le hR0 hRL
    have lX := natL_len_le (show 0 ≤ X by omega) hXL
    have vR := val_natL hR0; have vX := val_natL (show 0 ≤ X by omega)
    have fR := natL_fm R; have fX := natL_fm X
    simp only [psephosref01_divMod.l0]
    rw [if_pos (by omega), rcmp_ev fR fX (by omega) (by omega) (by omega), vR, vX, Option.bind_some]
    by_cases h : X ≤ R
    · have hlen : (natL X).length ≤ (natL R).length := by
        apply (fX.len_le _).2; have := val_lt_pw fR.1; omega
      have hc : cmpS R X ≥ 0 := by unfold cmpS; rw [if_neg (by omega)]; split <;> omega
      have hs := hlow j (by omega)
      have ho := hq.rd (i := ((j / 32 : Nat) : Int))
      have hroom := room32 (s := j % 32 + 1) (by omega) ho.2 hs
      have hp1 := p2_pos (j % 32)
      have hps := p2_succ (j % 32)
      have hor := or32b (c := p2 (j % 32)) (y := rd q ((j / 32 : Nat) : Int)) (s := j % 32 + 1) (by omega) (by omega) (by omega) ho.1 ho.2 hs
      rw [if_pos hc, rsub_ev fR.1 fX.1 (by omega) hlen (by omega) (by omega), vR, vX, Option.bind_some, show (((j + 1 : Nat) : Int) - 1) = (j : Int) by omega, idx_div j (by omega), idx_mod j, if_pos (by omega), if_pos (by omega), if_pos (by omega), half_ev fX.1 (by omega) (by omega), vX, Option.bind_some, Int.toNat_natCast, shl_one (by omega), hor, wi64 (n := (j : Int) - 1) (by omega) (by omega)]
      refine ih k _ _ _ (by rw [List.length_set]; omega) (by rw [List.length_set]; exact hql) (hq.set _ (by omega)) (low_set (by omega) hlow) (by omega) (by omega) (by rw [hX2]) (by omega) (by omega) ?_ (by rw [List.length_set]; omega)
      rw [val_set q (by omega)]
      refine step_up hAe ?_
      rw [hX2, p2_split j]; congr 2; omega
    · have hc : ¬ cmpS R X ≥ 0 := by unfold cmpS; rw [if_pos (by omega)]; omega
      rw [if_neg hc, show (((j + 1 : Nat) : Int) - 1) = (j : Int) by omega, half_ev fX.1 (by omega) (by omega), vX, Option.bind_some, wi64 (n := (j : Int) - 1) (by omega) (by omega)]
      exact ih k _ _ _ (by omega) hql hq (fun i hi => hlow i (by omega)) hR0 (by omega) (by rw [hX2]) hRL (by omega) hAe (by omega)

theorem rd_zeros (n : Nat) (j : Int) : rd (List.replicate n (0 : Int)) j = 0 := by
  by_cases h : j.toNat < (List.replicate n (0 : Int)).length
  · rw [rd_getElem h]; simp
  · unfold Go.Proofs.Wk.rd; rw [List.getD_eq_getElem?_getD, List.getElem?_eq_none (by omega)]; rfl
theorem wsub2 {m n : Nat} (h : m < 4398046511104) (h' : n < 4398046511104) : wrap64 ((m : Int) - (n : Int)) = (m : Int) - (n : Int) := wi64 (by omega) (by omega)
theorem dm_small {A b : Int} {m n : Nat} (hA : A < p2 m) (hn : n = 0 ∨ p2 (n - 1) ≤ b) (hb : 0 < b) (hbn : b < p2 n) (h : m < n) : A < b := by
  rcases hn with h0 | h0
  · omega
  · have := p2_le (show m ≤ n - 1 by omega); omega
theorem dm_top {A b : Int} {m n : Nat} (hA : A < p2 m) (hn : n = 0 ∨ p2 (n - 1) ≤ b) (hb : 0 < b) (hbn : b < p2 n) (h : n ≤ m) : A < b * p2 (m - n + 1) := by
  rcases hn with h0 | h0
  · subst h0; rw [show p2 0 = 1 by decide +kernel] at hbn; omega
  · have h1 : 0 < n := by
      rcases Nat.eq_zero_or_pos n with h2 | h2
      · subst h2; rw [show p2 0 = 1 by decide +kernel] at hbn; omega
      · exact h2
    have e : p2 m = p2 (n - 1) * p2 (m - n + 1) := by rw [← p2_add]; congr 1; omega
    have := Int.mul_le_mul_of_nonneg_right h0 (show 0 ≤ p2 (m - n + 1) by have := p2_pos (m - n + 1); omega)
    omega
theorem rdivMod_ev {a b : List Int} (ha : Fm a) (hb : Fm b) (hb0 : b.length ≠ 0) (hla : a.length < 68719476) (hlb : b.length < 68719476) {k : Nat} (hk : 40 * a.length + 40 * b.length + 60 < k) : psephosref01_divMod.f k a b = some (natL (val a / val b), natL (val a % val b)) := by
  have A0 := val_nonneg ha.1
  have hbp : 0 < val b := by
    rcases b with _ | ⟨x, xs⟩
    · exact absurd rfl hb0
    · exact hb.pos
  obtain ⟨m, e1, e2, e3, e4⟩ := bits_ev ha.1 (by omega) (k := k) (by omega)
  obtain ⟨n, f1, f2, f3, f4⟩ := bits_ev hb.1 (by omega) (k := k) (by omega)
  unfold psephosref01_divMod.f
  rw [e1, Option.bind_some, f1, Option.bind_some, wsub2 (by omega) (by omega)]
  by_cases h : m < n
  · have hlt := dm_small e3 f4 hbp f3 h
    rw [if_pos (by omega), rtrim_ev (by omega) (by omega), trim_natL ha.1, Option.bind_some, Int.ediv_eq_zero_of_lt A0 hlt, Int.emod_eq_of_lt A0 hlt, natL_zero]
  · obtain ⟨d, hd⟩ : ∃ d, m = n + d := ⟨m - n, by omega⟩
    have ht := dm_top e3 f4 hbp f3 (by omega)
    rw [show m - n + 1 = d + 1 by omega] at ht
    have c1 : d / 32 + 1 ≤ 70368744177664 := by omega
    have hlen : (List.replicate (d / 32 + 1) (0 : Int)).length = d / 32 + 1 := List.length_replicate
    have hX : val b * p2 d < pw (b.length + (d / 32 + 1)) := by
      rw [pw_add]
      have h1 := val_lt_pw hb.1
      have h2 : p2 d ≤ pw (d / 32 + 1) := by rw [← p2_pw]; exact p2_le (by omega)
      have h3 := Int.mul_lt_mul_of_pos_right h1 (p2_pos d)
      have h4 := Int.mul_le_mul_of_nonneg_left h2 (show 0 ≤ pw b.length by have := pw_pos b.length; omega)
      omega
    have hA : val a < pw (a.length + b.length + 2) := by have := val_lt_pw ha.1; have := pw_le (show a.length ≤ a.length + b.length + 2 by omega); omega
    have hX' : val b * p2 d < pw (a.length + b.length + 2) := by have := pw_le (show b.length + (d / 32 + 1) ≤ a.length + b.length + 2 by omega); omega
    rw [if_neg (by omega), show ((m : Int) - (n : Int)) = (d : Int) by omega, idx_div d (by omega), wsucc (by omega), if_pos (by omega), Int.toNat_natCast, if_pos c1, rtrim_ev (by omega) (by omega), trim_natL ha.1, Option.bind_some, shifted_ev hb.1 (by omega) (by omega) (by omega), Option.bind_some]
    have fin := dm_loop A0 hbp (L := a.length + b.length + 2) (by omega) (d + 1) k (List.replicate (d / 32 + 1) 0) (val a) (val b * p2 d) (by omega) (by omega) (Lm.zeros _) (by intro i _; rw [rd_zeros]; simp) A0 ht (by rw [p2_succ, Int.mul_left_comm]; omega) hA hX' (by rw [val_zeros]; simp) (by omega)
    rw [show (((d + 1 : Nat) : Int) - 1) = (d : Int) by omega] at fin
    exact fin

end Go.Proofs.Wk
/- What the greatest common divisor of layer 1, and the reference's, come to. Conditions: lists of limbs, of fewer than 2^20 elements; «as» many rounds «as» are needed. -/
namespace Go.Proofs.Wk
open Go.RowKit
set_option linter.unusedSimpArgs false
set_option linter.unusedVariables false

/-- The greatest common divisor of two numbers. -/
def gcdI (x y : Int) : Int := ((Nat.gcd x.toNat y.toNat : Nat) : Int)
end Go.Proofs.Wk
/- What the reference's Add comes to. Conditions: lists of limbs, of fewer than 2^39 elements. -/
namespace Go.Proofs.Wk
open Go.RowKit
set_option linter.unusedSimpArgs false
set_option linter.unusedVariables false

end Go.Proofs.Wk
/- What the reference's mul and Mul come to: the product, or its error. Conditions: lists of limbs, of fewer than 2^38 elements. -/
namespace Go.Proofs.Wk
open Go.RowKit
set_option linter.unusedSimpArgs false
set_option linter.unusedVariables false

theorem rmul_step {P Q c x y o V U W s : Int} (h : V + P * Q * c = U + P * x * W) (hs : s = c + x * y + o) : V + P * Q * (s % 4294967296) + (P * Q * 4294967296) * (s / 4294967296) = U + P * Q * o + P * x * (W + Q * y) := by
  have := Int.emod_add_mul_ediv s 4294967296
  grind
theorem rmul_le {x y : Int} (hx : 0 ≤ x ∧ x ≤ 4294967295) (hy : 0 ≤ y ∧ y ≤ 4294967295) : 0 ≤ x * y ∧ x * y ≤ 18446744065119617025 := by
  have h1 := Int.mul_nonneg hx.1 hy.1
  have h2 := Int.mul_le_mul hx.2 hy.2 hy.1 (by omega : (0 : Int) ≤ 4294967295)
  omega

theorem rmul_inner {a b : List Int} (hb : Lm b) {x : Int} {i : Nat} (hxe : rd a (i : Int) = x) (hx : 0 ≤ x ∧ x ≤ 4294967295) (hlb : b.length < 274877906944) (hla : a.length < 274877906944) {n : Nat} (hin : i < n) (hn : n = a.length) {out0 : List Int} (hl0 : out0.length = n + b.length + 1) : ∀ (d j k : Nat) (out : List Int) (c : Int),
    j + d = b.length → out.length = n + b.length + 1 → Lm out → (∀ q : Int, ((i + j : Nat) : Int) ≤ q → rd out q = rd out0 q) → 0 ≤ c → c ≤ 4294967295 →
    val (out.take (i + j)) + pw i * pw j * c = val (out0.take (i + j)) + pw i * x * val (b.take j) → d < k →
    ∃ (k' : Nat) (out' : List Int), k ≤ k' + d + 1 ∧ k' < k ∧ out'.length = n + b.length + 1 ∧ Lm out' ∧ (∀ q : Int, ((i + b.length + 1 : Nat) : Int) ≤ q → rd out' q = rd out0 q) ∧ val (out'.take (i + b.length + 1)) = val (out0.take (i + b.length)) + pw i * x * val b ∧
      psephosref01_mul.l1 k a b out (i : Int) c (n : Int) (i : Int) (b.length : Int) (j : Int) = psephosref01_mul.l0 k' a b out' (n : Int) ((i + 1 : Nat) : Int) := by
  intro d
  induction d with
  | zero =>
    intro j k out c hj hol hm hsame hc0 hc1 hv hk
    obtain ⟨k, rfl⟩ : ∃ m, k = m + 1 := ⟨k - 1, by omega⟩
    obtain rfl : j = b.length := by omega
    refine ⟨k, out.set (i + b.length) c, by omega, by omega, by rw [List.length_set]; exact hol, hm.set _ ⟨hc0, hc1⟩, ?_, ?_, ?_⟩
    · intro q hq; rw [rd_set_ne (by omega) (by omega)]; exact hsame q (by omega)
    · rw [val_take_set (by omega), pw_add, hv, List.take_length]
    · simp only [psephosref01_mul.l1]
      rw [if_neg (by omega), wi64 (n := (i : Int) + (b.length : Int)) (by omega) (by omega), if_pos (by omega), if_pos (by omega), wsucc (by omega), Int.emod_eq_of_lt hc0 (by omega), show ((i : Int) + (b.length : Int)).toNat = i + b.length by omega]
  | succ d ih =>
    intro j k out c hj hol hm hsame hc0 hc1 hv hk
    obtain ⟨k, rfl⟩ : ∃ m, k = m + 1 := ⟨k - 1, by omega⟩
    have hy := hb.rd (i := (j : Int))
    have ho := hm.rd (i := ((i + j : Nat) : Int))
    have hxy := rmul_le hx hy
    generalize hp : x * rd b (j : Int) = p at hxy
    have e1 : ∀ s : Int, (out.set (i + j) (s % 4294967296)).length = n + b.length + 1 := fun s => by rw [List.length_set]; exact hol
    have e2 : ∀ s : Int, s = c + p + rd out ((i + j : Nat) : Int) → val ((out.set (i + j) (s % 4294967296)).take (i + (j + 1))) + pw i * pw (j + 1) * (s / 4294967296) = val (out0.take (i + (j + 1))) + pw i * x * val (b.take (j + 1)) := by
      intro s hs
      rw [show i + (j + 1) = i + j + 1 by omega, val_take_set (by omega), val_take_succ out0, val_take_succ b, pw_add, pw_succ, ← hsame _ (Int.le_refl _)]
      have := rmul_step hv (show s = c + x * rd b (j : Int) + rd out ((i + j : Nat) : Int) by omega)
      rw [show pw i * (pw j * 4294967296) = pw i * pw j * 4294967296 by grind]
      exact this
    have e3 : ∀ s : Int, ∀ q : Int, ((i + (j + 1) : Nat) : Int) ≤ q → rd (out.set (i + j) (s % 4294967296)) q = rd out0 q := by
      intro s q hq; rw [rd_set_ne (by omega) (by omega)]; exact hsame q (by omega)
    obtain ⟨k', out', g1, g2, g3, g4, g7, g5, g6⟩ := ih (j + 1) k (out.set (i + j) ((c + p + rd out ((i + j : Nat) : Int)) % 4294967296)) ((c + p + rd out ((i + j : Nat) : Int)) / 4294967296) (by omega) (e1 _) (hm.set _ (by omega)) (e3 _) (by omega) (by omega) (e2 _ rfl) (by omega)
    refine ⟨k', out', by omega, by omega, g3, g4, g7, g5, ?_⟩
    rw [← g6]
    simp only [psephosref01_mul.l1]
    rw [if_pos (by omega), wi64 (n := (i : Int) + (j : Int)) (by omega) (by omega), if_pos (by omega), if_pos (by omega), if_pos (by omega), if_pos (by omega), if_pos (by omega), if_pos (by omega), wsucc (by omega), show (i : Int) + (j : Int) = ((i + j : Nat) : Int) by omega, hxe, wu (n := x) (by omega) (by omega), wu (n := rd b (j : Int)) (by omega) (by omega), hp, wu (n := p) (by omega) (by omega), wu (n := rd out ((i + j : Nat) : Int)) (by omega) (by omega), wu (n := c + rd out ((i + j : Nat) : Int)) (by omega) (by omega), wu (by omega) (by omega), show (((i + j : Nat) : Int)).toNat = i + j by omega, show c + rd out ((i + j : Nat) : Int) + p = c + p + rd out ((i + j : Nat) : Int) by omega]
theorem rmul_outer {a b : List Int} (ha : Lm a) (hb : Lm b) (hlb : b.length < 274877906944) (hla : a.length < 274877906944) : ∀ (d i k : Nat) (out : List Int),
    i + d = a.length → out.length = a.length + b.length + 1 → Lm out → (∀ q : Int, ((a.length + b.length : Nat) : Int) ≤ q → rd out q = 0) → val (out.take (i + b.length)) = val (a.take i) * val b → (d + 1) * (b.length + 2) + a.length + b.length + 3 < k →
    psephosref01_mul.l0 k a b out (a.length : Int) (i : Int) = some (natL (val a * val b)) := by
  intro d
  induction d with
  | zero =>
    intro i k out hi hol hm hz hv hk
    obtain ⟨k, rfl⟩ : ∃ m, k = m + 1 := ⟨k - 1, by omega⟩
    obtain rfl : i = a.length := by omega
    simp only [psephosref01_mul.l0]
    rw [if_neg (by omega), rtrim_ev (by omega) (by omega), trim_natL hm]; simp only [Option.bind_some]
    have e := val_take_succ out (a.length + b.length)
    rw [hz _ (Int.le_refl _), List.take_of_length_le (by omega), hv, List.take_length] at e
    rw [e]; simp
  | succ d ih =>
    intro i k out hi hol hm hz hv hk
    obtain ⟨k, rfl⟩ : ∃ m, k = m + 1 := ⟨k - 1, by omega⟩
    have hx := ha.rd (i := (i : Int))
    have hmul : (d + 1 + 1) * (b.length + 2) = (d + 1) * (b.length + 2) + (b.length + 2) := by rw [Nat.add_mul]; omega
    obtain ⟨k', out', g1, g2, g3, g4, g7, g5, g6⟩ := rmul_inner (a := a) hb rfl hx hlb hla (n := a.length) (by omega) rfl (out0 := out) hol b.length 0 k out 0 (by omega) hol hm (fun _ _ => rfl) (by omega) (by omega) (by simp [val]) (by omega)
    simp only [psephosref01_mul.l0]
    rw [if_pos (by omega)]
    have g6' : psephosref01_mul.l1 k a b out (i : Int) 0 (a.length : Int) (i : Int) (b.length : Int) 0 = psephosref01_mul.l0 k' a b out' (a.length : Int) ((i + 1 : Nat) : Int) := g6
    rw [g6']
    refine ih (i + 1) k' out' (by omega) g3 g4 ?_ ?_ (by omega)
    · intro q hq; rw [g7 q (by omega)]; exact hz q hq
    · rw [show i + 1 + b.length = i + b.length + 1 by omega, g5, hv, val_take_succ]
      grind
theorem rmul_ev {a b : List Int} (ha : Lm a) (hb : Lm b) (hal : a.length < 274877906944) (hbl : b.length < 274877906944) {k : Nat} (hk : (a.length + 1) * (b.length + 2) + a.length + b.length + 10 < k) : psephosref01_mul.f k a b = some (natL (val a * val b)) := by
  unfold psephosref01_mul.f
  rw [wi64 (n := (a.length : Int) + (b.length : Int)) (by omega) (by omega), wi64 (n := (a.length : Int) + (b.length : Int) + 1) (by omega) (by omega), if_pos (by omega), if_pos (by omega), show ((a.length : Int) + (b.length : Int) + 1).toNat = a.length + b.length + 1 by omega]
  refine rmul_outer ha hb hbl hal a.length 0 k (List.replicate (a.length + b.length + 1) 0) (by omega) (by simp) (Lm.zeros _) ?_ (by rw [take_zeros]; simp [val]) (by omega)
  intro q hq
  by_cases h : q.toNat < a.length + b.length + 1
  · rw [rd_getElem (by simpa using h)]; simp
  · exact rd_past (by simp; omega)

end Go.Proofs.Wk
/- What Same of the reference comes to. Conditions stand with it. -/
namespace Go.Proofs.Wk
open Go.RowKit
set_option linter.unusedSimpArgs false
set_option linter.unusedVariables false

end Go.Proofs.Wk
/- What layer 2 forms, at the level of numbers. -/
namespace Go.Proofs.Wk
open Go.RowKit
set_option linter.unusedSimpArgs false
set_option linter.unusedVariables false
theorem fmB_natL' {g : Int} (h0 : 0 ≤ g) (h : g < pw 400) : fmB (natL g) = true := fmB_natL (natL_len_le h0 h)
def formedR (a b : List Int) : Bool := fmB a && (fmB b && (decide (0 < b.length) && decide (gcdI (val a) (val b) = 1)))
end Go.Proofs.Wk
/- Rules: structs of numbers are compared. -/
namespace Go.Proofs.Wk
open Go.RowKit
set_option linter.unusedVariables false
set_option linter.unusedSimpArgs false
def intTy (P : Program) (u : TypeId) : Bool := match P.underlying u with | some (.int _) => true | _ => false
def int2B (P : Program) (t : TypeId) : Bool := match P.underlying t with
  | some (.struct fs) => match fs.toList with
    | [f, g] => intTy P f.type && intTy P g.type && Nat.beq f.offset 0 && Nat.beq g.offset 1 && f.name != "_" && g.name != "_" && !P.stoodInHeld t && !P.eqGuardType P.depth t
    | _ => false
  | _ => false
section
variable {P : Program} {w0 : World} {M O : Nat → Prop} {n : Nat} {K : Slots} {L : List Blk} {G : List (World → Prop)} {Q : Exit → Act → World → Prop} {ops : Array Oper} {rest : List Oper} {w : World} {a : Act} {X : Act → World → Prop}
  {d : Nat} {ty : TypeId} {pos : String} {af : Array Edge} {gd : Option (Nat × Bool)} {N : Act → World → Prop} {S : World → Prop} {α : Type} {D : Nat → Prop} {fuel : Nat} {l : Array Bool}
theorem part_int {u : TypeId} {cs : Array Value} {i : Nat} {v : Value} (hu : intTy P u = true) (hi : cs[i]? = some v) (w : World) : (part u cs i).run P w = .ok v w := by
  unfold intTy at hu
  split at hu
  · rename_i k e
    simp [part, isAgg, underlying, e, hi]
  · cases hu
theorem equal_int {u : TypeId} {k k' : IntKind} {a b : Int} (hu : intTy P u = true) (m : Nat) (w : World) : (Op.equalIn (m + 1) u (.int k a) (.int k b)).run P w = .ok (decide (a = b)) w := by
  unfold intTy at hu
  split at hu
  · rename_i k e
    rw [run_equalIn_int w m u _ k a b e]; rfl
  · cases hu
theorem eq2_run {t : TypeId} {k0 k1 : IntKind} {a b c d : Int} (h : int2B P t = true) (w : World) : (Op.equalIn 10000 t (.agg #[.int k0 a, .int k1 b]) (.agg #[.int k0 c, .int k1 d])).run P w = .ok (decide (a = c ∧ b = d)) w := by
  unfold int2B at h
  split at h
  · rename_i fs e
    split at h
    · rename_i f g e2
      simp only [Bool.and_eq_true, bne_iff_ne, ne_eq, Bool.not_eq_true', Nat.beq_eq_true_eq] at h
      obtain ⟨⟨⟨⟨⟨⟨⟨h1, h2⟩, h3⟩, h4⟩, h5⟩, h6⟩, h7⟩, h8⟩ := h
      have h3 := Nat.eq_of_beq_eq_true h3
      have h4 := Nat.eq_of_beq_eq_true h4
      have ef : P.fieldsOf t = fs := by unfold Program.fieldsOf; rw [e]
      rw [run_equalIn_struct w 9999 t _ _ (by rw [ef]; exact e) h7, ef, e2]
      have p1 := part_int (P := P) (v := .int k0 a) (cs := #[.int k0 a, .int k1 b]) (i := 0) h1 rfl
      have p2 := part_int (P := P) (v := .int k0 c) (cs := #[.int k0 c, .int k1 d]) (i := 0) h1 rfl
      have p3 := part_int (P := P) (v := .int k1 b) (cs := #[.int k0 a, .int k1 b]) (i := 1) h2 rfl
      have p4 := part_int (P := P) (v := .int k1 d) (cs := #[.int k0 c, .int k1 d]) (i := 1) h2 rfl
      have q1 : ∀ w, (Op.equalIn 9999 f.type (.int k0 a) (.int k0 c)).run P w = .ok (decide (a = c)) w := fun w => equal_int (P := P) (k := k0) (k' := k0) (a := a) (b := c) h1 9998 w
      have q2 : ∀ w, (Op.equalIn 9999 g.type (.int k1 b) (.int k1 d)).run P w = .ok (decide (b = d)) w := fun w => equal_int (P := P) (k := k1) (k' := k1) (a := b) (b := d) h2 9998 w
      by_cases e1 : a = c
      · subst e1
        by_cases e2 : b = d
        · subst e2; simp [Op.eqFields, h5, h6, h3, h4, p1, p2, p3, p4, q1, q2]
        · simp [Op.eqFields, h5, h6, h3, h4, p1, p2, p3, p4, q1, q2, e2]
      · simp [Op.eqFields, h5, h6, h3, h4, p1, p2, p3, p4, q1, q2, e1]
    · cases h
  · cases h
theorem guard2 {t : TypeId} (h : int2B P t = true) : P.eqGuardType P.depth t = false := by
  unfold int2B at h
  split at h
  · split at h
    · simp only [Bool.and_eq_true, bne_iff_ne, ne_eq, Bool.not_eq_true', Nat.beq_eq_true_eq] at h
      exact h.2
    · cases h
  · cases h
theorem neq2_exec {x y : Operand} {t t' : TypeId} {k0 k1 : IntKind} {u v u' v' : Int} (hx : ev K x = some (.agg #[.int k0 u, .int k1 v])) (hy : ev K y = some (.agg #[.int k0 u', .int k1 v'])) (ht : int2B P t = true) (ha : Sat n K a) {dd : Option Tmp} :
    (execOp a.eval ⟨dd, .binOp .neq t x y t', ty, pos, af, gd⟩).run P w = .ok (.value (.bool (!decide (u = u' ∧ v = v')))) w := by
  have h1 := run_eqGuard_agg (P := P) w .neq t x y #[.int k0 u, .int k1 v] #[.int k0 u', .int k1 v'] (guard2 ht)
  have h2 := run_neq_struct (P := P) w t #[.int k0 u, .int k1 v] #[.int k0 u', .int k1 v']
  rw [eq2_run ht] at h2
  simp only [execOp, ha.eval hx, ha.eval hy, Sem.run_bind, h1, h2, Result.andThen_ok, Sem.run_pure, map_eq_pure_bind]
theorem Pw.takeNeq2 {x y : Operand} {t t' : TypeId} {k0 k1 : IntKind} {u v u' v' : Int} (i : Nat) (l' : Array Bool) (ho : ops[i]? = some ⟨some d, .binOp .neq t x y t', ty, pos, af, gd⟩) (hx : ev K x = some (.agg #[.int k0 u, .int k1 v])) (hy : ev K y = some (.agg #[.int k0 u', .int k1 v'])) (ht : int2B P t = true)
    (hw : wantB K ops gd = some true) (hn : Nat.blt d n = true) (hc : takeB ops l i l' = true) (hQ : NoPan Q) (hS : ∀ w, St w0 M O L G w → S w)
    (h : Pw w0 M O n ((d, .bool (!decide (u = u' ∧ v = v'))) :: K) L G (wpAnyH P .any ops Q S fuel l')) : Pw w0 M O n K L G (wpAnyH P .any ops Q S (fuel + 1) l) :=
  Pw.take i l' ho rfl hn hw hc hQ hS (fun a w ha _ => neq2_exec hx hy ht ha) h
end
end Go.Proofs.Wk
/- Rules: appending what may be nothing; elements of one cell in a drawn region. -/
namespace Go.Proofs.Wk
open Go.RowKit
set_option linter.unusedVariables false
set_option linter.unusedSimpArgs false
section
variable {P : Program} {w0 : World} {M O : Nat → Prop} {n : Nat} {K : Slots} {L : List Blk} {G : List (World → Prop)} {Q : Exit → Act → World → Prop} {ops : Array Oper} {rest : List Oper} {w : World} {a : Act} {X : Act → World → Prop}
  {d : Nat} {ty : TypeId} {pos : String} {af : Array Edge} {gd : Option (Nat × Bool)} {N : Act → World → Prop} {S : World → Prop} {α : Type} {D : Nat → Prop} {fuel : Nat} {l : Array Bool}
theorem Pw.pushG {s : Gr} {m : Nat} {cells news : List Value} {L0 : List Blk} {x y : Operand} {t e : TypeId} {i : TypeInfo} {z : Value} {B : Option Addr} {k c : Nat} (hsv : ev K x = some (gv s m)) (hy : ev K y = some (.slice B k c)) (ht : P.underlying t = some (.slice e)) (hi : P.info? e = some i) (hz : i.zero = some z) (hzs : z.cells.size = i.size) (hL : L = gL s cells e ++ L0)
    (hok : gOk s cells m i.size) (hl : news.length = k * i.size) (hone : ∀ u ∈ news, u.oneCell' = true) (hnews : ∀ w, St w0 M O L G w → ∀ j u, news[j]? = some u → ∃ b, B = some b ∧ w.cell? (b.add j) = some u) (h0 : 0 < i.size) (hm : m + k ≤ maxLen) (hb : (m + k) * i.bytes ≤ 140737488355328) (hw : wantB K ops gd = some true) (hn : Nat.blt d n = true)
    (h : ∀ s', gOk s' (cells ++ news) (m + k) i.size → Pw w0 M O n ((d, gv s' (m + k)) :: K) (gL s' (cells ++ news) e ++ L0) G N) :
    Pw w0 M O n K L G (OpG P ops ⟨some d, .call ⟨.builtin .append, #[x, y], #[t, t]⟩, ty, pos, af, gd⟩ N Q) := fun a w ha hs => by
  by_cases hk : k = 0
  · subst hk
    have hn0 : news = [] := List.eq_nil_of_length_eq_zero (by simpa using hl)
    subst hn0
    subst hL
    have hf : (Builtin.firstCells i.size 0 (.slice B 0 c)).run P w = .ok #[] w := by
      cases B <;> simp [Builtin.firstCells, loadCells, loadCellsFrom]
    refine Pw.stepE (K := K) (L := gL s cells e ++ L0) (G := G) (w0 := w0) (M := M) (O := O) (o := ⟨some d, .call ⟨.builtin .append, #[x, y], #[t, t]⟩, ty, pos, af, gd⟩) hw rfl hn (fun a w ha hs => ?_) a w ha hs
    have h := h s (by simpa using hok)
    refine ⟨gv s m, gL s cells e ++ L0, G, w, ?_, hs, by simpa using h⟩
    have hf : (Builtin.firstCells i.size 0 (.slice B 0 c)).run P w = .ok #[] w := by
      cases B <;> simp [Builtin.firstCells, loadCells, loadCellsFrom]
    obtain _ | ⟨g, cap, ex⟩ := s
    · obtain ⟨rfl, rfl⟩ := hok
      have h2 : (Builtin.append_ #[t, t] ty #[.slice none 0 0, .slice B 0 c]).run P w = .ok (.slice none 0 0) w := by
        simp [Builtin.append_, underlying, ht, sizeOf, typeInfo, hi, Builtin.lenOf, hf, storeCells]
      simp [execOp, resolve, invoke, builtin, ha.eval hsv, ha.eval hy, gv, h2]
    · have h2 : (Builtin.append_ #[t, t] ty #[.slice (some ⟨g, 0, none⟩) m cap, .slice B 0 c]).run P w = .ok (.slice (some ⟨g, 0, none⟩) m cap) w := by
        simp [Builtin.append_, underlying, ht, sizeOf, typeInfo, hi, Builtin.lenOf, hf, storeCells, hok.2.1]
      simp [execOp, resolve, invoke, builtin, ha.eval hsv, ha.eval hy, gv, h2]
  · have hlen : 0 < news.length := by rw [hl]; exact Nat.mul_pos (by omega) h0
    obtain ⟨b, rfl, _⟩ := hnews w hs 0 news[0] (List.getElem?_eq_getElem hlen)
    refine Pw.push hsv hy ht hi hz hzs hL hok hl hone (fun w hs j u hu => ?_) (by omega) hm hb hw hn h a w ha hs
    obtain ⟨b', e, hc⟩ := hnews w hs j u hu
    cases e; exact hc
theorem Pw.takeLC {x : Operand} {ad : Addr} {u : TypeId} {sz sz' : Nat} {j : Int} {enc : α → List Value} {held : α → World → Prop} {rs : List α} {c : Nat} {G0 : List (World → Prop)} (y : α) {v : Value} (i : Nat) (l' : Array Bool) (ho : ops[i]? = some ⟨some d, .load u x, ty, pos, af, gd⟩) (hx : ev K x = some (.pointer (some (ad.add (j.toNat * sz))))) (hr : RowsAt G0 (some ad) α enc held sz' rs c) (hsz : sz = sz') (hi : rs[j.toNat]? = some y) (hv : (enc y)[0]? = some v) (hu : plainB P u = true)
    (hw : wantB K ops gd = some true) (hn : Nat.blt d n = true) (hc : takeB ops l i l' = true) (hQ : NoPan Q) (hS : ∀ w, St w0 M O L G w → All G0 w)
    (h : Pw w0 M O n ((d, v) :: K) L G (wpAnyH P .any ops Q (All G0) fuel l')) : Pw w0 M O n K L G (wpAnyH P .any ops Q (All G0) (fuel + 1) l) := by
  subst hsz
  exact Pw.take i l' ho rfl hn hw hc hQ hS (fun a w ha hS' => load1_run hx ha hu (((hr.h w hS').at hi).2.2 0 v hv)) h
/-- Rows' cells, whether or not there are any. -/
theorem Rows.toCellsE {α : Type} {enc : α → List Value} {held : α → World → Prop} {sz : Nat} {l : List α} {A : Option Addr} {c : Nat} {W : World} (h : Rows (RR enc held) sz l A c W) (h0 : 0 < sz) : ∀ j u, (l.flatMap enc)[j]? = some u → ∃ b, A = some b ∧ W.cell? (b.add j) = some u := by
  intro j u hu
  rcases l with _ | ⟨y, r⟩
  · simp at hu
  · have := h.has (i := 0) (by omega) (by simp only [List.length_cons]; omega)
    obtain ⟨ad, rfl⟩ := Option.isSome_iff_exists.1 this
    exact ⟨ad, rfl, h.toCells h0 j u hu⟩
end
end Go.Proofs.Wk
/- Rules: structs within structs of a row; a literal of an element of four cells. -/
namespace Go.Proofs.Wk
open Go.RowKit
set_option linter.unusedVariables false
set_option linter.unusedSimpArgs false
section
variable {P : Program} {w0 : World} {M O : Nat → Prop} {n : Nat} {K : Slots} {L : List Blk} {G : List (World → Prop)} {Q : Exit → Act → World → Prop} {ops : Array Oper} {rest : List Oper} {w : World} {a : Act} {X : Act → World → Prop}
  {d : Nat} {ty : TypeId} {pos : String} {af : Array Edge} {gd : Option (Nat × Bool)} {N : Act → World → Prop} {S : World → Prop} {α : Type} {D : Nat → Prop} {fuel : Nat} {l : Array Bool}
/-- A field of a field. -/
theorem Pw.loadFF {x : Operand} {ad : Addr} {u : TypeId} {sz sz' o o' : Nat} {i : Int} {enc : α → List Value} {held : α → World → Prop} {l : List α} {c : Nat} (y : α) {v : Value} (hx : ev K x = some (.pointer (some (((ad.add (i.toNat * sz)).add o).add o')))) (hr : RowsAt G (some ad) α enc held sz' l c) (hsz : sz = sz') (hi : l[i.toNat]? = some y) (hv : (enc y)[o + o']? = some v) (hu : plainB P u = true)
    (hw : wantB K ops gd = some true) (hn : Nat.blt d n = true) (h : Pw w0 M O n ((d, v) :: K) L (held y :: G) N) : Pw w0 M O n K L G (OpG P ops ⟨some d, .load u x, ty, pos, af, gd⟩ N Q) :=
  Pw.loadF y (by rw [hx, add_add (ad.add _)]) hr hsz hi hv hu hw hn h
theorem build14_run {t e : TypeId} {v a1 a2 a3 a4 z1 z2 z3 z4 : Value} {f : TypeInfo} {z : Value} (ht : P.underlying t = some (.slice e)) (hf : P.info? e = some f) (h1 : f.size = 4) (hz : f.zero = some z) (hzc : z.cells = #[z1, z2, z3, z4]) (hv : v.cells = #[a1, a2, a3, a4]) (w : World) :
    (Instr.buildSlice t 1 #[(0, v)]).run P w = .ok (.slice (some ⟨w.heap.size, 0, none⟩) 1 1) (w.alloc (row [a1, a2, a3, a4] e)) := by
  simp [Instr.buildSlice, underlying, ht, sizeOf, typeInfo, hf, h1, zeroValue, hz, hzc, Instr.fill, hv, newRow, show Array.range 4 = #[0, 1, 2, 3] by decide]
theorem Pw.lit14 {t e : TypeId} {x : Operand} {v a1 a2 a3 a4 z1 z2 z3 z4 : Value} {f : TypeInfo} {z : Value} (hx : ev K x = some v) (ht : P.underlying t = some (.slice e)) (hf : P.info? e = some f) (h1 : f.size = 4) (hz : f.zero = some z) (hzc : z.cells = #[z1, z2, z3, z4]) (hv : v.cells = #[a1, a2, a3, a4]) (hw : wantB K ops gd = some true) (hn : Nat.blt d n = true)
    (h : ∀ g, Pw w0 M O n ((d, .slice (some ⟨g, 0, none⟩) 1 1) :: K) (⟨g, row [a1, a2, a3, a4] e⟩ :: L) G N) : Pw w0 M O n K L G (OpG P ops ⟨some d, .buildSlice t 1 #[(0, x)], ty, pos, af, gd⟩ N Q) :=
  Pw.stepE hw rfl hn fun a w ha hs => ⟨_, _, _, _, by have := build14_run (P := P) ht hf h1 hz hzc hv w; simp [execOp, ha.eval hx, this], hs.new _, h _⟩
end
end Go.Proofs.Wk
/- Rules: maps: an entry set anew; lookups that tell whether there is one; maps that are facts. -/
namespace Go.Proofs.Wk
open Go.RowKit
set_option linter.unusedVariables false
set_option linter.unusedSimpArgs false
section
variable {P : Program} {w0 : World} {M O : Nat → Prop} {n : Nat} {K : Slots} {L : List Blk} {G : List (World → Prop)} {Q : Exit → Act → World → Prop} {ops : Array Oper} {rest : List Oper} {w : World} {a : Act} {X : Act → World → Prop}
  {d : Nat} {ty : TypeId} {pos : String} {af : Array Edge} {gd : Option (Nat × Bool)} {N : Act → World → Prop} {S : World → Prop} {α : Type} {D : Nat → Prop} {fuel : Nat} {l : Array Bool}
theorem Pw.lookupF {t kt et : TypeId} {x ix : Operand} {g : Nat} {k : Int} {m : List (Int × Value)} {i : TypeInfo} {z : Value} (hx : ev K x = some (.map (some g))) (hix : ev K ix = some (.int .i64 k)) (ht : P.underlying t = some (.map kt et)) (hk : P.underlying kt = some (.int .i64)) (hi : P.info? et = some i) (hz : i.zero = some z) (hm : ∀ w, St w0 M O L G w → w.heap[g]? = some (mapO m))
    (hw : wantB K ops gd = some true) (hn : Nat.blt d n = true) (h : Pw w0 M O n ((d, mval k m z) :: K) L G N) : Pw w0 M O n K L G (OpG P ops ⟨some d, .lookup t x ix false, ty, pos, af, gd⟩ N Q) :=
  Pw.stepE hw rfl hn fun a w ha hs => ⟨_, _, _, w, by simp [execOp, ha.eval hx, ha.eval hix, lookup_run ht hk hi hz (hm w hs)], hs, h⟩
end
end Go.Proofs.Wk
/- Rules: rows of structs of one's own: an element loaded, an element stored, at any place. -/
namespace Go.Proofs.Wk
open Go.RowKit
set_option linter.unusedVariables false
set_option linter.unusedSimpArgs false
section
variable {P : Program} {w0 : World} {M O : Nat → Prop} {n : Nat} {K : Slots} {L : List Blk} {G : List (World → Prop)} {Q : Exit → Act → World → Prop} {ops : Array Oper} {rest : List Oper} {w : World} {a : Act} {X : Act → World → Prop}
  {d : Nat} {ty : TypeId} {pos : String} {af : Array Edge} {gd : Option (Nat × Bool)} {N : Act → World → Prop} {S : World → Prop} {α : Type} {D : Nat → Prop} {fuel : Nat} {l : Array Bool}
end
end Go.Proofs.Wk
/- Rules: a drawn region that reads a block of one's own. -/
namespace Go.Proofs.Wk
open Go.RowKit
set_option linter.unusedVariables false
set_option linter.unusedSimpArgs false
class SufO (L : List Blk) (G G0 : List (World → Prop)) : Prop where
  h : ∀ w, (∀ b ∈ L, w.heap[b.g]? = some b.o) → All G w → All G0 w
instance (priority := low) {L : List Blk} {G G0 : List (World → Prop)} [i : Suf G G0] : SufO L G G0 := ⟨fun w _ h => i.h w h⟩
instance {L : List Blk} {G G0 : List (World → Prop)} {g : Nat} {cs : List Value} {t : TypeId} [i : OwnB L g cs t] [j : SufO L G G0] : SufO L G ((fun W => W.heap[g]? = some (.cells cs.toArray t (0, 0))) :: G0) := ⟨fun w hL h => allCons (hL _ i.h) (j.h w hL h)⟩
theorem so {w0 : World} {M O : Nat → Prop} {L : List Blk} {G G0 : List (World → Prop)} [i : SufO L G G0] : ∀ w, St w0 M O L G w → All G0 w := fun w h => i.h w h.own h.all
section
variable {P : Program} {w0 : World} {M O : Nat → Prop} {n : Nat} {K : Slots} {L : List Blk} {G : List (World → Prop)} {Q : Exit → Act → World → Prop}
theorem Pw.drawnH {g : Nat} {cs : List Value} {t : TypeId} {id : Nat} {l : List Oper} {sz : Nat} {bs : Array Bool} (hb : OwnB L g cs t) (hm : P.follows .mixedOrders = true) (hsz : l.toArray.size = sz) (hbs : Array.replicate sz false = bs) (h : Pw w0 M O n K L G (wpAnyH P .any l.toArray Q (All ((fun W => W.heap[g]? = some (.cells cs.toArray t (0, 0))) :: G)) sz bs)) :
    Pw w0 M O n K L G ((Code.region id l.toArray true).wp P Q) := Pw.drawn (All ((fun W => W.heap[g]? = some (.cells cs.toArray t (0, 0))) :: G)) hm hsz hbs h
/-- Ways that meet again, whatever comes behind. -/
theorem Pw.joinQ {σ : Type} (J : σ → Prop) (I : σ → Hd) {c : Code} (h1 : Pw w0 M O n K L G (c.wp P (Exit.then (Arr J I w0 M O n) (fun _ _ _ => False)))) (h2 : ∀ s, J s → Pw w0 M O n (I s).K (I s).L (I s).G (Q .normal)) : Pw w0 M O n K L G (c.wp P Q) := fun a w ha hs =>
  Code.wp_mono (fun e a w h => by
    cases e with
    | normal => obtain ⟨s, hJ, h3, h4⟩ := h; exact h2 s hJ a w h3 h4
    | _ => exact h.elim) (h1 a w ha hs)
end
instance npFalse : NPan (fun _ _ _ => False) := ⟨fun _ _ _ _ _ h => h⟩
end Go.Proofs.Wk
/- Contracts of functions that are handed blocks, turn them, and hand blocks back. -/
namespace Go.Proofs.Wk
open Go.RowKit
set_option linter.unusedVariables false
set_option linter.unusedSimpArgs false
def Gs (B : List Blk) (b : Nat) : Prop := ∃ y ∈ B, y.g = b
section
variable {P : Program} {w0 : World} {M O : Nat → Prop} {n : Nat} {K : Slots} {L : List Blk} {G : List (World → Prop)} {Q : Exit → Act → World → Prop} {ops : Array Oper} {w : World} {a : Act}
  {d : Nat} {ty : TypeId} {pos : String} {af : Array Edge} {gd : Option (Nat × Bool)} {N : Act → World → Prop} {α : Type} {D : Nat → Prop}
def CtPB (D : Nat → Prop) (w : World) (B : List Blk) (r : α → Value) (p : α → Prop) (bl : α → List Blk) (Ψ : α → World → Prop) (e : Ending) (w' : World) : Prop :=
  ∃ x, e = .returned (r x) ∧ p x ∧ Keep (Gs B) w w' ∧ (∀ b ∈ bl x, (w.heap.size ≤ b.g ∨ Gs B b.g) ∧ w'.heap[b.g]? = some b.o) ∧ (bl x).Pairwise (fun x y => x.g ≠ y.g) ∧ Cls (fun b => D b ∨ Gs (bl x) b) w' (Ψ x)
/-- B: the blocks handed in; bl: those handed back, turned or new. -/
def CtB (P : Program) (f : FuncId) (args : Array Value) (B : List Blk) (pre : World → Prop) (r : α → Value) (p : α → Prop) (bl : α → List Blk) (Ψ : α → World → Prop) : Prop :=
  ∀ D w, (∀ b, D b → b < w.heap.size) → (∀ b ∈ B, w.heap[b.g]? = some b.o) → B.Pairwise (fun x y => x.g ≠ y.g) → (∀ b ∈ B, ¬ D b.g) → Cls (fun b => D b ∨ Gs B b) w pre → Calls P f args w (CtPB D w B r p bl Ψ)
theorem St.gotB {B L0 : List Blk} (h : St w0 M O (B ++ L0) G w) {w' : World} (k : Keep (Gs B) w w') {C : List Blk} {φ : World → Prop} (hC : ∀ b ∈ C, (w.heap.size ≤ b.g ∨ Gs B b.g) ∧ w'.heap[b.g]? = some b.o) (hnd : C.Pairwise (fun x y => x.g ≠ y.g)) (hφ : Cls (fun b => Dt O L0 b ∨ Gs C b) w' φ) : St w0 M O (C ++ L0) (φ :: G) w' := by
  have hap := List.pairwise_append.1 h.nd
  have hL0 : ∀ y ∈ L0, ¬ Gs B y.g := fun y hy ⟨x, hx, e⟩ => hap.2.2 x hx y hy e
  have hBm : ∀ {x}, x ∈ B → x ∈ B ++ L0 := fun hx => List.mem_append_left _ hx
  have hLm : ∀ {x}, x ∈ L0 → x ∈ B ++ L0 := fun hx => List.mem_append_right _ hx
  have hBO : ∀ b, Gs B b → ¬ O b := fun b ⟨x, hx, e⟩ => e ▸ h.nob x (hBm hx)
  refine ⟨⟨k.os.trans h.keep.os, k.tape.trans h.keep.tape, k.output.trans h.keep.output, Nat.le_trans h.keep.size k.size, fun b hb hM => ?_, Nat.le_trans h.keep.drawn k.drawn⟩, ?_, ?_, ?_, ?_, h.ob, ?_⟩
  · rw [k.block b (Nat.lt_of_lt_of_le hb h.keep.size) ?_, h.keep.block b hb hM]
    rintro ⟨x, hx, rfl⟩
    rcases h.base x (hBm hx) with e | e
    · omega
    · exact hM e
  · intro b hb
    rcases List.mem_append.1 hb with hb | hb
    · exact (hC b hb).2
    · rw [k.block b.g (own_lt (h.own b (hLm hb))) (hL0 b hb)]; exact h.own b (hLm hb)
  · refine List.pairwise_append.2 ⟨hnd, hap.2.1, fun x hx y hy e => ?_⟩
    rcases (hC x hx).1 with h1 | ⟨z, hz, ez⟩
    · have h2 := own_lt (h.own y (hLm hy)); omega
    · exact hap.2.2 z hz y hy (ez.trans e)
  · intro b hb
    rcases List.mem_append.1 hb with hb | hb
    · rcases (hC b hb).1 with h1 | ⟨z, hz, ez⟩
      · exact .inl (Nat.le_trans h.keep.size h1)
      · rw [← ez]; exact h.base z (hBm hz)
    · exact h.base b (hLm hb)
  · intro b hb
    rcases List.mem_append.1 hb with hb | hb
    · rcases (hC b hb).1 with h1 | h1
      · intro e; have h2 := h.ob _ e; have h3 := h.keep.size; omega
      · exact hBO _ h1
    · exact h.nob b (hLm hb)
  · intro ψ hψ
    rcases List.mem_cons.1 hψ with rfl | hψ
    · refine hφ.mono fun b _ e => ?_
      rcases e with e | ⟨x, hx, rfl⟩
      · exact .inl (.inl e)
      · rcases List.mem_append.1 hx with hx | hx
        · exact .inr ⟨x, hx, rfl⟩
        · exact .inl (.inr ⟨x, hx, rfl⟩)
    · intro w'' k'
      refine h.cl ψ hψ w'' ⟨k'.os.trans k.os, k'.tape.trans k.tape, k'.output.trans k.output, Nat.le_trans k.size k'.size, fun b hb hn => ?_, Nat.le_trans k.drawn k'.drawn⟩
      rw [k'.block b (Nat.lt_of_lt_of_le hb k.size) ?_, k.block b hb ?_]
      · rintro ⟨x, hx, rfl⟩
        exact hn (.inr ⟨x, hBm hx, rfl⟩)
      · rintro (e | ⟨x, hx, rfl⟩)
        · exact hn (.inl e)
        · rcases List.mem_append.1 hx with hx | hx
          · rcases (hC x hx).1 with h1 | ⟨z, hz, ez⟩
            · omega
            · exact hn (.inr ⟨z, hBm hz, ez⟩)
          · exact hn (.inr ⟨x, hLm hx, rfl⟩)
theorem Pw.callB {x : Operand} {f : FuncId} {fst cap : Array Value} {«as» : Array Operand} {ts : Array TypeId} {vs vs' : List Value} {B L0 : List Blk} {pre : World → Prop} {r : α → Value} {p : α → Prop} {bl : α → List Blk} {Ψ : α → World → Prop}
    (hc : CtB P f vs'.toArray B pre r p bl Ψ) (hL : L = B ++ L0) (hx : ev K x = some (.func (.func f) fst cap)) (hargs : evs K «as».toList = some vs) (hvs : fst.toList ++ vs ++ cap.toList = vs') (hcal : callB P f = true) (hw : wantB K ops gd = some true) (hn : Nat.blt d n = true) (hpre : ∀ w, All G w → pre w)
    (h : ∀ x, p x → Pw w0 M O n ((d, r x) :: K) (bl x ++ L0) (Ψ x :: G) N) : Pw w0 M O n K L G (OpG P ops ⟨some d, .call ⟨.value x, «as», ts⟩, ty, pos, af, gd⟩ N Q) := fun a w ha hs => by
  subst hL
  unfold OpG
  rw [if_pos (wantB_spec (o := ⟨some d, .call ⟨.value x, «as», ts⟩, ty, pos, af, gd⟩) hw ha)]
  unfold Oper.wp
  rw [call_run hx hargs hvs hcal ha, Oper.upon_enter]
  have hap := List.pairwise_append.1 hs.nd
  refine (hc (Dt O L0) w (fun b hb => hs.dt b (hb.elim .inl fun ⟨x, hx, e⟩ => .inr ⟨x, List.mem_append_right _ hx, e⟩)) (fun b hb => hs.own b (List.mem_append_left _ hb)) hap.1 (fun b hb e => ?_) ((hs.pre hpre).mono fun b _ e => ?_)).mono ?_
  · rcases e with e | ⟨y, hy, e⟩
    · exact hs.nob b (List.mem_append_left _ hb) e
    · exact hap.2.2 b hb y hy e.symm
  · rcases e with (e | ⟨y, hy, e⟩) | ⟨y, hy, e⟩
    · exact .inl e
    · exact .inr ⟨y, List.mem_append_right _ hy, e⟩
    · exact .inr ⟨y, List.mem_append_left _ hy, e⟩
  · rintro e w' ⟨y, rfl, hp, hk, hB, hnd, hφ⟩
    exact h y hp _ _ (ha.put hn _) (hs.gotB hk hB hnd hφ)
theorem CtB.start {f : FuncId} {fn : Func} {c : Code} {args : Array Value} {B : List Blk} {pre : World → Prop} {r : α → Value} {p : α → Prop} {bl : α → List Blk} {Ψ : α → World → Prop} {n : Nat} {K : Slots} (hf : P.funcs[f]? = some fn) (hb : fn.body = some c) (hn : args.size + (fn.ntmps - args.size) = n)
    (hK : ∀ d v, lk K d = some v → (args ++ Array.replicate (fn.ntmps - args.size) undef).getD d undef = v)
    (h : ∀ D w0, Pw w0 (Gs B) D n K B [pre] (c.wp P (bodyPost P fn (CtPB D w0 B r p bl Ψ)))) : CtB P f args B pre r p bl Ψ := fun D w hD hB hnd hnD hp =>
  calls_of_wp hf hb (h D w _ w ⟨rfl, by simpa using hn, hK⟩ ⟨Keep.refl _ _, hB, hnd, fun b hb => .inr ⟨b, hb, rfl⟩, hnD, hD, fun φ hφ => by
    rw [List.mem_singleton.1 hφ]
    exact hp.mono fun b _ e => e⟩)
theorem Pw.retB {B : List Blk} {fn : Func} {r : α → Value} {p : α → Prop} {bl : α → List Blk} {Ψ : α → World → Prop} {vs : List Value} {x : α} (hsub : (bl x).Sublist L) (hv : Vs P K (St w0 (Gs B) D L G) fn.results.toList vs) (hx : retv vs = r x) (hp : p x) (hΨ : ∀ w, All G w → Ψ x w) :
    Pw w0 (Gs B) D n K L G (bodyPost P fn (CtPB D w0 B r p bl Ψ) .ret) := fun a w ha hs =>
  ⟨ha.defers, _, results_run ha hs hv, x, by rw [hx], hp, hs.keep, fun b hb => ⟨hs.base b (hsub.subset hb), hs.own b (hsub.subset hb)⟩, hs.nd.sublist hsub, (hs.pre hΨ).mono fun b _ e => e.elim .inl fun ⟨y, hy, e⟩ => .inr ⟨y, hsub.subset hy, e⟩⟩
end
end Go.Proofs.Wk
/- Bits of bytes. -/
namespace Go.Proofs.Wk
open Go.RowKit
set_option linter.unusedVariables false
set_option linter.unusedSimpArgs false
def bitB (x : Int) (k : Nat) : Bool := decide (Go.bits .and .u8 (x / 2 ^ min k IntKind.u8.bits) 1 = 1)
theorem bit_zero : ∀ k : Fin 8, bitB 0 k = false := by decide +kernel
theorem bit_set8 : ∀ (x : Fin 256) (k j : Fin 8), bitB (Go.bits .or .u8 (x : Nat) (2 ^ (k : Nat))) j = (bitB (x : Nat) j || decide (j = k)) := by decide +kernel
theorem bit_rng8 : ∀ (x : Fin 256) (k : Fin 8), 0 ≤ (Go.bits .or .u8 (x : Nat) (2 ^ (k : Nat))) ∧ (Go.bits .or .u8 (x : Nat) (2 ^ (k : Nat))) ≤ 255 := by decide +kernel
theorem bit_set {x : Int} (h0 : 0 ≤ x) (h1 : x ≤ 255) {k j : Nat} (hk : k < 8) (hj : j < 8) : bitB (Go.bits .or .u8 x (2 ^ k)) j = (bitB x j || decide (j = k)) := by
  have h := bit_set8 ⟨x.toNat, by omega⟩ ⟨k, hk⟩ ⟨j, hj⟩
  dsimp only at h
  rw [Int.toNat_of_nonneg h0] at h
  rw [h]
  congr 1
  simp [Fin.ext_iff]
theorem bit_rng {x : Int} (h0 : 0 ≤ x) (h1 : x ≤ 255) {k : Nat} (hk : k < 8) : 0 ≤ (Go.bits .or .u8 x (2 ^ k)) ∧ (Go.bits .or .u8 x (2 ^ k)) ≤ 255 := by
  have h := bit_rng8 ⟨x.toNat, by omega⟩ ⟨k, hk⟩
  dsimp only at h
  rwa [Int.toNat_of_nonneg h0] at h
end Go.Proofs.Wk
/- Range over a map: the iterator is a block of one's own; rounds come in whatever order. -/
namespace Go.Proofs.Wk
open Go.RowKit
set_option linter.unusedVariables false
set_option linter.unusedSimpArgs false
/-- The iterator over the map in block g (n entries): l, which ones came. -/
def itO (g n : Nat) (l : List Nat) : Obj := .mapIter (some g) n l.toArray n
theorem ents_at : ∀ (m : List (Int × Value)) (j i : Nat), (ents m j)[i]? = (m[i]?).map (fun p => ⟨.int .i64 p.1, p.2, j + i⟩)
  | [], j, i => rfl
  | (k, v) :: r, j, 0 => rfl
  | (k, v) :: r, j, i + 1 => by
    show (ents r (j + 1))[i]? = _
    rw [ents_at r (j + 1) i, show j + 1 + i = j + (i + 1) by omega]; rfl
theorem ents_mem {m : List (Int × Value)} {e : MapEntry} (h : e ∈ ents m 0) : ∃ i k v, m[i]? = some (k, v) ∧ e = ⟨.int .i64 k, v, i⟩ := by
  obtain ⟨i, hi⟩ := List.getElem?_of_mem h
  rw [ents_at] at hi
  cases hm : m[i]? with
  | none => rw [hm] at hi; cases hi
  | some p =>
    rw [hm] at hi
    obtain ⟨k, v⟩ := p
    exact ⟨i, k, v, hm, by rw [← Option.some.inj hi, Nat.zero_add]⟩
theorem ents_born (m : List (Int × Value)) : (ents m 0).map (·.born) = List.range m.length := by
  apply List.ext_getElem?
  intro i
  rw [List.getElem?_map, ents_at]
  rcases Nat.lt_or_ge i m.length with h | h
  · rw [List.getElem?_eq_getElem h, List.getElem?_range h]
    simp
  · rw [List.getElem?_eq_none h, List.getElem?_eq_none (by rw [List.length_range]; exact h)]; rfl
section
variable {P : Program} {w0 : World} {M O : Nat → Prop} {n : Nat} {K : Slots} {L : List Blk} {G : List (World → Prop)} {Q : Exit → Act → World → Prop} {ops : Array Oper} {w : World} {a : Act}
  {d : Nat} {ty : TypeId} {pos : String} {af : Array Edge} {gd : Option (Nat × Bool)} {N : Act → World → Prop}
theorem next_run {gi g : Nat} {m : List (Int × Value)} {l : List Nat} (hi : w.heap[gi]? = some (itO g m.length l)) (hg : w.heap[g]? = some (mapO m)) (ty : TypeId) :
    ((∀ i, i < m.length → i ∈ l) ∧ (Instr.next (.pointer (some ⟨gi, 0, none⟩)) false ty).run P w = .ok (.tuple #[.bool false]) w) ∨
    ∃ i k v w1, m[i]? = some (k, v) ∧ i ∉ l ∧ (w1 = w ∨ w1 = w.drew) ∧ (Instr.next (.pointer (some ⟨gi, 0, none⟩)) false ty).run P w = .ok (.tuple #[.bool true, .int .i64 k, v]) { w1 with heap := w1.heap.setIfInBounds gi (itO g m.length (l ++ [i])) } := by
  unfold itO at hi ⊢
  unfold mapO at hg
  have hold : ∀ x ∈ (ents m 0).toArray.toList, x.born < m.length := fun x hx => by
    obtain ⟨i, k, v, h1, rfl⟩ := ents_mem (by simpa using hx)
    exact (List.getElem?_eq_some_iff.1 h1).1
  simp only [Instr.next, getObj, Sem.run_bind, Sem.run, hi, hg, Result.andThen, next_test_false l.toArray (ents m 0).toArray m.length m.length hold (Nat.le_refl _), Bool.false_eq_true, if_false]
  have hmem : ∀ x ∈ (Array.filter (fun e => !l.toArray.contains e.born) (ents m 0).toArray).toList, x ∈ ents m 0 ∧ x.born ∉ l := fun x hx => by
    simp at hx
    exact hx
  have hall : ∀ x ∈ ents m 0, x.born ∉ l → x ∈ (Array.filter (fun e => !l.toArray.contains e.born) (ents m 0).toArray).toList := fun x hx hl => by
    simp
    exact ⟨hx, hl⟩
  generalize Array.filter (fun e => !l.toArray.contains e.born) (ents m 0).toArray = F at hmem hall ⊢
  have e1 : F.filter (fun x => decide (x.born < m.length)) = F := Array.filter_eq_self.2 (fun x hx => by simpa using hold x (by simpa using (hmem x (by simpa using hx)).1))
  have e2 : F.filter (fun x => decide (x.born ≥ m.length)) = #[] := by
    rw [Array.filter_eq_empty_iff]
    intro x hx
    have := hold x (by simpa using (hmem x (by simpa using hx)).1)
    simp
    omega
  simp only [e1, e2, Array.append_empty]
  by_cases h0 : F.size = 0
  · left
    have : F = #[] := Array.eq_empty_of_size_eq_zero h0
    subst this
    refine ⟨fun i hi' => ?_, ?_⟩
    · by_cases hl : i ∈ l
      · exact hl
      · have := hall ⟨.int .i64 (m[i]).1, (m[i]).2, i⟩ (List.mem_of_getElem? (i := i) (by rw [ents_at, List.getElem?_eq_getElem hi', Option.map_some, Nat.zero_add])) hl
        simp at this
    · simp [choose, Sem.run, Question.forced]
  · right
    have hne : F.isEmpty = false := by simp [Array.isEmpty, h0]
    simp only [hne, Bool.false_eq_true, if_false, Array.empty_append, Array.size_map]
    have hch : ∃ (j : Nat) (w1 : World), j < F.size ∧ (w1 = w ∨ w1 = w.drew) ∧ (choose (Question.mapNext F.size)).run P w = .ok j w1 := by
      by_cases hf : F.size ≤ 1
      · exact ⟨0, w, by omega, .inl rfl, by simp [choose, Sem.run, Question.forced, hf]⟩
      · exact ⟨_, w.drew, Nat.mod_lt _ (by omega), .inr rfl, by
          simp only [choose, Sem.run, Question.forced, decide_eq_true_eq, hf, if_false, Question.cut]
          rfl⟩
    obtain ⟨j, w1, hj, hal, hrun⟩ := hch
    obtain ⟨hm1, hm2⟩ := hmem F[j] (by simp)
    obtain ⟨i, k, v, h1, h2⟩ := ents_mem hm1
    have hib : F[j].born = i := by rw [h2]
    refine ⟨i, k, v, w1, h1, by rw [← hib]; exact hm2, hal, ?_⟩
    have hh : w1.heap[gi]? = some (.mapIter (some g) m.length l.toArray m.length) := by rcases hal with rfl | rfl <;> exact hi
    have hset : ∀ o', (setObj gi o').run P w1 = .ok () { w1 with heap := w1.heap.setIfInBounds gi o' } := fun o' => by
      simp only [setObj, Sem.run, hh]
    simp only [hrun, Array.getElem?_map, Array.getElem?_eq_getElem hj, Option.map_some, Sem.run_bind, hset, Result.andThen, hib, Sem.run_pure]
    rw [h2]
    simp
theorem entry_run {gi g i : Nat} {m : List (Int × Value)} {l : List Nat} {k : Int} {v : Value} (hi : w.heap[gi]? = some (itO g m.length (l ++ [i]))) (hg : w.heap[g]? = some (mapO m)) (hm : m[i]? = some (k, v)) :
    (Instr.entry (.pointer (some ⟨gi, 0, none⟩))).run P w = .ok (.tuple #[.int .i64 k, v]) w := by
  unfold itO at hi
  unfold mapO at hg
  have he : (⟨.int .i64 k, v, i⟩ : MapEntry) ∈ ents m 0 := List.mem_of_getElem? (i := i) (by rw [ents_at, hm, Option.map_some, Nat.zero_add])
  have hf : (ents m 0).toArray.find? (·.born == i) = some ⟨.int .i64 k, v, i⟩ := by
    rw [← Array.find?_toList]
    exact find_born ⟨.int .i64 k, v, i⟩ (ents m 0) (by rw [ents_born]; exact List.nodup_range) he
  have hb : (l ++ [i]).toArray.back? = some i := by simp
  simp only [Instr.entry, getObj, Sem.run_bind, Sem.run, hi, hg, Result.andThen, hb, bne_self_eq_false, Bool.false_eq_true, if_false, hf]
  rfl
theorem range_run {t kt et : TypeId} {g : Nat} {m : List (Int × Value)} (ht : P.underlying t = some (.map kt et)) (hg : w.heap[g]? = some (mapO m)) :
    (Instr.range t (.map (some g))).run P w = .ok (.pointer (some ⟨w.heap.size, 0, none⟩)) (w.alloc (itO g m.length [])) := run_range_map w t kt et g (ents m 0).toArray m.length ht hg
theorem Pw.rangeM {t kt et : TypeId} {x : Operand} {g : Nat} {m : List (Int × Value)} (hx : ev K x = some (.map (some g))) (ht : P.underlying t = some (.map kt et)) (hm : ∀ w, St w0 M O L G w → w.heap[g]? = some (mapO m)) (hw : wantB K ops gd = some true) (hn : Nat.blt d n = true)
    (h : ∀ gi, Pw w0 M O n ((d, .pointer (some ⟨gi, 0, none⟩)) :: K) (⟨gi, itO g m.length []⟩ :: L) G N) : Pw w0 M O n K L G (OpG P ops ⟨some d, .range t x, ty, pos, af, gd⟩ N Q) :=
  Pw.stepE hw rfl hn fun a w ha hs => ⟨_, _, _, _, by simp [execOp, ha.eval hx, range_run ht (hm w hs)], hs.new _, h _⟩
theorem Pw.nextM {x : Operand} {gi g : Nat} {m : List (Int × Value)} {l : List Nat} {L' : Nat → List Blk} (hx : ev K x = some (.pointer (some ⟨gi, 0, none⟩))) (hm : ∀ w, St w0 M O L G w → w.heap[g]? = some (mapO m)) (hu : ∀ i, Upd L ⟨gi, itO g m.length l⟩ (itO g m.length (l ++ [i])) (L' i)) (hw : wantB K ops gd = some true) (hn : Nat.blt d n = true)
    (h0 : (∀ i, i < m.length → i ∈ l) → Pw w0 M O n ((d, .tuple #[.bool false]) :: K) L G N) (h1 : ∀ i k v, m[i]? = some (k, v) → i ∉ l → Pw w0 M O n ((d, .tuple #[.bool true, .int .i64 k, v]) :: K) (L' i) G N) : Pw w0 M O n K L G (OpG P ops ⟨some d, .next x false, ty, pos, af, gd⟩ N Q) :=
  Pw.stepE hw rfl hn fun a w ha hs => by
    rcases next_run (P := P) (hs.own _ (hu 0).mem) (hm w hs) ty with ⟨e1, e2⟩ | ⟨i, k, v, w1, e1, e2, e3, e4⟩
    · exact ⟨_, _, _, w, by simp [execOp, ha.eval hx, e2], hs, h0 e1⟩
    · have hs1 : St w0 M O L G w1 := by
        rcases e3 with rfl | rfl
        · exact hs
        · exact hs.drew
      obtain ⟨s1, s2⟩ := MapKept.heap_set (o' := itO g m.length (l ++ [i])) (hs1.own _ (hu i).mem)
      exact ⟨_, L' i, G, { w1 with heap := w1.heap.setIfInBounds gi (itO g m.length (l ++ [i])) }, by simp [execOp, ha.eval hx, e4], hs1.turn (hu i) ⟨rfl, rfl, rfl, by simp, fun b _ hn => s2 b hn, Nat.le_refl _⟩ s1, h1 i k v e1 e2⟩
theorem Pw.entryM {x : Operand} {gi g i : Nat} {m : List (Int × Value)} {l : List Nat} {k : Int} {v : Value} (hx : ev K x = some (.pointer (some ⟨gi, 0, none⟩))) (hm : ∀ w, St w0 M O L G w → w.heap[g]? = some (mapO m)) (hi : (⟨gi, itO g m.length (l ++ [i])⟩ : Blk) ∈ L) (hk : m[i]? = some (k, v)) (hw : wantB K ops gd = some true) (hn : Nat.blt d n = true)
    (h : Pw w0 M O n ((d, .tuple #[.int .i64 k, v]) :: K) L G N) : Pw w0 M O n K L G (OpG P ops ⟨some d, .entry x, ty, pos, af, gd⟩ N Q) :=
  Pw.stepE hw rfl hn fun a w ha hs => ⟨_, _, _, w, by simp [execOp, ha.eval hx, entry_run (hs.own _ hi) (hm w hs) hk], hs, h⟩
end
end Go.Proofs.Wk
