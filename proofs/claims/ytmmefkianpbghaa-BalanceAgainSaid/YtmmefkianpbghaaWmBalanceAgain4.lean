/- Walks and their mathematics, merged. No conditions beyond those written. -/
import Derived.Test.YtmmefkianpbghaaWmBalanceAgain3
/- Fractions sorted: what the insertion sort comes to. -/
namespace Go.Proofs.Wk
set_option linter.unusedVariables false
set_option linter.unusedSimpArgs false
def RtQ (m : Nat) (o : Rt) : Prop := o.a = qn (rq o) ∧ o.b = qd (rq o) ∧ Sz m (rq o)
theorem cfR_lt {m : Nat} {x y : Rt} (hx : RtQ m x) (hy : RtQ m y) (hm : m ≤ 200) : cfR x y < 0 ↔ rq x < rq y := by
  unfold cfR
  rw [hx.1, hx.2.1, hy.1, hy.2.1, q_cmp hx.2.2 hy.2.2 (by omega)]
  unfold cmpQ
  by_cases h : rq x < rq y
  · rw [if_pos h]; simp [h]
  · rw [if_neg h]
    by_cases h2 : rq x = rq y
    · rw [if_pos h2]; simp [h]
    · rw [if_neg h2]; simp [h]
def insBR (x : Rt) : List Rt → List Rt
  | [] => [x]
  | y :: r => if rq x < rq y then y :: insBR x r else x :: y :: r
theorem sinkR_insBR {m : Nat} (hm : m ≤ 200) : ∀ (pre post : List Rt) (x : Rt), (∀ o ∈ pre, RtQ m o) → RtQ m x → sinkR pre.length (pre.reverse ++ x :: post) = (insBR x pre).reverse ++ post
  | [], post, x, _, _ => rfl
  | y :: r, post, x, hp, hx => by
    have hl : (y :: r).reverse ++ x :: post = r.reverse ++ y :: x :: post := by simp
    have e0 : (r.reverse ++ y :: x :: post)[r.length]? = some y := by
      rw [List.getElem?_append_right (by simp)]; simp
    have e1 : (r.reverse ++ y :: x :: post)[r.length + 1]? = some x := by
      rw [List.getElem?_append_right (by simp)]; simp
    rw [hl, List.length_cons]
    have e2 : sinkR (r.length + 1) (r.reverse ++ y :: x :: post) = if cfR x y < 0 then sinkR r.length (swapR (r.reverse ++ y :: x :: post) r.length x y) else r.reverse ++ y :: x :: post := by
      simp only [sinkR, e0, e1]
    rw [e2]
    have hc := cfR_lt hx (hp y (List.mem_cons_self ..)) hm
    unfold insBR
    by_cases h : rq x < rq y
    · rw [if_pos (hc.2 h), if_pos h]
      have hs : swapR (r.reverse ++ y :: x :: post) r.length x y = r.reverse ++ x :: y :: post := by
        unfold swapR
        rw [List.set_append_right _ _ (by simp), List.set_append_right _ _ (by simp)]
        simp
      rw [hs, sinkR_insBR hm r (y :: post) x (fun o ho => hp o (List.mem_cons_of_mem _ ho)) hx]
      simp
    · rw [if_neg (fun e => h (hc.1 e)), if_neg h]; simp
def isBR (l : List Rt) : List Rt := l.foldl (fun acc x => insBR x acc) []
theorem insBR_perm (x : Rt) : ∀ l : List Rt, (insBR x l).Perm (x :: l)
  | [] => .refl _
  | y :: r => by
    unfold insBR
    split
    · exact ((insBR_perm x r).cons y).trans (.swap ..)
    · exact .refl _
theorem isBR_snoc (l : List Rt) (x : Rt) : isBR (l ++ [x]) = insBR x (isBR l) := by unfold isBR; rw [List.foldl_append]; rfl
theorem isBR_perm : ∀ (n : Nat) (l : List Rt), l.length = n → (isBR l).Perm l
  | 0, l, h => by rw [List.eq_nil_of_length_eq_zero h]; exact .refl _
  | n + 1, l, h => by
    obtain ⟨x, hx, _⟩ := get_at (show n < l.length by omega)
    have e : l = l.take n ++ [x] := by rw [← take_snoc hx, List.take_of_length_le (by omega)]
    rw [e, isBR_snoc]
    refine (insBR_perm x _).trans (((isBR_perm n _ (by rw [List.length_take]; omega)).cons x).trans ?_)
    exact (List.perm_append_comm (l₁ := [x]))
theorem insR_isBR {m : Nat} (hm : m ≤ 200) {l : List Rt} (hq : ∀ o ∈ l, RtQ m o) : ∀ (i : Nat), i ≤ l.length → insR i l = (isBR (l.take i)).reverse ++ l.drop i
  | 0, _ => by simp [insR, isBR]
  | i + 1, h => by
    obtain ⟨x, hx, hxm⟩ := get_at (show i < l.length by omega)
    obtain ⟨_, hx'⟩ := List.getElem?_eq_some_iff.1 hx
    have hp := isBR_perm i (l.take i) (by rw [List.length_take]; omega)
    have hlen : (isBR (l.take i)).length = i := by rw [hp.length_eq, List.length_take]; omega
    rw [insR_succ, insR_isBR hm hq i (by omega), take_snoc hx, isBR_snoc]
    have e := sinkR_insBR hm (isBR (l.take i)) (l.drop (i + 1)) x (fun o ho => hq o (List.mem_of_mem_take (hp.mem_iff.1 ho))) (hq x hxm)
    rw [hlen] at e
    rw [← e, List.drop_eq_getElem_cons (by omega), hx']
theorem insBR_pw {x : Rt} : ∀ {l : List Rt}, l.Pairwise (fun p q => rq q ≤ rq p) → (insBR x l).Pairwise (fun p q => rq q ≤ rq p)
  | [], _ => List.pairwise_singleton _ _
  | y :: r, h => by
    obtain ⟨h1, h2⟩ := List.pairwise_cons.1 h
    unfold insBR
    split
    · rename_i hlt
      refine List.pairwise_cons.2 ⟨fun z hz => ?_, insBR_pw h2⟩
      rcases List.mem_cons.1 ((insBR_perm x r).mem_iff.1 hz) with rfl | hz
      · exact Rat.le_of_lt hlt
      · exact h1 z hz
    · rename_i hlt
      have hyx : rq y ≤ rq x := Rat.not_lt.1 hlt
      refine List.pairwise_cons.2 ⟨fun z hz => ?_, h⟩
      rcases List.mem_cons.1 hz with rfl | hz
      · exact hyx
      · exact Rat.le_trans (h1 z hz) hyx
theorem isBR_pw : ∀ (n : Nat) (l : List Rt), l.length = n → (isBR l).Pairwise (fun p q => rq q ≤ rq p)
  | 0, l, h => by rw [List.eq_nil_of_length_eq_zero h]; exact List.Pairwise.nil
  | n + 1, l, h => by
    obtain ⟨x, hx, _⟩ := get_at (show n < l.length by omega)
    have e : isBR l = insBR x (isBR (l.take n)) := by rw [← isBR_snoc, ← take_snoc hx, List.take_of_length_le (by omega)]
    rw [e]
    exact insBR_pw (isBR_pw n (l.take n) (by rw [List.length_take]; omega))
/-- Sorted: the same ones, rising. -/
theorem insR_perm {m : Nat} (hm : m ≤ 200) {l : List Rt} (hq : ∀ o ∈ l, RtQ m o) : (insR l.length l).Perm l ∧ ((insR l.length l).map rq).Pairwise (· ≤ ·) := by
  have e := insR_isBR hm hq l.length (Nat.le_refl _)
  rw [List.take_length, List.drop_length, List.append_nil] at e
  rw [e]
  refine ⟨(List.reverse_perm _).trans (isBR_perm _ l rfl), ?_⟩
  rw [List.pairwise_map, List.pairwise_reverse]
  exact isBR_pw _ l rfl
end Go.Proofs.Wk
/- Fractions: walks of slices.Values, AppendSeq, Collect at them. -/
namespace Go.Proofs.Wk
open Go.RowKit
set_option maxRecDepth 100000
set_option maxHeartbeats 1000000
attribute [local irreducible] Pw OpG
set_option linter.unusedVariables false
set_option linter.unusedSimpArgs false
def gtR (l : List Rt) (i : Nat) : Value := match l[i]? with | some p => rtV p | none => undef
theorem gtR_at {l : List Rt} {i : Nat} {p : Rt} (h : l[i]? = some p) : gtR l i = rtV p := by unfold gtR; rw [h]
theorem ValuesR_ct (l : List Rt) (x : Option Addr × Nat) : Ct Try.prog 19 #[rsV l x] (fun _ => True) (fun g : Nat => .func (.func 38) #[] #[.pointer (some ⟨g, 0, none⟩)]) Tt (fun g W => W.heap[g]? = some (row [rsV l x] 26)) := by
  refine Ct.start Try.func19 rfl rfl (slots_of rfl slots1) (fun D w0 => ?_)
  repeat (first | (with_reducible first | refine Pw.seq ?_ | refine Pw.region ?_ | refine Pw.nil ?_ | refine Pw.then_ ?_ | refine Pw.skip ?_ | refine Pw.block ?_ | refine Pw.exit ?_ | refine Pw.inX ?_ | refine Pw.inN ?_ | refine Pw.inR ?_ | refine Pw.thenX ?_ | refine Pw.thenR ?_ | refine Pw.ret ?_) | refine Pw.list (Pw.pure rfl rfl rfl ?_) | refine Pw.inY rfl ?_ | refine Pw.list (Pw.off rfl rfl ?_) | refine Pw.condT rfl ?_ | refine Pw.condF rfl ?_)
  refine Pw.list (Pw.box rfl rfl rfl rfl (fun g => freeHead ?_))
  repeat (first | (with_reducible first | refine Pw.seq ?_ | refine Pw.region ?_ | refine Pw.nil ?_ | refine Pw.then_ ?_ | refine Pw.skip ?_ | refine Pw.block ?_ | refine Pw.exit ?_ | refine Pw.inX ?_ | refine Pw.inN ?_ | refine Pw.inR ?_ | refine Pw.thenX ?_ | refine Pw.thenR ?_ | refine Pw.ret ?_) | refine Pw.list (Pw.pure rfl rfl rfl ?_) | refine Pw.inY rfl ?_ | refine Pw.list (Pw.off rfl rfl ?_) | refine Pw.condT rfl ?_ | refine Pw.condF rfl ?_ | refine Pw.list (Pw.box rfl rfl rfl rfl (fun _ => ?_)) | refine Pw.list (Pw.alloc rfl rfl rfl rfl rfl (fun _ => ?_)) | refine Pw.list (Pw.build rfl rfl rfl rfl ?_) | refine Pw.list (Pw.ld rfl inferInstance rfl rfl rfl ?_) | refine Pw.list (Pw.sto rfl rfl inferInstance rfl rfl rfl rfl rfl inferInstance rfl ?_))
  exact Pw.ret_ (x := g) (.tmp rfl .nil) rfl trivial (fun w h => fact0 h)
theorem ValuesR_it (l : List Rt) (x : Option Addr × Nat) (g : Nat) (htop : l.length ≤ 9223372036854775807) : Iter Try.prog 38 #[.pointer (some ⟨g, 0, none⟩)] l.length (gtR l) (fun W => W.heap[g]? = some (row [rsV l x] 26) ∧ RS l x W) := by
  obtain ⟨A, c⟩ := x
  refine Iter.start (n := 2 + (Try.f38.ntmps - 2)) Try.func38 rfl (fun r => [(0, .func (.yield r) #[] #[]), (1, .pointer (some ⟨g, 0, none⟩))]) (fun r => rfl) (fun r => slots_of rfl slots2) (fun r J hY hst hpre w0 h0 => ?_)
  refine Pw.facts (G' := [fun W => W.heap[g]? = some (row [.slice A l.length c] 26), RS l (A, c)]) (fun w h => allCons (fact0 h).1 (allCons (fact0 h).2 allNil)) ?_
  repeat (first | (with_reducible first | refine Pw.seq ?_ | refine Pw.region ?_ | refine Pw.nil ?_ | refine Pw.then_ ?_ | refine Pw.skip ?_ | refine Pw.block ?_ | refine Pw.exit ?_ | refine Pw.inX ?_ | refine Pw.inN ?_ | refine Pw.inR ?_ | refine Pw.thenX ?_ | refine Pw.thenR ?_ | refine Pw.ret ?_) | refine Pw.list (Pw.pure rfl rfl rfl ?_) | refine Pw.inY rfl ?_ | refine Pw.list (Pw.off rfl rfl ?_) | refine Pw.condT rfl ?_ | refine Pw.condF rfl ?_ | refine Pw.list (Pw.box rfl rfl rfl rfl (fun _ => ?_)) | refine Pw.list (Pw.alloc rfl rfl rfl rfl rfl (fun _ => ?_)) | refine Pw.list (Pw.build rfl rfl rfl rfl ?_) | refine Pw.list (Pw.ld rfl inferInstance rfl rfl rfl ?_) | refine Pw.list (Pw.sto rfl rfl inferInstance rfl rfl rfl rfl rfl inferInstance rfl ?_))
  refine Pw.loopY (NN := l.length) hst hpre (fun i => [(0, .func (.yield r) #[] #[]), (1, .pointer (some ⟨g, 0, none⟩)), (5, .slice A l.length c), (6, .int .i64 l.length), (7, .int .i64 i)]) h0 ⟨rfl, rfl, rfl, rfl, rfl, trivial⟩ ?_
  intro i w1 hi hJ
  refine Pw.facts (G' := [fun W => W.heap[g]? = some (row [.slice A l.length c] 26), RS l (A, c)]) (fun w h => allCons (fact0 h).1 (allCons (fact0 h).2 allNil)) ?_
  repeat (first | (with_reducible first | refine Pw.seq ?_ | refine Pw.region ?_ | refine Pw.nil ?_ | refine Pw.then_ ?_ | refine Pw.skip ?_ | refine Pw.block ?_ | refine Pw.exit ?_ | refine Pw.inX ?_ | refine Pw.inN ?_ | refine Pw.inR ?_ | refine Pw.thenX ?_ | refine Pw.thenR ?_ | refine Pw.ret ?_) | refine Pw.list (Pw.pure rfl rfl rfl ?_) | refine Pw.inY rfl ?_ | refine Pw.list (Pw.off rfl rfl ?_) | refine Pw.condT rfl ?_ | refine Pw.condF rfl ?_)
  refine Pw.condD rfl (fun c3 => ?_) (fun c3 => ?_)
  · obtain ⟨p, hp, hm⟩ := get_at (show i < l.length by omega)
    repeat (first | (with_reducible first | refine Pw.seq ?_ | refine Pw.region ?_ | refine Pw.nil ?_ | refine Pw.then_ ?_ | refine Pw.skip ?_ | refine Pw.block ?_ | refine Pw.exit ?_ | refine Pw.inX ?_ | refine Pw.inN ?_ | refine Pw.inR ?_ | refine Pw.thenX ?_ | refine Pw.thenR ?_ | refine Pw.ret ?_) | refine Pw.list (Pw.pure rfl rfl rfl ?_) | refine Pw.inY rfl ?_ | refine Pw.list (Pw.off rfl rfl ?_) | refine Pw.condT rfl ?_ | refine Pw.condF rfl ?_)
    refine Pw.list (Pw.index rfl rfl rfl rfl (Int.natCast_nonneg i) c3 (fun w h => (fact1 h).has (Int.natCast_nonneg i) c3) rfl rfl ?_)
    rintro ad rfl
    refine Pw.list (Pw.loadR p rfl inferInstance rfl (by rw [Int.toNat_natCast]; exact hp) (by kernel_rfl) rfl rfl ?_)
    refine Pw.re (d := 10) (v' := rtV p) rfl rfl ?_
    refine Pw.list (Pw.alloc rfl rfl rfl rfl rfl (fun g4 => ?_))
    refine Pw.list (Pw.sto rfl rfl inferInstance rfl rfl rfl rfl rfl inferInstance rfl ?_)
    refine Pw.nil (Pw.then_ (Pw.seq (Pw.regionY ?_)))
    refine Pw.listI rfl (Pw.pure rfl rfl rfl ?_)
    refine Pw.listI rfl (Pw.ld rfl inferInstance rfl rfl rfl ?_)
    have hY' := hY
    refine Pw.yield hY hst hpre (show i < l.length by omega) hJ rfl (by rw [gtR_at hp]; rfl) rfl rfl ?_
    intro w3 hJ3
    refine Pw.listI rfl (Pw.pure rfl rfl rfl ?_)
    refine Pw.nilI ?_
    repeat (first | (with_reducible first | refine Pw.seq ?_ | refine Pw.region ?_ | refine Pw.nil ?_ | refine Pw.then_ ?_ | refine Pw.skip ?_ | refine Pw.block ?_ | refine Pw.exit ?_ | refine Pw.inX ?_ | refine Pw.inN ?_ | refine Pw.inR ?_ | refine Pw.thenX ?_ | refine Pw.thenR ?_ | refine Pw.ret ?_) | refine Pw.list (Pw.pure rfl rfl rfl ?_) | refine Pw.inY rfl ?_ | refine Pw.list (Pw.off rfl rfl ?_) | refine Pw.condT rfl ?_ | refine Pw.condF rfl ?_)
    refine Pw.re (d := 7) (v' := .int .i64 ((i + 1 : Nat) : Int)) rfl (congrArg (Value.int .i64) (i64s (by omega) htop)) ?_
    exact Pw.againY hst (i + 1) (by omega) (by omega) hJ3 ⟨rfl, rfl, rfl, rfl, rfl, trivial⟩
  · obtain rfl : i = l.length := by omega
    repeat (first | (with_reducible first | refine Pw.seq ?_ | refine Pw.region ?_ | refine Pw.nil ?_ | refine Pw.then_ ?_ | refine Pw.skip ?_ | refine Pw.block ?_ | refine Pw.exit ?_ | refine Pw.inX ?_ | refine Pw.inN ?_ | refine Pw.inR ?_ | refine Pw.thenX ?_ | refine Pw.thenR ?_ | refine Pw.ret ?_) | refine Pw.list (Pw.pure rfl rfl rfl ?_) | refine Pw.inY rfl ?_ | refine Pw.list (Pw.off rfl rfl ?_) | refine Pw.condT rfl ?_ | refine Pw.condF rfl ?_)
    exact Pw.retY hst hJ .nil
theorem enters_valuesR : ∀ args w, (callFunc 38 args).run Try.prog w = .ok (.enter 38 args) w := enters_callB (by kernel_rfl)
abbrev vfR (g : Nat) : Value := .func (.func 38) #[] #[.pointer (some ⟨g, 0, none⟩)]
abbrev preR (l : List Rt) (x : Option Addr × Nat) (g : Nat) (W : World) : Prop := W.heap[g]? = some (row [rsV l x] 26) ∧ RS l x W
theorem AppendSeqR_ct (l : List Rt) (x : Option Addr × Nat) (g : Nat) (hl : l.length ≤ 1000000) :
    CtL Try.prog 54 #[.slice none 0 0, vfR g] (preR l x g) (fun q : Gr => gv q l.length) (fun q => gOk q (cellsR l) l.length 2) (fun q => gL q (cellsR l) 34) (fun _ _ => True) := by
  have htop : l.length ≤ 9223372036854775807 := by omega
  refine CtL.startM Try.func54 rfl rfl (slots_of rfl slots2) (fun D w0 => ?_)
  repeat (first | (with_reducible first | refine Pw.seq ?_ | refine Pw.region ?_ | refine Pw.nil ?_ | refine Pw.then_ ?_ | refine Pw.skip ?_ | refine Pw.block ?_ | refine Pw.exit ?_ | refine Pw.inX ?_ | refine Pw.inN ?_ | refine Pw.inR ?_ | refine Pw.thenX ?_ | refine Pw.thenR ?_ | refine Pw.ret ?_) | refine Pw.list (Pw.pure rfl rfl rfl ?_) | refine Pw.inY rfl ?_ | refine Pw.list (Pw.off rfl rfl ?_) | refine Pw.condT rfl ?_ | refine Pw.condF rfl ?_)
  refine Pw.list (Pw.box rfl rfl rfl rfl (fun g2 => ?_))
  repeat (first | (with_reducible first | refine Pw.seq ?_ | refine Pw.region ?_ | refine Pw.nil ?_ | refine Pw.then_ ?_ | refine Pw.skip ?_ | refine Pw.block ?_ | refine Pw.exit ?_ | refine Pw.inX ?_ | refine Pw.inN ?_ | refine Pw.inR ?_ | refine Pw.thenX ?_ | refine Pw.thenR ?_ | refine Pw.ret ?_) | refine Pw.list (Pw.pure rfl rfl rfl ?_) | refine Pw.inY rfl ?_ | refine Pw.list (Pw.off rfl rfl ?_) | refine Pw.condT rfl ?_ | refine Pw.condF rfl ?_ | refine Pw.list (Pw.box rfl rfl rfl rfl (fun _ => ?_)) | refine Pw.list (Pw.alloc rfl rfl rfl rfl rfl (fun _ => ?_)) | refine Pw.list (Pw.build rfl rfl rfl rfl ?_) | refine Pw.list (Pw.ld rfl inferInstance rfl rfl rfl ?_) | refine Pw.list (Pw.sto rfl rfl inferInstance rfl rfl rfl rfl rfl inferInstance rfl ?_))
  refine Pw.rangeFunc (σ := Gr) (τ := Nat) (fun i q => gOk q (cellsR (l.take i)) i 2) (fun i q => ⟨gL q (cellsR (l.take i)) 34 ++ [⟨g2, row [gv q i] 26⟩], [preR l x g]⟩) none (fun _ _ _ => True)
    (fun i q g5 => ⟨[(2, .pointer (some ⟨g2, 0, none⟩)), (5, .pointer (some ⟨g5, 0, none⟩))], gL q (cellsR (l.take i)) 34 ++ [⟨g2, row [gv q i] 26⟩], [fun W => W.heap[g5]? = some (row (encR (l.getD i ⟨[], [], z0⟩)) 34), preR l x g]⟩)
    rfl enters_valuesR (ValuesR_it l x g htop) rfl ⟨rfl, rfl⟩ rfl (fun w h => h) (fun i q hq w h => fact0 h) ?_ ?_ ?_
  · intro i q T rr hi hq
    obtain ⟨p, hp, _⟩ := get_at hi
    rw [gtR_at hp]
    refine Pw.regionI rfl ?_
    refine Pw.list (Pw.alloc rfl rfl rfl rfl rfl (fun g5 => ?_))
    refine Pw.list (Pw.sto rfl rfl inferInstance rfl rfl rfl rfl rfl inferInstance rfl ?_)
    refine Pw.nil (Pw.then_ (freeHead ?_))
    exact Pw.arriveR g5 trivial ⟨rfl, rfl, trivial⟩ rfl (fun w h => allCons (by rw [List.getD_eq_getElem?_getD, hp]; exact fact0 h) (allTail h))
  · intro i q g5 T rr hi hq _
    obtain ⟨p, hp, _⟩ := get_at hi
    have eD : l.getD i ⟨[], [], z0⟩ = p := by rw [List.getD_eq_getElem?_getD, hp]; rfl
    dsimp only at hq ⊢
    rw [eD]
    refine Pw.eqL (L' := gL q (cellsR (l.take i)) 34 ++ (⟨g2, row [gv q i] 26⟩ :: T)) (by simp) ?_
    refine Pw.blockI (Pw.regionI rfl ?_)
    refine Pw.list (Pw.ld rfl inferInstance rfl rfl rfl ?_)
    refine Pw.list (Pw.ld rfl inferInstance rfl rfl rfl ?_)
    refine Pw.re (d := 9) (v' := rtV p) rfl rfl ?_
    refine Pw.list (Pw.lit12 rfl rfl rfl rfl rfl rfl rfl rfl rfl (fun g1 => freeHead ?_))
    refine Pw.list (Pw.push (s := q) (m := i) (news := encR p) (L0 := ⟨g2, row [gv q i] 26⟩ :: T) rfl rfl rfl rfl rfl rfl rfl hq rfl (encR_one p) (fun w hs j u hu => by
      have h1 := fact0 hs.all
      rw [add_none, cell_of_blk h1]
      simpa [encR] using hu) (by omega) (by simp only [maxLen]; omega) (by show (i + 1) * 48 ≤ _; omega) rfl rfl (fun q' hq' => ?_))
    refine Pw.list (Pw.sto (vs := [gv q' (i + 1)]) rfl rfl inferInstance (by cases q' <;> rfl) rfl rfl (by cases q' <;> rfl) rfl inferInstance rfl ?_)
    refine Pw.nil ?_
    have e1 : cellsR (l.take (i + 1)) = cellsR (l.take i) ++ encR p := by rw [take_snoc hp, cellsR_snoc]
    refine Pw.inN (Pw.roundEnd ?_)
    refine Pw.eqL (L' := (gL q' (cellsR (l.take (i + 1))) 34 ++ [⟨g2, row [gv q' (i + 1)] 26⟩]) ++ T) (by simp [e1]) ?_
    refine Pw.arriveE (J := fun q => gOk q (cellsR (l.take (i + 1))) (i + 1) 2) (I := fun q => ⟨gL q (cellsR (l.take (i + 1))) 34 ++ [⟨g2, row [gv q (i + 1)] 26⟩], [preR l x g]⟩) q' ?_ rfl ?_
    · show gOk q' _ _ _; rw [e1]; exact hq'
    · exact fun w h => allCons (hv w h) allNil
  · intro q Dm hq
    dsimp only at hq ⊢
    rw [List.take_length] at hq ⊢
    refine Pw.tail (i := 4) rfl ?_
    refine Pw.list (Pw.ld rfl inferInstance rfl rfl rfl ?_)
    refine Pw.list (Pw.pure rfl rfl rfl ?_)
    refine Pw.nil ?_
    exact Pw.retLM (x := q) .head (.cons _ (List.sublist_append_left _ _)) (.tmp rfl .nil) rfl hq (fun w h => trivial)
theorem CollectR_ct (l : List Rt) (x : Option Addr × Nat) (g : Nat) (hl : l.length ≤ 1000000) :
    CtL Try.prog 36 #[vfR g] (preR l x g) (fun q : Gr => gv q l.length) (fun q => gOk q (cellsR l) l.length 2) (fun q => gL q (cellsR l) 34) (fun _ _ => True) := by
  refine CtL.start Try.func36 rfl rfl (slots_of rfl slots1) (fun D w0 => ?_)
  repeat (first | (with_reducible first | refine Pw.seq ?_ | refine Pw.region ?_ | refine Pw.nil ?_ | refine Pw.then_ ?_ | refine Pw.skip ?_ | refine Pw.block ?_ | refine Pw.exit ?_ | refine Pw.inX ?_ | refine Pw.inN ?_ | refine Pw.inR ?_ | refine Pw.thenX ?_ | refine Pw.thenR ?_ | refine Pw.ret ?_) | refine Pw.list (Pw.pure rfl rfl rfl ?_) | refine Pw.inY rfl ?_ | refine Pw.list (Pw.off rfl rfl ?_) | refine Pw.condT rfl ?_ | refine Pw.condF rfl ?_)
  refine Pw.list (Pw.callL (AppendSeqR_ct l x g hl) rfl rfl rfl (by kernel_rfl) rfl rfl (fun w h => fact0 h) ?_)
  intro q hq
  repeat (first | (with_reducible first | refine Pw.seq ?_ | refine Pw.region ?_ | refine Pw.nil ?_ | refine Pw.then_ ?_ | refine Pw.skip ?_ | refine Pw.block ?_ | refine Pw.exit ?_ | refine Pw.inX ?_ | refine Pw.inN ?_ | refine Pw.inR ?_ | refine Pw.thenX ?_ | refine Pw.thenR ?_ | refine Pw.ret ?_) | refine Pw.list (Pw.pure rfl rfl rfl ?_) | refine Pw.inY rfl ?_ | refine Pw.list (Pw.off rfl rfl ?_) | refine Pw.condT rfl ?_ | refine Pw.condF rfl ?_)
  exact Pw.retL (x := q) (List.sublist_append_left _ _) (.tmp rfl .nil) rfl hq (fun w h => trivial)
end Go.Proofs.Wk
/- Fractions sorted: slices.SortFunc, SortedFunc at at most twelve. -/
namespace Go.Proofs.Wk
open Go.RowKit
set_option maxRecDepth 100000
set_option maxHeartbeats 1000000
section
variable {P : Program} {w0 : World} {M O : Nat → Prop} {n : Nat} {K : Slots} {L : List Blk} {G : List (World → Prop)} {Q : Exit → Act → World → Prop} {ops : Array Oper}
  {d : Nat} {ty : TypeId} {pos : String} {af : Array Edge} {gd : Option (Nat × Bool)} {N : Act → World → Prop}
/-- A text's byte. -/
theorem Pw.strIx {x ix : Operand} {t : TypeId} {b : ByteArray} {k : IntKind} {i : Int} {v : UInt8} (hx : ev K x = some (.string b)) (hi : ev K ix = some (.int k i)) (ht : P.underlying t = some .string) (h0 : 0 ≤ i) (hv : b[i.toNat]? = some v)
    (hw : wantB K ops gd = some true) (hn : Nat.blt d n = true) (h : Pw w0 M O n ((d, .int .u8 v.toNat) :: K) L G N) : Pw w0 M O n K L G (OpG P ops ⟨some d, .index t x ix, ty, pos, af, gd⟩ N Q) :=
  Pw.stepE hw rfl hn fun a w ha hs => ⟨_, L, G, w, by simp [execOp, ha.eval hx, ha.eval hi, Instr.index, asIntOf, underlying, ht, h0, hv], hs, h⟩
end
attribute [local irreducible] Pw OpG
set_option linter.unusedVariables false
set_option linter.unusedSimpArgs false
theorem u8_lt (n : Int) : 0 ≤ IntKind.u8.wrap n ∧ IntKind.u8.wrap n < 256 := by
  simp [IntKind.wrap, IntKind.bits, IntKind.signed]; omega
theorem Len64_ct (n : Int) (h0 : 0 ≤ n) (h1 : n < 256) : Ct Try.prog 77 #[.int .u64 n] (fun _ => True) (fun r : Int => .int .i64 r) (fun _ => True) (fun _ _ => True) := by
  refine Ct.start Try.func77 rfl rfl (slots_of rfl slots1) (fun D w0 => ?_)
  repeat (first | (with_reducible first | refine Pw.seq ?_ | refine Pw.region ?_ | refine Pw.nil ?_ | refine Pw.then_ ?_ | refine Pw.skip ?_ | refine Pw.block ?_ | refine Pw.exit ?_ | refine Pw.inX ?_ | refine Pw.inN ?_ | refine Pw.inR ?_ | refine Pw.thenX ?_ | refine Pw.thenR ?_ | refine Pw.ret ?_) | refine Pw.list (Pw.pure rfl rfl rfl ?_) | refine Pw.inY rfl ?_ | refine Pw.list (Pw.off rfl rfl ?_) | refine Pw.condT rfl ?_ | refine Pw.condF rfl ?_ | refine Pw.list (Pw.box rfl rfl rfl rfl (fun _ => ?_)) | refine Pw.list (Pw.alloc rfl rfl rfl rfl rfl (fun _ => ?_)) | refine Pw.list (Pw.build rfl rfl rfl rfl ?_) | refine Pw.list (Pw.ld rfl inferInstance rfl rfl rfl ?_) | refine Pw.list (Pw.sto rfl rfl inferInstance rfl rfl rfl rfl rfl inferInstance rfl ?_))
  refine Pw.condD rfl (fun c => absurd c (by omega)) (fun _ => ?_)
  repeat (first | (with_reducible first | refine Pw.seq ?_ | refine Pw.region ?_ | refine Pw.nil ?_ | refine Pw.then_ ?_ | refine Pw.skip ?_ | refine Pw.block ?_ | refine Pw.exit ?_ | refine Pw.inX ?_ | refine Pw.inN ?_ | refine Pw.inR ?_ | refine Pw.thenX ?_ | refine Pw.thenR ?_ | refine Pw.ret ?_) | refine Pw.list (Pw.pure rfl rfl rfl ?_) | refine Pw.inY rfl ?_ | refine Pw.list (Pw.off rfl rfl ?_) | refine Pw.condT rfl ?_ | refine Pw.condF rfl ?_ | refine Pw.list (Pw.box rfl rfl rfl rfl (fun _ => ?_)) | refine Pw.list (Pw.alloc rfl rfl rfl rfl rfl (fun _ => ?_)) | refine Pw.list (Pw.build rfl rfl rfl rfl ?_) | refine Pw.list (Pw.ld rfl inferInstance rfl rfl rfl ?_) | refine Pw.list (Pw.sto rfl rfl inferInstance rfl rfl rfl rfl rfl inferInstance rfl ?_))
  refine Pw.condD rfl (fun c => absurd c (by omega)) (fun _ => ?_)
  repeat (first | (with_reducible first | refine Pw.seq ?_ | refine Pw.region ?_ | refine Pw.nil ?_ | refine Pw.then_ ?_ | refine Pw.skip ?_ | refine Pw.block ?_ | refine Pw.exit ?_ | refine Pw.inX ?_ | refine Pw.inN ?_ | refine Pw.inR ?_ | refine Pw.thenX ?_ | refine Pw.thenR ?_ | refine Pw.ret ?_) | refine Pw.list (Pw.pure rfl rfl rfl ?_) | refine Pw.inY rfl ?_ | refine Pw.list (Pw.off rfl rfl ?_) | refine Pw.condT rfl ?_ | refine Pw.condF rfl ?_ | refine Pw.list (Pw.box rfl rfl rfl rfl (fun _ => ?_)) | refine Pw.list (Pw.alloc rfl rfl rfl rfl rfl (fun _ => ?_)) | refine Pw.list (Pw.build rfl rfl rfl rfl ?_) | refine Pw.list (Pw.ld rfl inferInstance rfl rfl rfl ?_) | refine Pw.list (Pw.sto rfl rfl inferInstance rfl rfl rfl rfl rfl inferInstance rfl ?_))
  refine Pw.condD rfl (fun c => absurd c (by omega)) (fun _ => ?_)
  repeat (first | (with_reducible first | refine Pw.seq ?_ | refine Pw.region ?_ | refine Pw.nil ?_ | refine Pw.then_ ?_ | refine Pw.skip ?_ | refine Pw.block ?_ | refine Pw.exit ?_ | refine Pw.inX ?_ | refine Pw.inN ?_ | refine Pw.inR ?_ | refine Pw.thenX ?_ | refine Pw.thenR ?_ | refine Pw.ret ?_) | refine Pw.list (Pw.pure rfl rfl rfl ?_) | refine Pw.inY rfl ?_ | refine Pw.list (Pw.off rfl rfl ?_) | refine Pw.condT rfl ?_ | refine Pw.condF rfl ?_ | refine Pw.list (Pw.box rfl rfl rfl rfl (fun _ => ?_)) | refine Pw.list (Pw.alloc rfl rfl rfl rfl rfl (fun _ => ?_)) | refine Pw.list (Pw.build rfl rfl rfl rfl ?_) | refine Pw.list (Pw.ld rfl inferInstance rfl rfl rfl ?_) | refine Pw.list (Pw.sto rfl rfl inferInstance rfl rfl rfl rfl rfl inferInstance rfl ?_))
  obtain ⟨h2, h3⟩ := u8_lt n
  refine Pw.list (Pw.strIx rfl rfl rfl h2 (getElem?_pos _ _ (by show (IntKind.u8.wrap n).toNat < 256; omega)) rfl rfl ?_)
  repeat (first | (with_reducible first | refine Pw.seq ?_ | refine Pw.region ?_ | refine Pw.nil ?_ | refine Pw.then_ ?_ | refine Pw.skip ?_ | refine Pw.block ?_ | refine Pw.exit ?_ | refine Pw.inX ?_ | refine Pw.inN ?_ | refine Pw.inR ?_ | refine Pw.thenX ?_ | refine Pw.thenR ?_ | refine Pw.ret ?_) | refine Pw.list (Pw.pure rfl rfl rfl ?_) | refine Pw.inY rfl ?_ | refine Pw.list (Pw.off rfl rfl ?_) | refine Pw.condT rfl ?_ | refine Pw.condF rfl ?_ | refine Pw.list (Pw.box rfl rfl rfl rfl (fun _ => ?_)) | refine Pw.list (Pw.alloc rfl rfl rfl rfl rfl (fun _ => ?_)) | refine Pw.list (Pw.build rfl rfl rfl rfl ?_) | refine Pw.list (Pw.ld rfl inferInstance rfl rfl rfl ?_) | refine Pw.list (Pw.sto rfl rfl inferInstance rfl rfl rfl rfl rfl inferInstance rfl ?_))
  exact Pw.ret_ (x := _) (.tmp rfl .nil) rfl trivial (fun w h => by trivial)
theorem Len_ct (n : Int) (h0 : 0 ≤ n) (h1 : n < 256) : Ct Try.prog 56 #[.int .u64 n] (fun _ => True) (fun r : Int => .int .i64 r) (fun _ => True) (fun _ _ => True) := by
  refine Ct.start Try.func56 rfl rfl (slots_of rfl slots1) (fun D w0 => ?_)
  repeat (first | (with_reducible first | refine Pw.seq ?_ | refine Pw.region ?_ | refine Pw.nil ?_ | refine Pw.then_ ?_ | refine Pw.skip ?_ | refine Pw.block ?_ | refine Pw.exit ?_ | refine Pw.inX ?_ | refine Pw.inN ?_ | refine Pw.inR ?_ | refine Pw.thenX ?_ | refine Pw.thenR ?_ | refine Pw.ret ?_) | refine Pw.list (Pw.pure rfl rfl rfl ?_) | refine Pw.inY rfl ?_ | refine Pw.list (Pw.off rfl rfl ?_) | refine Pw.condT rfl ?_ | refine Pw.condF rfl ?_ | refine Pw.list (Pw.box rfl rfl rfl rfl (fun _ => ?_)) | refine Pw.list (Pw.alloc rfl rfl rfl rfl rfl (fun _ => ?_)) | refine Pw.list (Pw.build rfl rfl rfl rfl ?_) | refine Pw.list (Pw.ld rfl inferInstance rfl rfl rfl ?_) | refine Pw.list (Pw.sto rfl rfl inferInstance rfl rfl rfl rfl rfl inferInstance rfl ?_))
  refine Pw.list (Pw.call (Len64_ct n h0 h1) rfl rfl rfl (by kernel_rfl) rfl rfl (fun w h => trivial) ?_)
  intro r _
  repeat (first | (with_reducible first | refine Pw.seq ?_ | refine Pw.region ?_ | refine Pw.nil ?_ | refine Pw.then_ ?_ | refine Pw.skip ?_ | refine Pw.block ?_ | refine Pw.exit ?_ | refine Pw.inX ?_ | refine Pw.inN ?_ | refine Pw.inR ?_ | refine Pw.thenX ?_ | refine Pw.thenR ?_ | refine Pw.ret ?_) | refine Pw.list (Pw.pure rfl rfl rfl ?_) | refine Pw.inY rfl ?_ | refine Pw.list (Pw.off rfl rfl ?_) | refine Pw.condT rfl ?_ | refine Pw.condF rfl ?_ | refine Pw.list (Pw.box rfl rfl rfl rfl (fun _ => ?_)) | refine Pw.list (Pw.alloc rfl rfl rfl rfl rfl (fun _ => ?_)) | refine Pw.list (Pw.build rfl rfl rfl rfl ?_) | refine Pw.list (Pw.ld rfl inferInstance rfl rfl rfl ?_) | refine Pw.list (Pw.sto rfl rfl inferInstance rfl rfl rfl rfl rfl inferInstance rfl ?_))
  exact Pw.ret_ (x := r) (.tmp rfl .nil) rfl trivial (fun w h => by trivial)
theorem pdqR_ct (l : List Rt) (ex : List Value) (g c : Nat) (lim : Int) (hw : ∀ o ∈ l, RtL o) (hl : l.length ≤ 12) (hl0 : 1 ≤ l.length) :
    Ct1 Try.prog 55 #[.slice (some ⟨g, 0, none⟩) l.length c, .int .i64 0, .int .i64 l.length, .int .i64 lim, .func (.func 11) #[] #[]] g (row (l.flatMap encR ++ ex) 34) (AllR1 l) (fun _ : Unit => .tuple #[]) Tt (fun _ => row ((insR l.length l).flatMap encR ++ ex) 34) (fun _ _ => True) := by
  refine Ct1.start Try.func55 rfl rfl (slots_of (l := [.slice (some ⟨g, 0, none⟩) l.length c, .int .i64 0, .int .i64 l.length, .int .i64 lim, .func (.func 11) #[] #[]]) (K := [(0, .slice (some ⟨g, 0, none⟩) l.length c), (1, .int .i64 0), (2, .int .i64 l.length), (4, .func (.func 11) #[] #[])]) rfl (fun d v h => by
    rcases slots_cons (l := []) d v h with ⟨rfl, rfl⟩ | h
    · rfl
    · rcases slots_cons (l := []) d v h with ⟨rfl, rfl⟩ | h
      · rfl
      · rcases slots_cons (l := []) d v h with ⟨rfl, rfl⟩ | h
        · rfl
        · rcases slots_cons (l := []) d v h with ⟨rfl, rfl⟩ | h
          · rfl
          · cases h)) (fun D w0 hD => ?_)
  repeat (first | (with_reducible first | refine Pw.seq ?_ | refine Pw.region ?_ | refine Pw.nil ?_ | refine Pw.then_ ?_ | refine Pw.skip ?_ | refine Pw.block ?_ | refine Pw.exit ?_ | refine Pw.inX ?_ | refine Pw.inN ?_ | refine Pw.inR ?_ | refine Pw.thenX ?_ | refine Pw.thenR ?_ | refine Pw.ret ?_) | refine Pw.list (Pw.pure rfl rfl rfl ?_) | refine Pw.inY rfl ?_ | refine Pw.list (Pw.off rfl rfl ?_) | refine Pw.condT rfl ?_ | refine Pw.condF rfl ?_ | refine Pw.list (Pw.box rfl rfl rfl rfl (fun _ => ?_)) | refine Pw.list (Pw.alloc rfl rfl rfl rfl rfl (fun _ => ?_)) | refine Pw.list (Pw.build rfl rfl rfl rfl ?_) | refine Pw.list (Pw.ld rfl inferInstance rfl rfl rfl ?_) | refine Pw.list (Pw.sto rfl rfl inferInstance rfl rfl rfl rfl rfl inferInstance rfl ?_))
  refine Pw.rounds 2 (Pw.round ?_)
  repeat (first | (with_reducible first | refine Pw.seq ?_ | refine Pw.region ?_ | refine Pw.nil ?_ | refine Pw.then_ ?_ | refine Pw.skip ?_ | refine Pw.block ?_ | refine Pw.exit ?_ | refine Pw.inX ?_ | refine Pw.inN ?_ | refine Pw.inR ?_ | refine Pw.thenX ?_ | refine Pw.thenR ?_ | refine Pw.ret ?_) | refine Pw.list (Pw.pure rfl rfl rfl ?_) | refine Pw.inY rfl ?_ | refine Pw.list (Pw.off rfl rfl ?_) | refine Pw.condT rfl ?_ | refine Pw.condF rfl ?_ | refine Pw.list (Pw.box rfl rfl rfl rfl (fun _ => ?_)) | refine Pw.list (Pw.alloc rfl rfl rfl rfl rfl (fun _ => ?_)) | refine Pw.list (Pw.build rfl rfl rfl rfl ?_) | refine Pw.list (Pw.ld rfl inferInstance rfl rfl rfl ?_) | refine Pw.list (Pw.sto rfl rfl inferInstance rfl rfl rfl rfl rfl inferInstance rfl ?_))
  refine Pw.re (d := 24) (v' := .int .i64 l.length) rfl (congrArg (Value.int .i64) (by rw [wi64 (by omega) (by omega)]; omega)) ?_
  refine Pw.re (d := 25) (v' := .bool true) rfl (congrArg Value.bool (decide_eq_true (by rw [wi64 (by omega) (by omega)]; omega))) ?_
  repeat (first | (with_reducible first | refine Pw.seq ?_ | refine Pw.region ?_ | refine Pw.nil ?_ | refine Pw.then_ ?_ | refine Pw.skip ?_ | refine Pw.block ?_ | refine Pw.exit ?_ | refine Pw.inX ?_ | refine Pw.inN ?_ | refine Pw.inR ?_ | refine Pw.thenX ?_ | refine Pw.thenR ?_ | refine Pw.ret ?_) | refine Pw.list (Pw.pure rfl rfl rfl ?_) | refine Pw.inY rfl ?_ | refine Pw.list (Pw.off rfl rfl ?_) | refine Pw.condT rfl ?_ | refine Pw.condF rfl ?_ | refine Pw.list (Pw.box rfl rfl rfl rfl (fun _ => ?_)) | refine Pw.list (Pw.alloc rfl rfl rfl rfl rfl (fun _ => ?_)) | refine Pw.list (Pw.build rfl rfl rfl rfl ?_) | refine Pw.list (Pw.ld rfl inferInstance rfl rfl rfl ?_) | refine Pw.list (Pw.sto rfl rfl inferInstance rfl rfl rfl rfl rfl inferInstance rfl ?_))
  refine Pw.list (Pw.call1 (insertionR_ct l ex g c l.length hw (Nat.le_refl _) (by omega) hl0) rfl rfl rfl (by kernel_rfl) rfl rfl (fun w h => (hv w h)) (.head _) (fun _ => .head) ?_)
  intro _ _
  repeat (first | (with_reducible first | refine Pw.seq ?_ | refine Pw.region ?_ | refine Pw.nil ?_ | refine Pw.then_ ?_ | refine Pw.skip ?_ | refine Pw.block ?_ | refine Pw.exit ?_ | refine Pw.inX ?_ | refine Pw.inN ?_ | refine Pw.inR ?_ | refine Pw.thenX ?_ | refine Pw.thenR ?_ | refine Pw.ret ?_) | refine Pw.list (Pw.pure rfl rfl rfl ?_) | refine Pw.inY rfl ?_ | refine Pw.list (Pw.off rfl rfl ?_) | refine Pw.condT rfl ?_ | refine Pw.condF rfl ?_ | refine Pw.list (Pw.box rfl rfl rfl rfl (fun _ => ?_)) | refine Pw.list (Pw.alloc rfl rfl rfl rfl rfl (fun _ => ?_)) | refine Pw.list (Pw.build rfl rfl rfl rfl ?_) | refine Pw.list (Pw.ld rfl inferInstance rfl rfl rfl ?_) | refine Pw.list (Pw.sto rfl rfl inferInstance rfl rfl rfl rfl rfl inferInstance rfl ?_))
  exact Pw.ret1 (x := ()) hD (.head _) .nil rfl trivial (fun w h => by trivial)
theorem SortFuncR_ct (l : List Rt) (ex : List Value) (g c : Nat) (hw : ∀ o ∈ l, RtL o) (hl : l.length ≤ 12) (hl0 : 1 ≤ l.length) :
    Ct1 Try.prog 37 #[.slice (some ⟨g, 0, none⟩) l.length c, .func (.func 11) #[] #[]] g (row (l.flatMap encR ++ ex) 34) (AllR1 l) (fun _ : Unit => .tuple #[]) Tt (fun _ => row ((insR l.length l).flatMap encR ++ ex) 34) (fun _ _ => True) := by
  refine Ct1.start Try.func37 rfl rfl (slots_of rfl slots2) (fun D w0 hD => ?_)
  repeat (first | (with_reducible first | refine Pw.seq ?_ | refine Pw.region ?_ | refine Pw.nil ?_ | refine Pw.then_ ?_ | refine Pw.skip ?_ | refine Pw.block ?_ | refine Pw.exit ?_ | refine Pw.inX ?_ | refine Pw.inN ?_ | refine Pw.inR ?_ | refine Pw.thenX ?_ | refine Pw.thenR ?_ | refine Pw.ret ?_) | refine Pw.list (Pw.pure rfl rfl rfl ?_) | refine Pw.inY rfl ?_ | refine Pw.list (Pw.off rfl rfl ?_) | refine Pw.condT rfl ?_ | refine Pw.condF rfl ?_ | refine Pw.list (Pw.box rfl rfl rfl rfl (fun _ => ?_)) | refine Pw.list (Pw.alloc rfl rfl rfl rfl rfl (fun _ => ?_)) | refine Pw.list (Pw.build rfl rfl rfl rfl ?_) | refine Pw.list (Pw.ld rfl inferInstance rfl rfl rfl ?_) | refine Pw.list (Pw.sto rfl rfl inferInstance rfl rfl rfl rfl rfl inferInstance rfl ?_))
  refine Pw.re (d := 10) (v' := .int .u64 l.length) rfl (congrArg (Value.int .u64) (wu (by omega) (by omega))) ?_
  refine Pw.list (Pw.call (Len_ct l.length (by omega) (by omega)) rfl rfl rfl (by kernel_rfl) rfl rfl (fun w h => trivial) ?_)
  intro lim _
  repeat (first | (with_reducible first | refine Pw.seq ?_ | refine Pw.region ?_ | refine Pw.nil ?_ | refine Pw.then_ ?_ | refine Pw.skip ?_ | refine Pw.block ?_ | refine Pw.exit ?_ | refine Pw.inX ?_ | refine Pw.inN ?_ | refine Pw.inR ?_ | refine Pw.thenX ?_ | refine Pw.thenR ?_ | refine Pw.ret ?_) | refine Pw.list (Pw.pure rfl rfl rfl ?_) | refine Pw.inY rfl ?_ | refine Pw.list (Pw.off rfl rfl ?_) | refine Pw.condT rfl ?_ | refine Pw.condF rfl ?_ | refine Pw.list (Pw.box rfl rfl rfl rfl (fun _ => ?_)) | refine Pw.list (Pw.alloc rfl rfl rfl rfl rfl (fun _ => ?_)) | refine Pw.list (Pw.build rfl rfl rfl rfl ?_) | refine Pw.list (Pw.ld rfl inferInstance rfl rfl rfl ?_) | refine Pw.list (Pw.sto rfl rfl inferInstance rfl rfl rfl rfl rfl inferInstance rfl ?_))
  refine Pw.list (Pw.call1 (pdqR_ct l ex g c lim hw hl hl0) rfl rfl rfl (by kernel_rfl) rfl rfl (fun w h => (hv w h)) (.head _) (fun _ => .head) ?_)
  intro _ _
  repeat (first | (with_reducible first | refine Pw.seq ?_ | refine Pw.region ?_ | refine Pw.nil ?_ | refine Pw.then_ ?_ | refine Pw.skip ?_ | refine Pw.block ?_ | refine Pw.exit ?_ | refine Pw.inX ?_ | refine Pw.inN ?_ | refine Pw.inR ?_ | refine Pw.thenX ?_ | refine Pw.thenR ?_ | refine Pw.ret ?_) | refine Pw.list (Pw.pure rfl rfl rfl ?_) | refine Pw.inY rfl ?_ | refine Pw.list (Pw.off rfl rfl ?_) | refine Pw.condT rfl ?_ | refine Pw.condF rfl ?_ | refine Pw.list (Pw.box rfl rfl rfl rfl (fun _ => ?_)) | refine Pw.list (Pw.alloc rfl rfl rfl rfl rfl (fun _ => ?_)) | refine Pw.list (Pw.build rfl rfl rfl rfl ?_) | refine Pw.list (Pw.ld rfl inferInstance rfl rfl rfl ?_) | refine Pw.list (Pw.sto rfl rfl inferInstance rfl rfl rfl rfl rfl inferInstance rfl ?_))
  exact Pw.ret1N (x := ()) hD (.head _) .nil rfl trivial (fun w h => by trivial)
theorem insR_len (i : Nat) (l : List Rt) : (insR i l).length = l.length := by
  have hs : ∀ (j : Nat) (l : List Rt), (sinkR j l).length = l.length := by
    intro j
    induction j with
    | zero => intro l; rfl
    | succ j ih =>
      intro l
      unfold sinkR
      split
      · split
        · rw [ih, swapR_len]
        · rfl
      · rfl
  induction i with
  | zero => rfl
  | succ i ih => rw [insR_succ, hs, ih]
theorem SortedFuncR_ct (l : List Rt) (x : Option Addr × Nat) (g : Nat) (hw : ∀ o ∈ l, RtL o) (hl : l.length ≤ 12) (hl0 : 1 ≤ l.length) (hp : ∀ o ∈ insR l.length l, o ∈ l) :
    Ct Try.prog 18 #[vfR g, .func (.func 11) #[] #[]] (preR l x g) (fun z : Option Addr × Nat => rsV (insR l.length l) z) Tt (fun z => RS (insR l.length l) z) := by
  refine Ct.start Try.func18 rfl rfl (slots_of rfl slots2) (fun D w0 => ?_)
  repeat (first | (with_reducible first | refine Pw.seq ?_ | refine Pw.region ?_ | refine Pw.nil ?_ | refine Pw.then_ ?_ | refine Pw.skip ?_ | refine Pw.block ?_ | refine Pw.exit ?_ | refine Pw.inX ?_ | refine Pw.inN ?_ | refine Pw.inR ?_ | refine Pw.thenX ?_ | refine Pw.thenR ?_ | refine Pw.ret ?_) | refine Pw.list (Pw.pure rfl rfl rfl ?_) | refine Pw.inY rfl ?_ | refine Pw.list (Pw.off rfl rfl ?_) | refine Pw.condT rfl ?_ | refine Pw.condF rfl ?_)
  refine Pw.list (Pw.callL (CollectR_ct l x g (by omega)) rfl rfl rfl (by kernel_rfl) rfl rfl (fun w h => fact0 h) ?_)
  intro q hq
  obtain _ | ⟨g2, cap2, ex2⟩ := q
  · have := hq.1; omega
  refine Pw.facts (G' := [AllR1 l]) (fun w h => allCons (fun o ho => by
    obtain ⟨j, hj⟩ := List.getElem?_of_mem ho
    have h1 : RS l x w := (fact1 h).2
    obtain ⟨ad, cs, _, _, ⟨_, h2⟩, _⟩ := h1.2.2 j o hj
    exact h2) allNil) ?_
  repeat (first | (with_reducible first | refine Pw.seq ?_ | refine Pw.region ?_ | refine Pw.nil ?_ | refine Pw.then_ ?_ | refine Pw.skip ?_ | refine Pw.block ?_ | refine Pw.exit ?_ | refine Pw.inX ?_ | refine Pw.inN ?_ | refine Pw.inR ?_ | refine Pw.thenX ?_ | refine Pw.thenR ?_ | refine Pw.ret ?_) | refine Pw.list (Pw.pure rfl rfl rfl ?_) | refine Pw.inY rfl ?_ | refine Pw.list (Pw.off rfl rfl ?_) | refine Pw.condT rfl ?_ | refine Pw.condF rfl ?_)
  refine Pw.list (Pw.call1 (SortFuncR_ct l ex2 g2 cap2 hw hl hl0) rfl rfl rfl (by kernel_rfl) rfl rfl (fun w h => (hv w h)) (.head _) (fun _ => .head) ?_)
  intro _ _
  repeat (first | (with_reducible first | refine Pw.seq ?_ | refine Pw.region ?_ | refine Pw.nil ?_ | refine Pw.then_ ?_ | refine Pw.skip ?_ | refine Pw.block ?_ | refine Pw.exit ?_ | refine Pw.inX ?_ | refine Pw.inN ?_ | refine Pw.inR ?_ | refine Pw.thenX ?_ | refine Pw.thenR ?_ | refine Pw.ret ?_) | refine Pw.list (Pw.pure rfl rfl rfl ?_) | refine Pw.inY rfl ?_ | refine Pw.list (Pw.off rfl rfl ?_) | refine Pw.condT rfl ?_ | refine Pw.condF rfl ?_)
  refine freeHead ?_
  exact Pw.ret_ (x := (some ⟨g2, 0, none⟩, cap2)) (.tmp rfl .nil) (by show Value.slice _ l.length cap2 = Value.slice _ (insR l.length l).length cap2; rw [insR_len]) trivial (fun w h => rows_of_row (fact0 h) (fun _ _ => rfl) (fun o ho => (hv w h : AllR1 l w) o (hp o ho)) (by rw [insR_len]; exact hq.2.1) (by rw [insR_len]; simp only [maxLen]; omega) (by omega))
end Go.Proofs.Wk
/- A stake given anew: the level to which it raises. The plain law. -/
namespace Go.Proofs.Wk
set_option linter.unusedVariables false
set_option linter.unusedSimpArgs false
/-- What one gets, at a level. -/
def gn (v s : Rat) : Rat := if s < v then v - s else 0
def sumR : List Rat → Rat
  | [] => 0
  | x :: r => x + sumR r
def gain (ws : List Rat) (v : Rat) : Rat := sumR (ws.map (gn v))
/-- The level that a stake reaches. -/
structure Lev (ws : List Rat) (st v : Rat) : Prop where
  low : ∃ s ∈ ws, s ≤ v
  fill : gain ws v = st
theorem sumR_perm {a b : List Rat} (h : a.Perm b) : sumR a = sumR b := by
  induction h with
  | nil => rfl
  | cons x _ ih => simp only [sumR, ih]
  | swap x y l => simp only [sumR]; grind
  | trans _ _ i1 i2 => exact i1.trans i2
theorem sumR_append (a b : List Rat) : sumR (a ++ b) = sumR a + sumR b := by
  induction a with
  | nil => simp only [List.nil_append, sumR]; grind
  | cons x r ih => simp only [List.cons_append, sumR, ih]; grind
theorem gain_perm {a b : List Rat} (h : a.Perm b) (v : Rat) : gain a v = gain b v := sumR_perm (h.map _)
theorem gn_nn (v s : Rat) : 0 ≤ gn v s := by unfold gn; grind
theorem gn_mono {v u s : Rat} (h : v ≤ u) : gn v s ≤ gn u s := by unfold gn; grind
theorem gn_lt {v u s : Rat} (h : v < u) (hs : s ≤ v) : gn v s < gn u s := by unfold gn; grind
theorem gain_mono {ws : List Rat} {v u : Rat} (h : v ≤ u) : gain ws v ≤ gain ws u := by
  unfold gain
  induction ws with
  | nil => exact Rat.le_refl
  | cons x r ih => simp only [List.map_cons, sumR]; have := gn_mono (s := x) h; grind
theorem gain_lt {ws : List Rat} {v u s : Rat} (h : v < u) (hs : s ≤ v) (hm : s ∈ ws) : gain ws v < gain ws u := by
  unfold gain
  induction ws with
  | nil => cases hm
  | cons x r ih =>
    simp only [List.map_cons, sumR]
    rcases List.mem_cons.1 hm with rfl | hm
    · have h1 := gn_lt h hs
      have h2 : gain r v ≤ gain r u := gain_mono (Rat.le_of_lt h)
      unfold gain at h2; grind
    · have h1 := ih hm
      have h2 := gn_mono (s := x) (Rat.le_of_lt h)
      grind
theorem lev_uniq {ws : List Rat} {st v u : Rat} (h : Lev ws st v) (h' : Lev ws st u) : v = u := by
  obtain ⟨⟨s, hs, hv⟩, e⟩ := h
  obtain ⟨⟨t, ht, hu⟩, e'⟩ := h'
  by_cases h1 : v < u
  · have := gain_lt h1 hv hs; grind
  · by_cases h2 : u < v
    · have := gain_lt h2 hu ht; grind
    · grind
theorem gain_all {ws : List Rat} {v : Rat} (h : ∀ s ∈ ws, s ≤ v) : gain ws v = (ws.length : Int) * v - sumR ws := by
  unfold gain
  induction ws with
  | nil => simp only [List.map_nil, sumR, List.length_nil]; have e : (((0 : Nat) : Int) : Rat) = 0 := rfl; rw [e]; grind
  | cons x r ih =>
    simp only [List.map_cons, sumR, List.length_cons]
    have h1 := ih (fun s hs => h s (List.mem_cons_of_mem _ hs))
    have h2 : gn v x = v - x := by have := h x (List.mem_cons_self ..); unfold gn; grind
    rw [h1, h2, Int.natCast_add, Rat.intCast_add]
    have e : (((1 : Nat) : Int) : Rat) = 1 := rfl
    rw [e]; grind
theorem gain_none {ws : List Rat} {v : Rat} (h : ∀ s ∈ ws, v ≤ s) : gain ws v = 0 := by
  unfold gain
  induction ws with
  | nil => rfl
  | cons x r ih =>
    simp only [List.map_cons, sumR]
    have h1 := ih (fun s hs => h s (List.mem_cons_of_mem _ hs))
    have h2 : gn v x = 0 := by have := h x (List.mem_cons_self ..); unfold gn; grind
    rw [h1, h2]; grind
theorem gain_append (a b : List Rat) (v : Rat) : gain (a ++ b) v = gain a v + gain b v := by unfold gain; rw [List.map_append, sumR_append]
/-! ### The flood -/
/-- Behind the first j of supports that rise. -/
structure Fld (so : List Rat) (st : Rat) (j : Nat) (v : Rat) : Prop where
  sum : v * (j : Int) = st + sumR (so.take j)
  le : ∀ s ∈ so.take j, s ≤ v
theorem sumR_snoc {l : List Rat} {j : Nat} {s : Rat} (h : l[j]? = some s) : sumR (l.take (j + 1)) = sumR (l.take j) + s := by
  rw [take_snoc h, sumR_append]; simp only [sumR]; grind
theorem fld_next {so : List Rat} {st v s : Rat} {j : Nat} (hso : so.Pairwise (· ≤ ·)) (hs : so[j]? = some s) (h : Fld so st j v) (hlt : s < v) : Fld so st (j + 1) ((st + sumR (so.take j) + s) / ((j + 1 : Nat) : Int)) := by
  have hj : (0 : Rat) ≤ ((j : Int) : Rat) := Rat.intCast_nonneg.2 (by omega)
  have e1 : (((j + 1 : Nat) : Int) : Rat) = ((j : Int) : Rat) + 1 := by rw [Int.natCast_add, Rat.intCast_add]; rfl
  have hne : (((j + 1 : Nat) : Int) : Rat) ≠ 0 := by rw [e1]; grind
  have hm : (st + sumR (so.take j) + s) / ((j + 1 : Nat) : Int) * ((j + 1 : Nat) : Int) = st + sumR (so.take j) + s := Rat.div_mul_cancel hne
  have hge : s ≤ (st + sumR (so.take j) + s) / ((j + 1 : Nat) : Int) := by
    have h1 := h.sum
    have h2 : s * (j : Int) ≤ v * (j : Int) := Rat.mul_le_mul_of_nonneg_right (Rat.le_of_lt hlt) hj
    have h3 : s * (((j + 1 : Nat) : Int) : Rat) ≤ (st + sumR (so.take j) + s) / ((j + 1 : Nat) : Int) * ((j + 1 : Nat) : Int) := by
      rw [hm, e1, Rat.mul_add, Rat.mul_one]; grind
    exact Rat.le_of_mul_le_mul_right h3 (by rw [e1]; grind)
  refine ⟨by rw [hm, sumR_snoc hs]; grind, fun t ht => ?_⟩
  rw [take_snoc hs] at ht
  rcases List.mem_append.1 ht with ht | ht
  · obtain ⟨i, hi⟩ := List.getElem?_of_mem ht
    rw [List.getElem?_take] at hi
    split at hi
    · obtain ⟨q1, q2⟩ := List.getElem?_eq_some_iff.1 hi
      obtain ⟨q3, q4⟩ := List.getElem?_eq_some_iff.1 hs
      have := List.pairwise_iff_getElem.1 hso i j q1 q3 (by omega)
      rw [q2, q4] at this
      exact Rat.le_trans this hge
    · cases hi
  · rw [List.mem_singleton.1 ht]; exact hge
theorem fld_first {so : List Rat} {st s : Rat} (hs : so[0]? = some s) (h0 : 0 ≤ st) : Fld so st 1 (st + s) := by
  have e : so.take 1 = [s] := by have := take_snoc hs; simpa using this
  refine ⟨by rw [e]; simp only [sumR]; have e1 : (((1 : Nat) : Int) : Rat) = 1 := rfl; rw [e1]; grind, fun t ht => ?_⟩
  rw [e] at ht; rw [List.mem_singleton.1 ht]; grind
theorem fld_end {so ws : List Rat} {st v : Rat} {j : Nat} (hp : so.Perm ws) (hso : so.Pairwise (· ≤ ·)) (hj : 0 < j) (hjl : j ≤ so.length) (h : Fld so st j v) (hend : ∀ s, so[j]? = some s → v ≤ s) : Lev ws st v := by
  constructor
  · obtain ⟨s, hs, hm⟩ := get_at (show 0 < so.length by omega)
    exact ⟨s, hp.mem_iff.1 hm, h.le s (List.mem_of_getElem? (show (so.take j)[0]? = some s by rw [List.getElem?_take, if_pos hj]; exact hs))⟩
  · rw [← gain_perm hp]
    conv => lhs; rw [← List.take_append_drop j so]
    have h1 := h.sum
    rw [gain_append, gain_all h.le, gain_none (ws := so.drop j) (fun s hs => ?_)]
    · rw [List.length_take, Nat.min_eq_left hjl]
      rw [Rat.mul_comm]; grind
    · obtain ⟨i, hi⟩ := List.getElem?_of_mem hs
      rw [List.getElem?_drop] at hi
      rcases Nat.eq_zero_or_pos i with rfl | h0
      · exact hend s hi
      · obtain ⟨q1, q2⟩ := List.getElem?_eq_some_iff.1 hi
        have hjl2 : j < so.length := by omega
        have := List.pairwise_iff_getElem.1 hso j (j + i) hjl2 q1 (by omega)
        rw [q2] at this
        exact Rat.le_trans (hend _ (List.getElem?_eq_getElem hjl2)) this
/-! ### The document's level -/
/-- Those that are at most as high. -/
def below (ws : List Rat) (v : Rat) : List Rat := ws.filter fun s => decide (s ≤ v)
theorem len_ne {n : Nat} (h : 0 < n) : (((n : Nat) : Int) : Rat) ≠ 0 := fun e => by
  have h1 := Rat.intCast_eq_zero_iff.1 e
  omega
/-! ### Over one denominator -/
def Mult (D : Nat) (x : Rat) : Prop := ∃ k : Int, x * (D : Int) = k
theorem mult_add {D : Nat} {x y : Rat} (hx : Mult D x) (hy : Mult D y) : Mult D (x + y) := by
  obtain ⟨a, ha⟩ := hx; obtain ⟨b, hb⟩ := hy
  exact ⟨a + b, by rw [Rat.add_mul, ha, hb, Rat.intCast_add]⟩
theorem mult_sub {D : Nat} {x y : Rat} (hx : Mult D x) (hy : Mult D y) : Mult D (x - y) := by
  obtain ⟨a, ha⟩ := hx; obtain ⟨b, hb⟩ := hy
  exact ⟨a - b, by rw [Rat.intCast_sub, ← ha, ← hb]; grind⟩
theorem mult_int (D : Nat) (k : Int) : Mult D (k : Rat) := ⟨k * D, by rw [Rat.intCast_mul]⟩
theorem mult_more {D : Nat} {x : Rat} (h : Mult D x) (E : Nat) : Mult (E * D) x := by
  obtain ⟨a, ha⟩ := h
  exact ⟨E * a, by rw [Int.natCast_mul, Rat.intCast_mul, Rat.intCast_mul, ← ha]; grind⟩
theorem mult_div {D E n : Nat} {x : Rat} (h : Mult D x) (hn : 0 < n) (hE : n ∣ E) : Mult (E * D) (x / (n : Int)) := by
  obtain ⟨a, ha⟩ := h
  obtain ⟨c, rfl⟩ := hE
  have hne := len_ne hn
  refine ⟨c * a, ?_⟩
  rw [Int.natCast_mul, Int.natCast_mul, Rat.intCast_mul, Rat.intCast_mul, Rat.intCast_mul, ← ha]
  have : x / ((n : Int) : Rat) * ((n : Int) : Rat) = x := Rat.div_mul_cancel hne
  grind
theorem num_den (x : Rat) : x * ((x.den : Int) : Rat) = (x.num : Int) := by
  have hd : ((x.den : Int) : Rat) ≠ 0 := len_ne (by have := x.den_nz; omega)
  have h : ((x.num : Int) : Rat) / ((x.den : Int) : Rat) = x := by rw [← Rat.divInt_eq_div, Rat.num_divInt_den]
  have h2 : ((x.num : Int) : Rat) / ((x.den : Int) : Rat) * ((x.den : Int) : Rat) = ((x.num : Int) : Rat) := Rat.div_mul_cancel hd
  rwa [h] at h2
theorem mult_self (x : Rat) : Mult x.den x := ⟨x.num, num_den x⟩
theorem mult_den {D : Nat} {x : Rat} (h : Mult D x) (hD : 0 < D) : x.den ∣ D := by
  obtain ⟨k, hk⟩ := h
  have hx := num_den x
  have e : x.num * (D : Int) = k * (x.den : Int) := by
    have h1 : ((x.num * (D : Int) : Int) : Rat) = ((k * (x.den : Int) : Int) : Rat) := by
      rw [Rat.intCast_mul, Rat.intCast_mul, ← hx, ← hk]; grind
    exact Rat.intCast_inj.1 h1
  have e2 : x.num.natAbs * D = k.natAbs * x.den := by
    have := congrArg Int.natAbs e
    rwa [Int.natAbs_mul, Int.natAbs_mul, Int.natAbs_natCast, Int.natAbs_natCast] at this
  have h3 : x.den ∣ x.num.natAbs * D := ⟨k.natAbs, by rw [e2, Nat.mul_comm]⟩
  exact (Nat.Coprime.symm x.reduced).dvd_of_dvd_mul_left h3
/-- A number over D below B: how great it is in limbs. -/
theorem mult_sz {D d b : Nat} {x : Rat} (h : Mult D x) (h0 : 0 ≤ x) (hD : 0 < D) (hd : (D : Int) < pw d) (hb : x < ((pw b : Int) : Rat)) : Sz (b + d) x := by
  have h1 := Nat.le_of_dvd hD (mult_den h hD)
  have h2 := den_pos x
  have h3 := num_pos h0
  have h4 := pw_le (show d ≤ b + d by omega)
  have h5 : x.num < pw b * x.den := by
    have := (Rat.lt_iff x _).1 hb
    rw [Rat.num_intCast, Rat.den_intCast] at this
    simpa using this
  have h6 : pw b * (x.den : Int) ≤ pw b * (D : Int) := Int.mul_le_mul_of_nonneg_left (by omega) (by have := pw_pos b; omega)
  have h7 : pw b * (D : Int) < pw b * pw d := Int.mul_lt_mul_of_pos_left hd (pw_pos b)
  exact ⟨h0, by rw [pw_add]; omega, by omega⟩
theorem mult_sumR {D : Nat} {l : List Rat} (h : ∀ x ∈ l, Mult D x) : Mult D (sumR l) := by
  induction l with
  | nil => exact mult_int D 0
  | cons x r ih => exact mult_add (h x (List.mem_cons_self ..)) (ih (fun y hy => h y (List.mem_cons_of_mem _ hy)))
theorem den_lt {x : Rat} {n : Nat} (h : Sz n x) : x < ((pw n : Int) : Rat) := by
  rw [Rat.lt_iff, Rat.num_intCast, Rat.den_intCast]
  have h1 := den_pos x
  have h2 := h.n
  have h3 : pw n * 1 ≤ pw n * (x.den : Int) := Int.mul_le_mul_of_nonneg_left (by omega) (by have := pw_pos n; omega)
  simp; omega
/-- One denominator for all. -/
theorem one_den {n : Nat} : ∀ (l : List Rat), (∀ x ∈ l, (x.den : Int) ≤ pw n) → ∃ D : Nat, 0 < D ∧ (D : Int) ≤ pw (n * l.length) ∧ ∀ x ∈ l, Mult D x
  | [], _ => ⟨1, by omega, by simp [pw], fun x h => by cases h⟩
  | x :: r, h => by
    obtain ⟨D, h1, h2, h3⟩ := one_den r (fun y hy => h y (List.mem_cons_of_mem _ hy))
    have h4 := h x (List.mem_cons_self ..)
    have hd := x.den_nz
    refine ⟨x.den * D, Nat.mul_pos (by omega) h1, ?_, fun y hy => ?_⟩
    · rw [List.length_cons, Nat.mul_add, Nat.mul_one, Nat.add_comm, pw_add, Int.natCast_mul]
      exact Int.mul_le_mul h4 h2 (by omega) (by have := pw_pos n; omega)
    · rcases List.mem_cons.1 hy with rfl | hy
      · rw [Nat.mul_comm]; exact mult_more (mult_self _) D
      · exact mult_more (h3 y hy) _
end Go.Proofs.Wk
/- A stake given anew: balance.flood walked. -/
namespace Go.Proofs.Wk
open Go.RowKit
set_option maxRecDepth 100000
set_option maxHeartbeats 2000000
attribute [local irreducible] Pw OpG
set_option linter.unusedVariables false
set_option linter.unusedSimpArgs false
/-- Supports and a stake of a size that is dealt with. -/
structure TQ (D d b : Nat) (ws : List Rat) (st : Int) : Prop where
  D0 : 0 < D
  Dd : ((840 * D : Nat) : Int) < pw d
  m : ∀ s ∈ ws, Mult D s ∧ 0 ≤ s ∧ s < ((pw b : Int) : Rat)
  st : 0 ≤ st ∧ st ≤ 18446744073709551615
  b2 : 2 ≤ b
  len : 1 ≤ ws.length ∧ ws.length ≤ 8
  cap : b + d ≤ 120
theorem sumR_le {B : Rat} : ∀ {l : List Rat}, (∀ s ∈ l, s ≤ B) → sumR l ≤ (l.length : Int) * B
  | [], _ => by simp only [sumR, List.length_nil]; have e : (((0 : Nat) : Int) : Rat) = 0 := rfl; rw [e]; grind
  | x :: r, h => by
    have h1 := sumR_le (l := r) (fun s hs => h s (List.mem_cons_of_mem _ hs))
    have h2 := h x (List.mem_cons_self ..)
    have e : (((1 : Nat) : Int) : Rat) = 1 := rfl
    simp only [sumR, List.length_cons, Int.natCast_add, Rat.intCast_add]
    rw [e]; grind
theorem sumR_nn {l : List Rat} (h : ∀ s ∈ l, 0 ≤ s) : 0 ≤ sumR l := by
  induction l with
  | nil => exact Rat.le_refl
  | cons x r ih =>
    simp only [sumR]
    have h1 := ih (fun s hs => h s (List.mem_cons_of_mem _ hs))
    have h2 := h x (List.mem_cons_self ..)
    grind
theorem TQ.perm {D d b : Nat} {ws ws' : List Rat} {st : Int} (h : TQ D d b ws st) (hp : ws'.Perm ws) : TQ D d b ws' st :=
  ⟨h.D0, h.Dd, fun s hs => h.m s (hp.mem_iff.1 hs), h.st, h.b2, by rw [hp.length_eq]; exact h.len, h.cap⟩
theorem TQ.dl {D d b : Nat} {ws : List Rat} {st : Int} (h : TQ D d b ws st) : (D : Int) < pw d := by have := h.Dd; omega
theorem TQ.s {D d b : Nat} {ws : List Rat} {st : Int} (h : TQ D d b ws st) {s : Rat} (hs : s ∈ ws) : Sz (b + d) s := by
  obtain ⟨h1, h2, h3⟩ := h.m s hs
  exact mult_sz h1 h2 h.D0 h.dl h3
/-- The sum of some of them, with the stake. -/
theorem TQ.sub {D d b : Nat} {ws l : List Rat} {st : Int} (h : TQ D d b ws st) (hl : ∀ s ∈ l, s ∈ ws) (hn : l.length ≤ 8) : Mult D ((st : Rat) + sumR l) ∧ 0 ≤ (st : Rat) + sumR l ∧ (st : Rat) + sumR l < ((pw (b + 1) : Int) : Rat) := by
  have h0 := sumR_nn (l := l) (fun s hs => (h.m s (hl s hs)).2.1)
  have h1 := sumR_le (B := ((pw b : Int) : Rat)) (l := l) (fun s hs => Rat.le_of_lt (h.m s (hl s hs)).2.2)
  have hst : (0 : Rat) ≤ (st : Rat) := Rat.intCast_nonneg.2 h.st.1
  refine ⟨mult_add (mult_int D st) (mult_sumR fun s hs => (h.m s (hl s hs)).1), by grind, ?_⟩
  have h2 : ((l.length : Int) : Rat) * ((pw b : Int) : Rat) ≤ ((8 * pw b : Int) : Rat) := by
    rw [← Rat.intCast_mul, Rat.intCast_le_intCast]
    exact Int.mul_le_mul_of_nonneg_right (by omega) (by have := pw_pos b; omega)
  have h3 : (st : Rat) + ((8 * pw b : Int) : Rat) < ((pw (b + 1) : Int) : Rat) := by
    rw [← Rat.intCast_add, Rat.intCast_lt_intCast, pw_add]
    have e : pw 1 = 4294967296 := rfl
    have e2 : pw 2 = 18446744073709551616 := rfl
    have := pw_le h.b2
    have := h.st
    rw [e]; omega
  grind
theorem TQ.lv {D d b n : Nat} {ws : List Rat} {st : Int} (h : TQ D d b ws st) {x : Rat} (hx : Mult D x ∧ 0 ≤ x ∧ x < ((pw (b + 1) : Int) : Rat)) (hn : 1 ≤ n) (hn8 : n ≤ 8) : Mult (840 * D) (x / ((n : Int) : Rat)) ∧ 0 ≤ x / ((n : Int) : Rat) ∧ x / ((n : Int) : Rat) < ((pw (b + 1) : Int) : Rat) := by
  have hne := len_ne (n := n) (by omega)
  have hnp : (1 : Rat) ≤ ((n : Int) : Rat) := by have e : ((1 : Int) : Rat) = 1 := rfl; rw [← e, Rat.intCast_le_intCast]; omega
  have hd : n ∣ 840 := by
    have h1 : n = 1 ∨ n = 2 ∨ n = 3 ∨ n = 4 ∨ n = 5 ∨ n = 6 ∨ n = 7 ∨ n = 8 := by omega
    rcases h1 with rfl | rfl | rfl | rfl | rfl | rfl | rfl | rfl <;> decide
  have hm : x / ((n : Int) : Rat) * ((n : Int) : Rat) = x := Rat.div_mul_cancel hne
  have h0 : 0 ≤ x / ((n : Int) : Rat) := by
    rw [Rat.div_def]; exact Rat.mul_nonneg hx.2.1 (Rat.le_of_lt (Rat.inv_pos.2 (by grind)))
  have hle : x / ((n : Int) : Rat) ≤ x := by
    have h2 : x / ((n : Int) : Rat) * 1 ≤ x / ((n : Int) : Rat) * ((n : Int) : Rat) := Rat.mul_le_mul_of_nonneg_left hnp h0
    rw [hm, Rat.mul_one] at h2; exact h2
  refine ⟨mult_div hx.1 (by omega) hd, h0, ?_⟩
  have := hx.2.2; grind
theorem TQ.sz {D d b : Nat} {ws : List Rat} {st : Int} (h : TQ D d b ws st) {x : Rat} (hx : Mult (840 * D) x ∧ 0 ≤ x ∧ x < ((pw (b + 1) : Int) : Rat)) : Sz (b + 1 + d) x :=
  mult_sz hx.1 hx.2.1 (Nat.mul_pos (by omega) h.D0) h.Dd hx.2.2
/-- The level behind the first j. -/
def FlJ (so : List Rat) (st : Int) (j : Nat) (a b : List Int) : Prop := 0 < j → ∃ v, Fld so st j v ∧ v = ((st : Rat) + sumR (so.take j)) / ((j : Int) : Rat) ∧ a = qn v ∧ b = qd v
def SU (so : List Rat) (st : Int) (j : Nat) : Rat := (st : Rat) + sumR (so.take j)
theorem SU_snoc {so : List Rat} {st : Int} {j : Nat} {s : Rat} (h : so[j]? = some s) : SU so st (j + 1) = SU so st j + s := by
  unfold SU; rw [sumR_snoc h]; grind
theorem take_mem {α : Type} {l : List α} {j : Nat} {x : α} (h : x ∈ l.take j) : x ∈ l := List.mem_of_mem_take h
theorem rtq_ex {s : Rt} {m : Nat} (h : RtQ m s) : ∃ (y : Rat) (z : Z2), s = ⟨qn y, qd y, z⟩ ∧ Sz m y ∧ rq s = y := by
  obtain ⟨a, b, z⟩ := s
  obtain ⟨h1, h2, h3⟩ := h
  dsimp only at h1 h2
  exact ⟨rq ⟨a, b, z⟩, z, by rw [← h1, ← h2], h3, rfl⟩
end Go.Proofs.Wk
/- A stake given anew: balance.flood walked. -/
namespace Go.Proofs.Wk
open Go.RowKit
set_option maxRecDepth 100000
set_option maxHeartbeats 4000000
attribute [local irreducible] Pw OpG
set_option linter.unusedVariables false
set_option linter.unusedSimpArgs false
theorem cmpQ_pos' {x y : Rat} : cmpQ x y > 0 ↔ y < x := by
  unfold cmpQ
  by_cases h : x < y
  · rw [if_pos h]; constructor
    · omega
    · intro h'; grind
  · rw [if_neg h]
    by_cases h2 : x = y
    · rw [if_pos h2]; constructor
      · omega
      · intro h'; grind
    · rw [if_neg h2]; constructor
      · intro _; grind
      · omega
theorem flood_ct {D d b : Nat} {ws : List Rat} {st : Int} (hT : TQ D d b ws st) (so : List Rt) (x : Option Addr × Nat) (hq : ∀ s ∈ so, RtQ (b + d) s) (hp : (so.map rq).Perm ws) (hso : (so.map rq).Pairwise (· ≤ ·)) :
    Ct Try.prog 20 #[.int .u64 st, rsV so x] (RS so x) (fun r : Rat × Z2 => .tuple #[qt r.1 r.2, .int .i64 0]) (fun r => Lev ws st r.1 ∧ (Mult (840 * D) r.1 ∧ 0 ≤ r.1 ∧ r.1 < ((pw (b + 1) : Int) : Rat))) (fun r => QW r.1 r.2) := by
  obtain ⟨A, c⟩ := x
  have hT2 := hT.perm hp
  have hlen := hT2.len
  rw [List.length_map] at hlen
  have hcap := hT.cap
  refine Ct.start Try.func20 rfl rfl (slots_of rfl slots2) (fun D0 w0 => ?_)
  repeat (first | (with_reducible first | refine Pw.seq ?_ | refine Pw.region ?_ | refine Pw.nil ?_ | refine Pw.then_ ?_ | refine Pw.skip ?_ | refine Pw.block ?_ | refine Pw.exit ?_ | refine Pw.inX ?_ | refine Pw.inN ?_ | refine Pw.inR ?_ | refine Pw.thenX ?_ | refine Pw.thenR ?_ | refine Pw.ret ?_) | refine Pw.list (Pw.pure rfl rfl rfl ?_) | refine Pw.inY rfl ?_ | refine Pw.list (Pw.off rfl rfl ?_) | refine Pw.condT rfl ?_ | refine Pw.condF rfl ?_ | refine Pw.list (Pw.box rfl rfl rfl rfl (fun _ => ?_)) | refine Pw.list (Pw.alloc rfl rfl rfl rfl rfl (fun _ => ?_)) | refine Pw.list (Pw.build rfl rfl rfl rfl ?_) | refine Pw.list (Pw.ld rfl inferInstance rfl rfl rfl ?_) | refine Pw.list (Pw.sto rfl rfl inferInstance rfl rfl rfl rfl rfl inferInstance rfl ?_))
  rename_i g4
  refine Pw.list (Pw.call (qOf_ct hT.st.1 hT.st.2) rfl rfl rfl (by kernel_rfl) rfl rfl (fun w h => trivial) ?_)
  intro z6 _
  repeat (first | (with_reducible first | refine Pw.seq ?_ | refine Pw.region ?_ | refine Pw.nil ?_ | refine Pw.then_ ?_ | refine Pw.skip ?_ | refine Pw.block ?_ | refine Pw.exit ?_ | refine Pw.inX ?_ | refine Pw.inN ?_ | refine Pw.inR ?_ | refine Pw.thenX ?_ | refine Pw.thenR ?_ | refine Pw.ret ?_) | refine Pw.list (Pw.pure rfl rfl rfl ?_) | refine Pw.inY rfl ?_ | refine Pw.list (Pw.off rfl rfl ?_) | refine Pw.condT rfl ?_ | refine Pw.condF rfl ?_ | refine Pw.list (Pw.box rfl rfl rfl rfl (fun _ => ?_)) | refine Pw.list (Pw.alloc rfl rfl rfl rfl rfl (fun _ => ?_)) | refine Pw.list (Pw.build rfl rfl rfl rfl ?_) | refine Pw.list (Pw.ld rfl inferInstance rfl rfl rfl ?_) | refine Pw.list (Pw.sto rfl rfl inferInstance rfl rfl rfl rfl rfl inferInstance rfl ?_))
  rename_i g6
  have e0 : ((st : Int) : Rat) = SU (so.map rq) st 0 := by unfold SU; simp only [List.take_zero, sumR]; grind
  refine Pw.facts (G' := [QW (SU (so.map rq) st 0) z6, R2 [] [] z0, RS so (A, c)]) (fun w h => allCons (by rw [← e0]; exact (hv w h : QW ((st : Int) : Rat) z6 w)) (allCons (R2.nil w) (allCons (hv w h) allNil))) ?_
  refine Pw.eqL (L' := [⟨g6, row [sl (qn (SU (so.map rq) st 0)) z6.1, sl (qd (SU (so.map rq) st 0)) z6.2] 34⟩, ⟨g4, row [sl [] z0.1, sl [] z0.2] 34⟩]) (by rw [← e0]; rfl) ?_
  refine Pw.loopJ (σ := Nat × Z2 × List Int × List Int × Z2) (fun t => t.1 ≤ so.length ∧ FlJ (so.map rq) st t.1 t.2.2.1 t.2.2.2.1) (fun t => ⟨[(4, .pointer (some ⟨g4, 0, none⟩)), (6, .pointer (some ⟨g6, 0, none⟩)), (17, .slice A so.length c), (18, .int .i64 so.length), (19, .int .i64 t.1)], [⟨g6, row [sl (qn (SU (so.map rq) st t.1)) t.2.1.1, sl (qd (SU (so.map rq) st t.1)) t.2.1.2] 34⟩, ⟨g4, row [sl t.2.2.1 t.2.2.2.2.1, sl t.2.2.2.1 t.2.2.2.2.2] 34⟩], [QW (SU (so.map rq) st t.1) t.2.1, R2 t.2.2.1 t.2.2.2.1 t.2.2.2.2, RS so (A, c)]⟩) (fun t => so.length - t.1) (0, z6, [], [], z0) ⟨Nat.zero_le _, fun h => absurd h (by omega)⟩ (Pw.enter ⟨rfl, rfl, rfl, rfl, rfl, trivial⟩ (fun w h => h)) ?_
  rintro ⟨j, z6, la, lb, zl⟩ ⟨hj, hJ⟩
  dsimp only at hj hJ ⊢
  repeat (first | (with_reducible first | refine Pw.seq ?_ | refine Pw.region ?_ | refine Pw.nil ?_ | refine Pw.then_ ?_ | refine Pw.skip ?_ | refine Pw.block ?_ | refine Pw.exit ?_ | refine Pw.inX ?_ | refine Pw.inN ?_ | refine Pw.inR ?_ | refine Pw.thenX ?_ | refine Pw.thenR ?_ | refine Pw.ret ?_) | refine Pw.list (Pw.pure rfl rfl rfl ?_) | refine Pw.inY rfl ?_ | refine Pw.list (Pw.off rfl rfl ?_) | refine Pw.condT rfl ?_ | refine Pw.condF rfl ?_ | refine Pw.list (Pw.box rfl rfl rfl rfl (fun _ => ?_)) | refine Pw.list (Pw.alloc rfl rfl rfl rfl rfl (fun _ => ?_)) | refine Pw.list (Pw.build rfl rfl rfl rfl ?_) | refine Pw.list (Pw.ld rfl inferInstance rfl rfl rfl ?_) | refine Pw.list (Pw.sto rfl rfl inferInstance rfl rfl rfl rfl rfl inferInstance rfl ?_))
  refine Pw.condD rfl (fun c3 => ?_) (fun c3 => ?_)
  · obtain ⟨s, hsj, hsm⟩ := get_at (show j < so.length by omega)
    have hsub := fun k (hk : k ≤ so.length) => hT2.sub (l := (so.map rq).take k) (fun s hs => take_mem hs) (by rw [List.length_take, List.length_map]; omega)
    have hSj := hsub j hj
    have hSj1 := hsub (j + 1) (by omega)
    have hsr : (so.map rq)[j]? = some (rq s) := by rw [List.getElem?_map, hsj]; rfl
    have eS := SU_snoc (st := st) hsr
    obtain ⟨y, zs, rfl, hy, hyq⟩ := rtq_ex (hq s hsm)
    rw [hyq] at hsr eS
    have hSz : Sz (b + 1 + d) (SU (so.map rq) st j) := mult_sz hSj.1 hSj.2.1 hT.D0 hT.dl hSj.2.2
    have hSz1 : Sz (b + 1 + d) (SU (so.map rq) st (j + 1)) := mult_sz hSj1.1 hSj1.2.1 hT.D0 hT.dl hSj1.2.2
    have hlv := hT2.lv (n := j + 1) hSj1 (by omega) (by omega)
    have hlz := hT2.sz hlv
    have en : (((j + 1 : Nat) : Int) : Rat) = (((j : Int) + 1 : Int) : Rat) := by rw [Int.natCast_add]; rfl
    have hnp : (0 : Rat) < (((j + 1 : Nat) : Int) : Rat) := by have e : ((0 : Int) : Rat) = 0 := rfl; rw [← e, Rat.intCast_lt_intCast]; omega
    have hnz : Sz 1 (((j + 1 : Nat) : Int) : Rat) := sz_int (by omega) (by show _ < (4294967296 : Int); omega) (by omega)
    -- the rest of the round, the support not above the level
    have hnext : (0 < j → ∃ v, Fld (so.map rq) st j v ∧ y < v) → FlJ (so.map rq) st (j + 1) (qn (SU (so.map rq) st (j + 1) / ((j + 1 : Nat) : Int))) (qd (SU (so.map rq) st (j + 1) / ((j + 1 : Nat) : Int))) := by
      intro hv _
      refine ⟨SU (so.map rq) st (j + 1) / ((j + 1 : Nat) : Int), ?_, rfl, rfl, rfl⟩
      rcases Nat.eq_zero_or_pos j with rfl | h0
      · have h1 := fld_first (st := (st : Rat)) hsr (Rat.intCast_nonneg.2 hT.st.1)
        have e1 : (((0 + 1 : Nat) : Int) : Rat) = 1 := rfl
        have e2 : SU (so.map rq) st (0 + 1) / (((0 + 1 : Nat) : Int) : Rat) = (st : Rat) + y := by
          rw [eS, e1, ← e0]; grind
        rw [e2]; exact h1
      · obtain ⟨v, h1, h2⟩ := hv h0
        have h3 := fld_next hso hsr h1 h2
        rw [eS]; exact h3
    repeat (first | (with_reducible first | refine Pw.seq ?_ | refine Pw.region ?_ | refine Pw.nil ?_ | refine Pw.then_ ?_ | refine Pw.skip ?_ | refine Pw.block ?_ | refine Pw.exit ?_ | refine Pw.inX ?_ | refine Pw.inN ?_ | refine Pw.inR ?_ | refine Pw.thenX ?_ | refine Pw.thenR ?_ | refine Pw.ret ?_) | refine Pw.list (Pw.pure rfl rfl rfl ?_) | refine Pw.inY rfl ?_ | refine Pw.list (Pw.off rfl rfl ?_) | refine Pw.condT rfl ?_ | refine Pw.condF rfl ?_ | refine Pw.list (Pw.box rfl rfl rfl rfl (fun _ => ?_)) | refine Pw.list (Pw.alloc rfl rfl rfl rfl rfl (fun _ => ?_)) | refine Pw.list (Pw.build rfl rfl rfl rfl ?_) | refine Pw.list (Pw.ld rfl inferInstance rfl rfl rfl ?_) | refine Pw.list (Pw.sto rfl rfl inferInstance rfl rfl rfl rfl rfl inferInstance rfl ?_))
    refine Pw.list (Pw.index rfl rfl rfl rfl (Int.natCast_nonneg j) c3 (fun w h => (hv w h : RS so (A, c) w).has (Int.natCast_nonneg j) c3) rfl rfl ?_)
    rintro ad rfl
    refine Pw.list (Pw.loadR ⟨qn y, qd y, zs⟩ rfl inferInstance rfl (by rw [Int.toNat_natCast]; exact hsj) (by kernel_rfl) rfl rfl ?_)
    refine Pw.re (d := 23) (v' := qt y zs) rfl rfl ?_
    repeat (first | (with_reducible first | refine Pw.seq ?_ | refine Pw.region ?_ | refine Pw.nil ?_ | refine Pw.then_ ?_ | refine Pw.skip ?_ | refine Pw.block ?_ | refine Pw.exit ?_ | refine Pw.inX ?_ | refine Pw.inN ?_ | refine Pw.inR ?_ | refine Pw.thenX ?_ | refine Pw.thenR ?_ | refine Pw.ret ?_) | refine Pw.list (Pw.pure rfl rfl rfl ?_) | refine Pw.inY rfl ?_ | refine Pw.list (Pw.off rfl rfl ?_) | refine Pw.condT rfl ?_ | refine Pw.condF rfl ?_ | refine Pw.list (Pw.box rfl rfl rfl rfl (fun _ => ?_)) | refine Pw.list (Pw.alloc rfl rfl rfl rfl rfl (fun _ => ?_)) | refine Pw.list (Pw.build rfl rfl rfl rfl ?_) | refine Pw.list (Pw.ld rfl inferInstance rfl rfl rfl ?_) | refine Pw.list (Pw.sto rfl rfl inferInstance rfl rfl rfl rfl rfl inferInstance rfl ?_))
    refine freeHead ?_
    repeat (first | (with_reducible first | refine Pw.seq ?_ | refine Pw.region ?_ | refine Pw.nil ?_ | refine Pw.then_ ?_ | refine Pw.skip ?_ | refine Pw.block ?_ | refine Pw.exit ?_ | refine Pw.inX ?_ | refine Pw.inN ?_ | refine Pw.inR ?_ | refine Pw.thenX ?_ | refine Pw.thenR ?_ | refine Pw.ret ?_) | refine Pw.list (Pw.pure rfl rfl rfl ?_) | refine Pw.inY rfl ?_ | refine Pw.list (Pw.off rfl rfl ?_) | refine Pw.condT rfl ?_ | refine Pw.condF rfl ?_ | refine Pw.list (Pw.box rfl rfl rfl rfl (fun _ => ?_)) | refine Pw.list (Pw.alloc rfl rfl rfl rfl rfl (fun _ => ?_)) | refine Pw.list (Pw.build rfl rfl rfl rfl ?_) | refine Pw.list (Pw.ld rfl inferInstance rfl rfl rfl ?_) | refine Pw.list (Pw.sto rfl rfl inferInstance rfl rfl rfl rfl rfl inferInstance rfl ?_))
    rcases Nat.eq_zero_or_pos j with h0 | h0
    · refine Pw.re (d := 26) (v' := .bool false) rfl (congrArg Value.bool (decide_eq_false (by omega))) ?_
      repeat (first | (with_reducible first | refine Pw.seq ?_ | refine Pw.region ?_ | refine Pw.nil ?_ | refine Pw.then_ ?_ | refine Pw.skip ?_ | refine Pw.block ?_ | refine Pw.exit ?_ | refine Pw.inX ?_ | refine Pw.inN ?_ | refine Pw.inR ?_ | refine Pw.thenX ?_ | refine Pw.thenR ?_ | refine Pw.ret ?_) | refine Pw.list (Pw.pure rfl rfl rfl ?_) | refine Pw.inY rfl ?_ | refine Pw.list (Pw.off rfl rfl ?_) | refine Pw.condT rfl ?_ | refine Pw.condF rfl ?_ | refine Pw.list (Pw.box rfl rfl rfl rfl (fun _ => ?_)) | refine Pw.list (Pw.alloc rfl rfl rfl rfl rfl (fun _ => ?_)) | refine Pw.list (Pw.build rfl rfl rfl rfl ?_) | refine Pw.list (Pw.ld rfl inferInstance rfl rfl rfl ?_) | refine Pw.list (Pw.sto rfl rfl inferInstance rfl rfl rfl rfl rfl inferInstance rfl ?_))
      refine Pw.list (Pw.call (qAdd_ct hSz hy z6 zs (by omega)) rfl rfl rfl (by kernel_rfl) rfl rfl (fun w h => ⟨(hv w h), (hv w h : heldR ⟨qn y, qd y, zs⟩ w)⟩) ?_)
      intro z6' _
      rw [← eS]
      repeat (first | (with_reducible first | refine Pw.seq ?_ | refine Pw.region ?_ | refine Pw.nil ?_ | refine Pw.then_ ?_ | refine Pw.skip ?_ | refine Pw.block ?_ | refine Pw.exit ?_ | refine Pw.inX ?_ | refine Pw.inN ?_ | refine Pw.inR ?_ | refine Pw.thenX ?_ | refine Pw.thenR ?_ | refine Pw.ret ?_) | refine Pw.list (Pw.pure rfl rfl rfl ?_) | refine Pw.inY rfl ?_ | refine Pw.list (Pw.off rfl rfl ?_) | refine Pw.condT rfl ?_ | refine Pw.condF rfl ?_ | refine Pw.list (Pw.box rfl rfl rfl rfl (fun _ => ?_)) | refine Pw.list (Pw.alloc rfl rfl rfl rfl rfl (fun _ => ?_)) | refine Pw.list (Pw.build rfl rfl rfl rfl ?_) | refine Pw.list (Pw.ld rfl inferInstance rfl rfl rfl ?_) | refine Pw.list (Pw.sto rfl rfl inferInstance rfl rfl rfl rfl rfl inferInstance rfl ?_))
      refine Pw.re (d := 45) (v' := .int .u64 ((j + 1 : Nat) : Int)) rfl (congrArg (Value.int .u64) (by rw [i64s (n := 100000) (by omega) (by omega), wu (by omega) (by omega)])) ?_
      refine Pw.list (Pw.call (qOf_ct (n := ((j + 1 : Nat) : Int)) (by omega) (by omega)) rfl rfl rfl (by kernel_rfl) rfl rfl (fun w h => trivial) ?_)
      intro zn _
      repeat (first | (with_reducible first | refine Pw.seq ?_ | refine Pw.region ?_ | refine Pw.nil ?_ | refine Pw.then_ ?_ | refine Pw.skip ?_ | refine Pw.block ?_ | refine Pw.exit ?_ | refine Pw.inX ?_ | refine Pw.inN ?_ | refine Pw.inR ?_ | refine Pw.thenX ?_ | refine Pw.thenR ?_ | refine Pw.ret ?_) | refine Pw.list (Pw.pure rfl rfl rfl ?_) | refine Pw.inY rfl ?_ | refine Pw.list (Pw.off rfl rfl ?_) | refine Pw.condT rfl ?_ | refine Pw.condF rfl ?_ | refine Pw.list (Pw.box rfl rfl rfl rfl (fun _ => ?_)) | refine Pw.list (Pw.alloc rfl rfl rfl rfl rfl (fun _ => ?_)) | refine Pw.list (Pw.build rfl rfl rfl rfl ?_) | refine Pw.list (Pw.ld rfl inferInstance rfl rfl rfl ?_) | refine Pw.list (Pw.sto rfl rfl inferInstance rfl rfl rfl rfl rfl inferInstance rfl ?_))
      refine freeHead ?_
      repeat (first | (with_reducible first | refine Pw.seq ?_ | refine Pw.region ?_ | refine Pw.nil ?_ | refine Pw.then_ ?_ | refine Pw.skip ?_ | refine Pw.block ?_ | refine Pw.exit ?_ | refine Pw.inX ?_ | refine Pw.inN ?_ | refine Pw.inR ?_ | refine Pw.thenX ?_ | refine Pw.thenR ?_ | refine Pw.ret ?_) | refine Pw.list (Pw.pure rfl rfl rfl ?_) | refine Pw.inY rfl ?_ | refine Pw.list (Pw.off rfl rfl ?_) | refine Pw.condT rfl ?_ | refine Pw.condF rfl ?_ | refine Pw.list (Pw.box rfl rfl rfl rfl (fun _ => ?_)) | refine Pw.list (Pw.alloc rfl rfl rfl rfl rfl (fun _ => ?_)) | refine Pw.list (Pw.build rfl rfl rfl rfl ?_) | refine Pw.list (Pw.ld rfl inferInstance rfl rfl rfl ?_) | refine Pw.list (Pw.sto rfl rfl inferInstance rfl rfl rfl rfl rfl inferInstance rfl ?_))
      refine Pw.list (Pw.call (qDiv_ct hSz1 hnz z6' zn (by omega) hnp) rfl rfl rfl (by kernel_rfl) rfl rfl (fun w h => ⟨(hv w h), (hv w h)⟩) ?_)
      intro zl' _
      repeat (first | (with_reducible first | refine Pw.seq ?_ | refine Pw.region ?_ | refine Pw.nil ?_ | refine Pw.then_ ?_ | refine Pw.skip ?_ | refine Pw.block ?_ | refine Pw.exit ?_ | refine Pw.inX ?_ | refine Pw.inN ?_ | refine Pw.inR ?_ | refine Pw.thenX ?_ | refine Pw.thenR ?_ | refine Pw.ret ?_) | refine Pw.list (Pw.pure rfl rfl rfl ?_) | refine Pw.inY rfl ?_ | refine Pw.list (Pw.off rfl rfl ?_) | refine Pw.condT rfl ?_ | refine Pw.condF rfl ?_ | refine Pw.list (Pw.box rfl rfl rfl rfl (fun _ => ?_)) | refine Pw.list (Pw.alloc rfl rfl rfl rfl rfl (fun _ => ?_)) | refine Pw.list (Pw.build rfl rfl rfl rfl ?_) | refine Pw.list (Pw.ld rfl inferInstance rfl rfl rfl ?_) | refine Pw.list (Pw.sto rfl rfl inferInstance rfl rfl rfl rfl rfl inferInstance rfl ?_))
      refine Pw.re (d := 19) (v' := .int .i64 ((j + 1 : Nat) : Int)) rfl (congrArg (Value.int .i64) (i64s (n := 100000) (by omega) (by omega))) ?_
      exact Pw.again (j + 1, z6', qn (SU (so.map rq) st (j + 1) / ((j + 1 : Nat) : Int)), qd (SU (so.map rq) st (j + 1) / ((j + 1 : Nat) : Int)), zl') ⟨by omega, hnext (fun h => absurd h (by omega))⟩ (by show so.length - (j + 1) < so.length - j; omega) ⟨rfl, rfl, rfl, rfl, rfl, trivial⟩ rfl (fun w h => allCons (hv w h) (allCons (hv w h) (allCons (hv w h) allNil)))
    · refine Pw.re (d := 26) (v' := .bool true) rfl (congrArg Value.bool (decide_eq_true (by omega))) ?_
      obtain ⟨v, hv1, hv2, rfl, rfl⟩ := hJ h0
      have hlv0 := hT2.lv (n := j) hSj (by omega) (by omega)
      rw [← hv2] at hlv0
      have hlz0 := hT2.sz hlv0
      repeat (first | (with_reducible first | refine Pw.seq ?_ | refine Pw.region ?_ | refine Pw.nil ?_ | refine Pw.then_ ?_ | refine Pw.skip ?_ | refine Pw.block ?_ | refine Pw.exit ?_ | refine Pw.inX ?_ | refine Pw.inN ?_ | refine Pw.inR ?_ | refine Pw.thenX ?_ | refine Pw.thenR ?_ | refine Pw.ret ?_) | refine Pw.list (Pw.pure rfl rfl rfl ?_) | refine Pw.inY rfl ?_ | refine Pw.list (Pw.off rfl rfl ?_) | refine Pw.condT rfl ?_ | refine Pw.condF rfl ?_ | refine Pw.list (Pw.box rfl rfl rfl rfl (fun _ => ?_)) | refine Pw.list (Pw.alloc rfl rfl rfl rfl rfl (fun _ => ?_)) | refine Pw.list (Pw.build rfl rfl rfl rfl ?_) | refine Pw.list (Pw.ld rfl inferInstance rfl rfl rfl ?_) | refine Pw.list (Pw.sto rfl rfl inferInstance rfl rfl rfl rfl rfl inferInstance rfl ?_))
      refine Pw.list (Pw.call (qCmp_ct hlz0 hy zl zs (by omega)) rfl rfl rfl (by kernel_rfl) rfl rfl (fun w h => ⟨(hv w h), (hv w h : heldR ⟨qn y, qd y, zs⟩ w)⟩) ?_)
      intro _ _
      by_cases hvy : y < v
      · refine Pw.list (Pw.pure rfl rfl rfl ?_)
        refine Pw.re (d := 30) (v' := .bool false) rfl (congrArg Value.bool (decide_eq_false (fun e => by have := cmpQ_pos'.2 hvy; omega))) ?_
        repeat (first | (with_reducible first | refine Pw.seq ?_ | refine Pw.region ?_ | refine Pw.nil ?_ | refine Pw.then_ ?_ | refine Pw.skip ?_ | refine Pw.block ?_ | refine Pw.exit ?_ | refine Pw.inX ?_ | refine Pw.inN ?_ | refine Pw.inR ?_ | refine Pw.thenX ?_ | refine Pw.thenR ?_ | refine Pw.ret ?_) | refine Pw.list (Pw.pure rfl rfl rfl ?_) | refine Pw.inY rfl ?_ | refine Pw.list (Pw.off rfl rfl ?_) | refine Pw.condT rfl ?_ | refine Pw.condF rfl ?_ | refine Pw.list (Pw.box rfl rfl rfl rfl (fun _ => ?_)) | refine Pw.list (Pw.alloc rfl rfl rfl rfl rfl (fun _ => ?_)) | refine Pw.list (Pw.build rfl rfl rfl rfl ?_) | refine Pw.list (Pw.ld rfl inferInstance rfl rfl rfl ?_) | refine Pw.list (Pw.sto rfl rfl inferInstance rfl rfl rfl rfl rfl inferInstance rfl ?_))
        refine Pw.list (Pw.call (qAdd_ct hSz hy z6 zs (by omega)) rfl rfl rfl (by kernel_rfl) rfl rfl (fun w h => ⟨(hv w h), (hv w h : heldR ⟨qn y, qd y, zs⟩ w)⟩) ?_)
        intro z6' _
        rw [← eS]
        repeat (first | (with_reducible first | refine Pw.seq ?_ | refine Pw.region ?_ | refine Pw.nil ?_ | refine Pw.then_ ?_ | refine Pw.skip ?_ | refine Pw.block ?_ | refine Pw.exit ?_ | refine Pw.inX ?_ | refine Pw.inN ?_ | refine Pw.inR ?_ | refine Pw.thenX ?_ | refine Pw.thenR ?_ | refine Pw.ret ?_) | refine Pw.list (Pw.pure rfl rfl rfl ?_) | refine Pw.inY rfl ?_ | refine Pw.list (Pw.off rfl rfl ?_) | refine Pw.condT rfl ?_ | refine Pw.condF rfl ?_ | refine Pw.list (Pw.box rfl rfl rfl rfl (fun _ => ?_)) | refine Pw.list (Pw.alloc rfl rfl rfl rfl rfl (fun _ => ?_)) | refine Pw.list (Pw.build rfl rfl rfl rfl ?_) | refine Pw.list (Pw.ld rfl inferInstance rfl rfl rfl ?_) | refine Pw.list (Pw.sto rfl rfl inferInstance rfl rfl rfl rfl rfl inferInstance rfl ?_))
        refine Pw.re (d := 45) (v' := .int .u64 ((j + 1 : Nat) : Int)) rfl (congrArg (Value.int .u64) (by rw [i64s (n := 100000) (by omega) (by omega), wu (by omega) (by omega)])) ?_
        refine Pw.list (Pw.call (qOf_ct (n := ((j + 1 : Nat) : Int)) (by omega) (by omega)) rfl rfl rfl (by kernel_rfl) rfl rfl (fun w h => trivial) ?_)
        intro zn _
        repeat (first | (with_reducible first | refine Pw.seq ?_ | refine Pw.region ?_ | refine Pw.nil ?_ | refine Pw.then_ ?_ | refine Pw.skip ?_ | refine Pw.block ?_ | refine Pw.exit ?_ | refine Pw.inX ?_ | refine Pw.inN ?_ | refine Pw.inR ?_ | refine Pw.thenX ?_ | refine Pw.thenR ?_ | refine Pw.ret ?_) | refine Pw.list (Pw.pure rfl rfl rfl ?_) | refine Pw.inY rfl ?_ | refine Pw.list (Pw.off rfl rfl ?_) | refine Pw.condT rfl ?_ | refine Pw.condF rfl ?_ | refine Pw.list (Pw.box rfl rfl rfl rfl (fun _ => ?_)) | refine Pw.list (Pw.alloc rfl rfl rfl rfl rfl (fun _ => ?_)) | refine Pw.list (Pw.build rfl rfl rfl rfl ?_) | refine Pw.list (Pw.ld rfl inferInstance rfl rfl rfl ?_) | refine Pw.list (Pw.sto rfl rfl inferInstance rfl rfl rfl rfl rfl inferInstance rfl ?_))
        refine freeHead ?_
        repeat (first | (with_reducible first | refine Pw.seq ?_ | refine Pw.region ?_ | refine Pw.nil ?_ | refine Pw.then_ ?_ | refine Pw.skip ?_ | refine Pw.block ?_ | refine Pw.exit ?_ | refine Pw.inX ?_ | refine Pw.inN ?_ | refine Pw.inR ?_ | refine Pw.thenX ?_ | refine Pw.thenR ?_ | refine Pw.ret ?_) | refine Pw.list (Pw.pure rfl rfl rfl ?_) | refine Pw.inY rfl ?_ | refine Pw.list (Pw.off rfl rfl ?_) | refine Pw.condT rfl ?_ | refine Pw.condF rfl ?_ | refine Pw.list (Pw.box rfl rfl rfl rfl (fun _ => ?_)) | refine Pw.list (Pw.alloc rfl rfl rfl rfl rfl (fun _ => ?_)) | refine Pw.list (Pw.build rfl rfl rfl rfl ?_) | refine Pw.list (Pw.ld rfl inferInstance rfl rfl rfl ?_) | refine Pw.list (Pw.sto rfl rfl inferInstance rfl rfl rfl rfl rfl inferInstance rfl ?_))
        refine Pw.list (Pw.call (qDiv_ct hSz1 hnz z6' zn (by omega) hnp) rfl rfl rfl (by kernel_rfl) rfl rfl (fun w h => ⟨(hv w h), (hv w h)⟩) ?_)
        intro zl' _
        repeat (first | (with_reducible first | refine Pw.seq ?_ | refine Pw.region ?_ | refine Pw.nil ?_ | refine Pw.then_ ?_ | refine Pw.skip ?_ | refine Pw.block ?_ | refine Pw.exit ?_ | refine Pw.inX ?_ | refine Pw.inN ?_ | refine Pw.inR ?_ | refine Pw.thenX ?_ | refine Pw.thenR ?_ | refine Pw.ret ?_) | refine Pw.list (Pw.pure rfl rfl rfl ?_) | refine Pw.inY rfl ?_ | refine Pw.list (Pw.off rfl rfl ?_) | refine Pw.condT rfl ?_ | refine Pw.condF rfl ?_ | refine Pw.list (Pw.box rfl rfl rfl rfl (fun _ => ?_)) | refine Pw.list (Pw.alloc rfl rfl rfl rfl rfl (fun _ => ?_)) | refine Pw.list (Pw.build rfl rfl rfl rfl ?_) | refine Pw.list (Pw.ld rfl inferInstance rfl rfl rfl ?_) | refine Pw.list (Pw.sto rfl rfl inferInstance rfl rfl rfl rfl rfl inferInstance rfl ?_))
        refine Pw.re (d := 19) (v' := .int .i64 ((j + 1 : Nat) : Int)) rfl (congrArg (Value.int .i64) (i64s (n := 100000) (by omega) (by omega))) ?_
        exact Pw.again (j + 1, z6', qn (SU (so.map rq) st (j + 1) / ((j + 1 : Nat) : Int)), qd (SU (so.map rq) st (j + 1) / ((j + 1 : Nat) : Int)), zl') ⟨by omega, hnext (fun _ => ⟨v, hv1, hvy⟩)⟩ (by show so.length - (j + 1) < so.length - j; omega) ⟨rfl, rfl, rfl, rfl, rfl, trivial⟩ rfl (fun w h => allCons (hv w h) (allCons (hv w h) (allCons (hv w h) allNil)))
      · refine Pw.list (Pw.pure rfl rfl rfl ?_)
        refine Pw.re (d := 30) (v' := .bool true) rfl (congrArg Value.bool (decide_eq_true (by have h9 : ¬ cmpQ v y > 0 := fun e => hvy (cmpQ_pos'.1 e); omega))) ?_
        have hlev := fld_end hp hso (by omega) (by rw [List.length_map]; omega) hv1 (fun s hs => by rw [hsr] at hs; cases hs; exact Rat.not_lt.1 hvy)
        repeat (first | (with_reducible first | refine Pw.seq ?_ | refine Pw.region ?_ | refine Pw.nil ?_ | refine Pw.then_ ?_ | refine Pw.skip ?_ | refine Pw.block ?_ | refine Pw.exit ?_ | refine Pw.inX ?_ | refine Pw.inN ?_ | refine Pw.inR ?_ | refine Pw.thenX ?_ | refine Pw.thenR ?_ | refine Pw.ret ?_) | refine Pw.list (Pw.pure rfl rfl rfl ?_) | refine Pw.inY rfl ?_ | refine Pw.list (Pw.off rfl rfl ?_) | refine Pw.condT rfl ?_ | refine Pw.condF rfl ?_ | refine Pw.list (Pw.box rfl rfl rfl rfl (fun _ => ?_)) | refine Pw.list (Pw.alloc rfl rfl rfl rfl rfl (fun _ => ?_)) | refine Pw.list (Pw.build rfl rfl rfl rfl ?_) | refine Pw.list (Pw.ld rfl inferInstance rfl rfl rfl ?_) | refine Pw.list (Pw.sto rfl rfl inferInstance rfl rfl rfl rfl rfl inferInstance rfl ?_))
        exact Pw.ret_ (x := (v, zl)) (.cell rfl (fun w hs => hs.own _ (.tail _ (.head _))) rfl (.tmp rfl .nil)) rfl ⟨hlev, hlv0⟩ (fun w h => (hv w h))
  · obtain rfl : j = so.length := by omega
    obtain ⟨v, hv1, hv2, rfl, rfl⟩ := hJ (by omega)
    have hlev := fld_end hp hso (by omega) (by rw [List.length_map]; omega) hv1 (fun s hs => by rw [List.getElem?_eq_none (by rw [List.length_map]; omega)] at hs; cases hs)
    have hlv0 := hT2.lv (n := so.length) (hT2.sub (l := (so.map rq).take so.length) (fun s hs => take_mem hs) (by rw [List.length_take, List.length_map]; omega)) (by omega) (by omega)
    rw [← hv2] at hlv0
    repeat (first | (with_reducible first | refine Pw.seq ?_ | refine Pw.region ?_ | refine Pw.nil ?_ | refine Pw.then_ ?_ | refine Pw.skip ?_ | refine Pw.block ?_ | refine Pw.exit ?_ | refine Pw.inX ?_ | refine Pw.inN ?_ | refine Pw.inR ?_ | refine Pw.thenX ?_ | refine Pw.thenR ?_ | refine Pw.ret ?_) | refine Pw.list (Pw.pure rfl rfl rfl ?_) | refine Pw.inY rfl ?_ | refine Pw.list (Pw.off rfl rfl ?_) | refine Pw.condT rfl ?_ | refine Pw.condF rfl ?_ | refine Pw.list (Pw.box rfl rfl rfl rfl (fun _ => ?_)) | refine Pw.list (Pw.alloc rfl rfl rfl rfl rfl (fun _ => ?_)) | refine Pw.list (Pw.build rfl rfl rfl rfl ?_) | refine Pw.list (Pw.ld rfl inferInstance rfl rfl rfl ?_) | refine Pw.list (Pw.sto rfl rfl inferInstance rfl rfl rfl rfl rfl inferInstance rfl ?_))
    exact Pw.ret_ (x := (v, zl)) (.cell rfl (fun w hs => hs.own _ (.tail _ (.head _))) rfl (.tmp rfl .nil)) rfl ⟨hlev, hlv0⟩ (fun w h => (hv w h))
end Go.Proofs.Wk
/- A stake given anew: balance.Turn walked. -/
namespace Go.Proofs.Wk
open Go.RowKit
set_option maxRecDepth 100000
set_option maxHeartbeats 4000000
attribute [local irreducible] Pw OpG
set_option linter.unusedVariables false
set_option linter.unusedSimpArgs false
/-- Supports that are refused. -/
def badT (l : List Rt) : Bool := decide (l.length = 0) || (decide (8 < l.length) || l.any (fun s => !formedR s.a s.b))
def outT (ws : List Rat) (v : Rat) : List (List Int × List Int) := ws.map fun s => (qn (gn v s), qd (gn v s))
/-- What a turn answers. -/
def TurnP (D b : Nat) (l : List Rt) (st : Int) (r : List Rt × (Option Addr × Nat) × Int) : Prop :=
  if badT l = true then r.1 = [] ∧ r.2.2 = 1 else r.2.2 = 0 ∧ ∃ v, Lev (l.map rq) st v ∧ (Mult (840 * D) v ∧ 0 ≤ v ∧ v < ((pw (b + 1) : Int) : Rat)) ∧ r.1.map (fun t => (t.a, t.b)) = outT (l.map rq) v
theorem badT_no {l : List Rt} (h : badT l = false) : 1 ≤ l.length ∧ l.length ≤ 8 ∧ l.any (fun s => !formedR s.a s.b) = false := by
  unfold badT at h
  simp only [Bool.or_eq_false_iff, decide_eq_false_iff_not] at h
  exact ⟨by omega, by omega, h.2.2⟩
theorem turn1_ct (s : Rt) (hw : RtW s) (la : s.a.length < 1048576) (lb : s.b.length < 1048576) : Ct Try.prog 16 #[rt s.a s.b s.z] (heldR s) (fun _ : Unit => .bool (!formedR s.a s.b)) Tt (fun _ _ => True) := by
  refine Ct.start Try.func16 rfl rfl (slots_of rfl slots1) (fun D w0 => ?_)
  repeat (first | (with_reducible first | refine Pw.seq ?_ | refine Pw.region ?_ | refine Pw.nil ?_ | refine Pw.then_ ?_ | refine Pw.skip ?_ | refine Pw.block ?_ | refine Pw.exit ?_ | refine Pw.inX ?_ | refine Pw.inN ?_ | refine Pw.inR ?_ | refine Pw.thenX ?_ | refine Pw.thenR ?_ | refine Pw.ret ?_) | refine Pw.list (Pw.pure rfl rfl rfl ?_) | refine Pw.inY rfl ?_ | refine Pw.list (Pw.off rfl rfl ?_) | refine Pw.condT rfl ?_ | refine Pw.condF rfl ?_ | refine Pw.list (Pw.box rfl rfl rfl rfl (fun _ => freeHead ?_)) | refine Pw.list (Pw.alloc rfl rfl rfl rfl rfl (fun _ => ?_)) | refine Pw.list (Pw.build rfl rfl rfl rfl ?_) | refine Pw.list (Pw.ld rfl inferInstance rfl rfl rfl ?_) | refine Pw.list (Pw.sto rfl rfl inferInstance rfl rfl rfl rfl rfl inferInstance rfl ?_))
  refine Pw.list (Pw.call (rat_Formed_ct s.a s.b s.z hw.a hw.b la lb) rfl rfl rfl (by kernel_rfl) rfl rfl (fun w h => (hv w h : heldR s w)) ?_)
  intro _ _
  repeat (first | (with_reducible first | refine Pw.seq ?_ | refine Pw.region ?_ | refine Pw.nil ?_ | refine Pw.then_ ?_ | refine Pw.skip ?_ | refine Pw.block ?_ | refine Pw.exit ?_ | refine Pw.inX ?_ | refine Pw.inN ?_ | refine Pw.inR ?_ | refine Pw.thenX ?_ | refine Pw.thenR ?_ | refine Pw.ret ?_) | refine Pw.list (Pw.pure rfl rfl rfl ?_) | refine Pw.inY rfl ?_ | refine Pw.list (Pw.off rfl rfl ?_) | refine Pw.condT rfl ?_ | refine Pw.condF rfl ?_ | refine Pw.list (Pw.box rfl rfl rfl rfl (fun _ => ?_)) | refine Pw.list (Pw.alloc rfl rfl rfl rfl rfl (fun _ => ?_)) | refine Pw.list (Pw.build rfl rfl rfl rfl ?_) | refine Pw.list (Pw.ld rfl inferInstance rfl rfl rfl ?_) | refine Pw.list (Pw.sto rfl rfl inferInstance rfl rfl rfl rfl rfl inferInstance rfl ?_))
  exact Pw.ret_ (x := ()) (.tmp rfl .nil) rfl trivial (fun w h => by trivial)
theorem gn_sub {v s : Rat} (h : s ≤ v) : gn v s = v - s := by unfold gn; grind
theorem gn_zero {v s : Rat} (h : v < s) : gn v s = 0 := by unfold gn; grind
theorem permG3 {b : Blk} {x : List Blk} : (b :: (x ++ [])).Perm (x ++ [b]) := by
  rw [List.append_nil]; exact List.perm_append_comm (l₁ := [b])
theorem map_take_snocT {α β : Type} {l : List α} {f : α → β} {i : Nat} {x : α} (h : l[i]? = some x) : (l.take (i + 1)).map f = (l.take i).map f ++ [f x] := by rw [take_snoc h, List.map_append]; rfl
theorem pTurn_ct {D d b : Nat} (st : Int) (l : List Rt) (x : Option Addr × Nat) (hw : ∀ s ∈ l, RtW s) (hb : ∀ s ∈ l, s.a.length < 1048576 ∧ s.b.length < 1048576) (hl : l.length ≤ 1000) (hT : badT l = false → TQ D d b (l.map rq) st) :
    Ct Try.prog 7 #[.int .u64 st, rsV l x] (RS l x) (fun r : List Rt × (Option Addr × Nat) × Int => .tuple #[rsV r.1 r.2.1, .int .i64 r.2.2]) (TurnP D b l st) (fun r => RS r.1 r.2.1) := by
  obtain ⟨A, c⟩ := x
  refine Ct.start Try.func7 rfl rfl (slots_of rfl slots2) (fun D0 w0 => ?_)
  repeat (first | (with_reducible first | refine Pw.seq ?_ | refine Pw.region ?_ | refine Pw.nil ?_ | refine Pw.then_ ?_ | refine Pw.skip ?_ | refine Pw.block ?_ | refine Pw.exit ?_ | refine Pw.inX ?_ | refine Pw.inN ?_ | refine Pw.inR ?_ | refine Pw.thenX ?_ | refine Pw.thenR ?_ | refine Pw.ret ?_) | refine Pw.list (Pw.pure rfl rfl rfl ?_) | refine Pw.inY rfl ?_ | refine Pw.list (Pw.off rfl rfl ?_) | refine Pw.condT rfl ?_ | refine Pw.condF rfl ?_ | refine Pw.list (Pw.box rfl rfl rfl rfl (fun _ => ?_)) | refine Pw.list (Pw.alloc rfl rfl rfl rfl rfl (fun _ => ?_)) | refine Pw.list (Pw.build rfl rfl rfl rfl ?_) | refine Pw.list (Pw.ld rfl inferInstance rfl rfl rfl ?_) | refine Pw.list (Pw.sto rfl rfl inferInstance rfl rfl rfl rfl rfl inferInstance rfl ?_))
  refine Pw.split 17 rfl (fun c1 => ?_) (fun c1 => ?_)
  · have c1' : l.length = 0 := by omega
    have e : badT l = true := by unfold badT; simp [c1']
    repeat (first | (with_reducible first | refine Pw.seq ?_ | refine Pw.region ?_ | refine Pw.nil ?_ | refine Pw.then_ ?_ | refine Pw.skip ?_ | refine Pw.block ?_ | refine Pw.exit ?_ | refine Pw.inX ?_ | refine Pw.inN ?_ | refine Pw.inR ?_ | refine Pw.thenX ?_ | refine Pw.thenR ?_ | refine Pw.ret ?_) | refine Pw.list (Pw.pure rfl rfl rfl ?_) | refine Pw.inY rfl ?_ | refine Pw.list (Pw.off rfl rfl ?_) | refine Pw.condT rfl ?_ | refine Pw.condF rfl ?_ | refine Pw.list (Pw.box rfl rfl rfl rfl (fun _ => ?_)) | refine Pw.list (Pw.alloc rfl rfl rfl rfl rfl (fun _ => ?_)) | refine Pw.list (Pw.build rfl rfl rfl rfl ?_) | refine Pw.list (Pw.ld rfl inferInstance rfl rfl rfl ?_) | refine Pw.list (Pw.sto rfl rfl inferInstance rfl rfl rfl rfl rfl inferInstance rfl ?_))
    exact Pw.ret_ (x := ([], (none, 0), 1)) (.tmp rfl (.tmp rfl .nil)) rfl (by unfold TurnP; rw [if_pos e]; exact ⟨rfl, rfl⟩) (fun w h => Rows.nil _ _ _ _ _)
  repeat (first | (with_reducible first | refine Pw.seq ?_ | refine Pw.region ?_ | refine Pw.nil ?_ | refine Pw.then_ ?_ | refine Pw.skip ?_ | refine Pw.block ?_ | refine Pw.exit ?_ | refine Pw.inX ?_ | refine Pw.inN ?_ | refine Pw.inR ?_ | refine Pw.thenX ?_ | refine Pw.thenR ?_ | refine Pw.ret ?_) | refine Pw.list (Pw.pure rfl rfl rfl ?_) | refine Pw.inY rfl ?_ | refine Pw.list (Pw.off rfl rfl ?_) | refine Pw.condT rfl ?_ | refine Pw.condF rfl ?_ | refine Pw.list (Pw.box rfl rfl rfl rfl (fun _ => ?_)) | refine Pw.list (Pw.alloc rfl rfl rfl rfl rfl (fun _ => ?_)) | refine Pw.list (Pw.build rfl rfl rfl rfl ?_) | refine Pw.list (Pw.ld rfl inferInstance rfl rfl rfl ?_) | refine Pw.list (Pw.sto rfl rfl inferInstance rfl rfl rfl rfl rfl inferInstance rfl ?_))
  refine Pw.split 22 rfl (fun c2 => ?_) (fun c2 => ?_)
  · have c2' : 8 < l.length := by omega
    have e : badT l = true := by unfold badT; simp [c2']
    repeat (first | (with_reducible first | refine Pw.seq ?_ | refine Pw.region ?_ | refine Pw.nil ?_ | refine Pw.then_ ?_ | refine Pw.skip ?_ | refine Pw.block ?_ | refine Pw.exit ?_ | refine Pw.inX ?_ | refine Pw.inN ?_ | refine Pw.inR ?_ | refine Pw.thenX ?_ | refine Pw.thenR ?_ | refine Pw.ret ?_) | refine Pw.list (Pw.pure rfl rfl rfl ?_) | refine Pw.inY rfl ?_ | refine Pw.list (Pw.off rfl rfl ?_) | refine Pw.condT rfl ?_ | refine Pw.condF rfl ?_ | refine Pw.list (Pw.box rfl rfl rfl rfl (fun _ => ?_)) | refine Pw.list (Pw.alloc rfl rfl rfl rfl rfl (fun _ => ?_)) | refine Pw.list (Pw.build rfl rfl rfl rfl ?_) | refine Pw.list (Pw.ld rfl inferInstance rfl rfl rfl ?_) | refine Pw.list (Pw.sto rfl rfl inferInstance rfl rfl rfl rfl rfl inferInstance rfl ?_))
    exact Pw.ret_ (x := ([], (none, 0), 1)) (.tmp rfl (.tmp rfl .nil)) rfl (by unfold TurnP; rw [if_pos e]; exact ⟨rfl, rfl⟩) (fun w h => Rows.nil _ _ _ _ _)
  repeat (first | (with_reducible first | refine Pw.seq ?_ | refine Pw.region ?_ | refine Pw.nil ?_ | refine Pw.then_ ?_ | refine Pw.skip ?_ | refine Pw.block ?_ | refine Pw.exit ?_ | refine Pw.inX ?_ | refine Pw.inN ?_ | refine Pw.inR ?_ | refine Pw.thenX ?_ | refine Pw.thenR ?_ | refine Pw.ret ?_) | refine Pw.list (Pw.pure rfl rfl rfl ?_) | refine Pw.inY rfl ?_ | refine Pw.list (Pw.off rfl rfl ?_) | refine Pw.condT rfl ?_ | refine Pw.condF rfl ?_ | refine Pw.list (Pw.box rfl rfl rfl rfl (fun _ => ?_)) | refine Pw.list (Pw.alloc rfl rfl rfl rfl rfl (fun _ => ?_)) | refine Pw.list (Pw.build rfl rfl rfl rfl ?_) | refine Pw.list (Pw.ld rfl inferInstance rfl rfl rfl ?_) | refine Pw.list (Pw.sto rfl rfl inferInstance rfl rfl rfl rfl rfl inferInstance rfl ?_))
  refine Pw.list (Pw.call (ContainsR_ct l (A, c) 16 (fun s => !formedR s.a s.b) (fun s hs => turn1_ct s (hw s hs) (hb s hs).1 (hb s hs).2) (by kernel_rfl)) rfl rfl rfl (by kernel_rfl) rfl rfl (fun w h => (hv w h)) ?_)
  intro _ _
  cases hF : l.any (fun s => !formedR s.a s.b)
  case true =>
    have e : badT l = true := by unfold badT; rw [hF]; simp
    repeat (first | (with_reducible first | refine Pw.seq ?_ | refine Pw.region ?_ | refine Pw.nil ?_ | refine Pw.then_ ?_ | refine Pw.skip ?_ | refine Pw.block ?_ | refine Pw.exit ?_ | refine Pw.inX ?_ | refine Pw.inN ?_ | refine Pw.inR ?_ | refine Pw.thenX ?_ | refine Pw.thenR ?_ | refine Pw.ret ?_) | refine Pw.list (Pw.pure rfl rfl rfl ?_) | refine Pw.inY rfl ?_ | refine Pw.list (Pw.off rfl rfl ?_) | refine Pw.condT rfl ?_ | refine Pw.condF rfl ?_ | refine Pw.list (Pw.box rfl rfl rfl rfl (fun _ => ?_)) | refine Pw.list (Pw.alloc rfl rfl rfl rfl rfl (fun _ => ?_)) | refine Pw.list (Pw.build rfl rfl rfl rfl ?_) | refine Pw.list (Pw.ld rfl inferInstance rfl rfl rfl ?_) | refine Pw.list (Pw.sto rfl rfl inferInstance rfl rfl rfl rfl rfl inferInstance rfl ?_))
    exact Pw.ret_ (x := ([], (none, 0), 1)) (.tmp rfl (.tmp rfl .nil)) rfl (by unfold TurnP; rw [if_pos e]; exact ⟨rfl, rfl⟩) (fun w h => Rows.nil _ _ _ _ _)
  have hbad : badT l = false := by unfold badT; rw [hF, decide_eq_false (by omega), decide_eq_false (by omega)]; rfl
  have hTq := hT hbad
  have hcap := hTq.cap
  have hrq : ∀ s ∈ l, RtQ (b + d) s := fun s hs => by
    have hf : formedR s.a s.b = true := by have := List.any_eq_false.1 hF s hs; simpa using this
    obtain ⟨h1, h2, _⟩ := formed_q (hw s hs).a (hw s hs).b hf
    exact ⟨h1, h2, hTq.s (List.mem_map_of_mem hs)⟩
  obtain ⟨hsp, hsw⟩ := insR_perm (by omega) hrq
  repeat (first | (with_reducible first | refine Pw.seq ?_ | refine Pw.region ?_ | refine Pw.nil ?_ | refine Pw.then_ ?_ | refine Pw.skip ?_ | refine Pw.block ?_ | refine Pw.exit ?_ | refine Pw.inX ?_ | refine Pw.inN ?_ | refine Pw.inR ?_ | refine Pw.thenX ?_ | refine Pw.thenR ?_ | refine Pw.ret ?_) | refine Pw.list (Pw.pure rfl rfl rfl ?_) | refine Pw.inY rfl ?_ | refine Pw.list (Pw.off rfl rfl ?_) | refine Pw.condT rfl ?_ | refine Pw.condF rfl ?_ | refine Pw.list (Pw.box rfl rfl rfl rfl (fun _ => ?_)) | refine Pw.list (Pw.alloc rfl rfl rfl rfl rfl (fun _ => ?_)) | refine Pw.list (Pw.build rfl rfl rfl rfl ?_) | refine Pw.list (Pw.ld rfl inferInstance rfl rfl rfl ?_) | refine Pw.list (Pw.sto rfl rfl inferInstance rfl rfl rfl rfl rfl inferInstance rfl ?_))
  refine Pw.list (Pw.call (ValuesR_ct l (A, c)) rfl rfl rfl (by kernel_rfl) rfl rfl (fun w h => trivial) ?_)
  intro gv' _
  repeat (first | (with_reducible first | refine Pw.seq ?_ | refine Pw.region ?_ | refine Pw.nil ?_ | refine Pw.then_ ?_ | refine Pw.skip ?_ | refine Pw.block ?_ | refine Pw.exit ?_ | refine Pw.inX ?_ | refine Pw.inN ?_ | refine Pw.inR ?_ | refine Pw.thenX ?_ | refine Pw.thenR ?_ | refine Pw.ret ?_) | refine Pw.list (Pw.pure rfl rfl rfl ?_) | refine Pw.inY rfl ?_ | refine Pw.list (Pw.off rfl rfl ?_) | refine Pw.condT rfl ?_ | refine Pw.condF rfl ?_ | refine Pw.list (Pw.box rfl rfl rfl rfl (fun _ => ?_)) | refine Pw.list (Pw.alloc rfl rfl rfl rfl rfl (fun _ => ?_)) | refine Pw.list (Pw.build rfl rfl rfl rfl ?_) | refine Pw.list (Pw.ld rfl inferInstance rfl rfl rfl ?_) | refine Pw.list (Pw.sto rfl rfl inferInstance rfl rfl rfl rfl rfl inferInstance rfl ?_))
  refine Pw.list (Pw.call (SortedFuncR_ct l (A, c) gv' (fun s hs => by
    obtain ⟨k1, k2, k3⟩ := hrq s hs
    exact ⟨⟨(hw s hs).a, (hw s hs).b⟩, hb s hs⟩) (by omega) (by omega) (fun s hs => hsp.mem_iff.1 hs)) rfl rfl rfl (by kernel_rfl) rfl rfl (fun w h => ⟨fact0 h, (hv w h)⟩) ?_)
  intro zo _
  repeat (first | (with_reducible first | refine Pw.seq ?_ | refine Pw.region ?_ | refine Pw.nil ?_ | refine Pw.then_ ?_ | refine Pw.skip ?_ | refine Pw.block ?_ | refine Pw.exit ?_ | refine Pw.inX ?_ | refine Pw.inN ?_ | refine Pw.inR ?_ | refine Pw.thenX ?_ | refine Pw.thenR ?_ | refine Pw.ret ?_) | refine Pw.list (Pw.pure rfl rfl rfl ?_) | refine Pw.inY rfl ?_ | refine Pw.list (Pw.off rfl rfl ?_) | refine Pw.condT rfl ?_ | refine Pw.condF rfl ?_ | refine Pw.list (Pw.box rfl rfl rfl rfl (fun _ => ?_)) | refine Pw.list (Pw.alloc rfl rfl rfl rfl rfl (fun _ => ?_)) | refine Pw.list (Pw.build rfl rfl rfl rfl ?_) | refine Pw.list (Pw.ld rfl inferInstance rfl rfl rfl ?_) | refine Pw.list (Pw.sto rfl rfl inferInstance rfl rfl rfl rfl rfl inferInstance rfl ?_))
  refine Pw.list (Pw.call (flood_ct hTq (insR l.length l) zo (fun s hs => hrq s (hsp.mem_iff.1 hs)) (hsp.map rq) hsw) rfl rfl rfl (by kernel_rfl) rfl rfl (fun w h => (hv w h)) ?_)
  rintro ⟨v, zv⟩ ⟨hlev, hvb⟩
  dsimp only at hlev hvb ⊢
  have hvz := hTq.sz hvb
  repeat (first | (with_reducible first | refine Pw.seq ?_ | refine Pw.region ?_ | refine Pw.nil ?_ | refine Pw.then_ ?_ | refine Pw.skip ?_ | refine Pw.block ?_ | refine Pw.exit ?_ | refine Pw.inX ?_ | refine Pw.inN ?_ | refine Pw.inR ?_ | refine Pw.thenX ?_ | refine Pw.thenR ?_ | refine Pw.ret ?_) | refine Pw.list (Pw.pure rfl rfl rfl ?_) | refine Pw.inY rfl ?_ | refine Pw.list (Pw.off rfl rfl ?_) | refine Pw.condT rfl ?_ | refine Pw.condF rfl ?_ | refine Pw.list (Pw.box rfl rfl rfl rfl (fun _ => ?_)) | refine Pw.list (Pw.alloc rfl rfl rfl rfl rfl (fun _ => ?_)) | refine Pw.list (Pw.build rfl rfl rfl rfl ?_) | refine Pw.list (Pw.ld rfl inferInstance rfl rfl rfl ?_) | refine Pw.list (Pw.sto rfl rfl inferInstance rfl rfl rfl rfl rfl inferInstance rfl ?_))
  rename_i g7
  refine Pw.facts (G' := [QW v zv, RS l (A, c), AllR []]) (fun w h => allCons (hv w h) (allCons (hv w h) (allCons (fun r hr => by cases hr) allNil))) ?_
  refine Pw.eqL (L' := gL3 none (cellsR []) 34 ⟨g7, row [sl (qn v) zv.1, sl (qd v) zv.2] 34⟩) rfl ?_
  refine Pw.loopJ (σ := Nat × Gr × List Rt) (fun t => t.1 ≤ l.length ∧ t.2.2.map (fun t => (t.a, t.b)) = outT ((l.take t.1).map rq) v ∧ gOk t.2.1 (cellsR t.2.2) t.1 2) (fun t => ⟨[(7, .pointer (some ⟨g7, 0, none⟩)), (9, gv t.2.1 t.1), (38, .slice A l.length c), (39, .int .i64 l.length), (40, .int .i64 t.1)], gL3 t.2.1 (cellsR t.2.2) 34 ⟨g7, row [sl (qn v) zv.1, sl (qd v) zv.2] 34⟩, [QW v zv, RS l (A, c), AllR t.2.2]⟩) (fun t => l.length - t.1) (0, none, []) ⟨Nat.zero_le _, rfl, rfl, rfl⟩ (Pw.enter ⟨rfl, rfl, rfl, rfl, rfl, trivial⟩ (fun w h => h)) ?_
  rintro ⟨i, q, rs⟩ ⟨hi, hrs, hqo⟩
  dsimp only at hi hrs hqo ⊢
  repeat (first | (with_reducible first | refine Pw.seq ?_ | refine Pw.region ?_ | refine Pw.nil ?_ | refine Pw.then_ ?_ | refine Pw.skip ?_ | refine Pw.block ?_ | refine Pw.exit ?_ | refine Pw.inX ?_ | refine Pw.inN ?_ | refine Pw.inR ?_ | refine Pw.thenX ?_ | refine Pw.thenR ?_ | refine Pw.ret ?_) | refine Pw.list (Pw.pure rfl rfl rfl ?_) | refine Pw.inY rfl ?_ | refine Pw.list (Pw.off rfl rfl ?_) | refine Pw.condT rfl ?_ | refine Pw.condF rfl ?_ | refine Pw.list (Pw.box rfl rfl rfl rfl (fun _ => ?_)) | refine Pw.list (Pw.alloc rfl rfl rfl rfl rfl (fun _ => ?_)) | refine Pw.list (Pw.build rfl rfl rfl rfl ?_) | refine Pw.list (Pw.ld rfl inferInstance rfl rfl rfl ?_) | refine Pw.list (Pw.sto rfl rfl inferInstance rfl rfl rfl rfl rfl inferInstance rfl ?_))
  refine Pw.condD rfl (fun c3 => ?_) (fun c3 => ?_)
  · obtain ⟨s, hsi, hsm⟩ := get_at (show i < l.length by omega)
    have em := map_take_snocT (f := rq) hsi
    obtain ⟨y, zs, rfl, hy, hyq⟩ := rtq_ex (hrq s hsm)
    rw [hyq] at em
    repeat (first | (with_reducible first | refine Pw.seq ?_ | refine Pw.region ?_ | refine Pw.nil ?_ | refine Pw.then_ ?_ | refine Pw.skip ?_ | refine Pw.block ?_ | refine Pw.exit ?_ | refine Pw.inX ?_ | refine Pw.inN ?_ | refine Pw.inR ?_ | refine Pw.thenX ?_ | refine Pw.thenR ?_ | refine Pw.ret ?_) | refine Pw.list (Pw.pure rfl rfl rfl ?_) | refine Pw.inY rfl ?_ | refine Pw.list (Pw.off rfl rfl ?_) | refine Pw.condT rfl ?_ | refine Pw.condF rfl ?_ | refine Pw.list (Pw.box rfl rfl rfl rfl (fun _ => ?_)) | refine Pw.list (Pw.alloc rfl rfl rfl rfl rfl (fun _ => ?_)) | refine Pw.list (Pw.build rfl rfl rfl rfl ?_) | refine Pw.list (Pw.ld rfl inferInstance rfl rfl rfl ?_) | refine Pw.list (Pw.sto rfl rfl inferInstance rfl rfl rfl rfl rfl inferInstance rfl ?_))
    refine Pw.list (Pw.index rfl rfl rfl rfl (Int.natCast_nonneg i) c3 (fun w h => (hv w h : RS l (A, c) w).has (Int.natCast_nonneg i) c3) rfl rfl ?_)
    rintro ad rfl
    refine Pw.list (Pw.loadR ⟨qn y, qd y, zs⟩ rfl inferInstance rfl (by rw [Int.toNat_natCast]; exact hsi) (by kernel_rfl) rfl rfl ?_)
    refine Pw.re (d := 43) (v' := qt y zs) rfl rfl ?_
    repeat (first | (with_reducible first | refine Pw.seq ?_ | refine Pw.region ?_ | refine Pw.nil ?_ | refine Pw.then_ ?_ | refine Pw.skip ?_ | refine Pw.block ?_ | refine Pw.exit ?_ | refine Pw.inX ?_ | refine Pw.inN ?_ | refine Pw.inR ?_ | refine Pw.thenX ?_ | refine Pw.thenR ?_ | refine Pw.ret ?_) | refine Pw.list (Pw.pure rfl rfl rfl ?_) | refine Pw.inY rfl ?_ | refine Pw.list (Pw.off rfl rfl ?_) | refine Pw.condT rfl ?_ | refine Pw.condF rfl ?_ | refine Pw.list (Pw.box rfl rfl rfl rfl (fun _ => ?_)) | refine Pw.list (Pw.alloc rfl rfl rfl rfl rfl (fun _ => ?_)) | refine Pw.list (Pw.build rfl rfl rfl rfl ?_) | refine Pw.list (Pw.ld rfl inferInstance rfl rfl rfl ?_) | refine Pw.list (Pw.sto rfl rfl inferInstance rfl rfl rfl rfl rfl inferInstance rfl ?_))
    refine freeHead ?_
    repeat (first | (with_reducible first | refine Pw.seq ?_ | refine Pw.region ?_ | refine Pw.nil ?_ | refine Pw.then_ ?_ | refine Pw.skip ?_ | refine Pw.block ?_ | refine Pw.exit ?_ | refine Pw.inX ?_ | refine Pw.inN ?_ | refine Pw.inR ?_ | refine Pw.thenX ?_ | refine Pw.thenR ?_ | refine Pw.ret ?_) | refine Pw.list (Pw.pure rfl rfl rfl ?_) | refine Pw.inY rfl ?_ | refine Pw.list (Pw.off rfl rfl ?_) | refine Pw.condT rfl ?_ | refine Pw.condF rfl ?_ | refine Pw.list (Pw.box rfl rfl rfl rfl (fun _ => ?_)) | refine Pw.list (Pw.alloc rfl rfl rfl rfl rfl (fun _ => ?_)) | refine Pw.list (Pw.build rfl rfl rfl rfl ?_) | refine Pw.list (Pw.ld rfl inferInstance rfl rfl rfl ?_) | refine Pw.list (Pw.sto rfl rfl inferInstance rfl rfl rfl rfl rfl inferInstance rfl ?_))
    by_cases hyv : y ≤ v
    · refine Pw.list (Pw.call (qSub_ct hvz hy zv zs (by omega) hyv) rfl rfl rfl (by kernel_rfl) rfl rfl (fun w h => ⟨(hv w h), (hv w h : heldR ⟨qn y, qd y, zs⟩ w)⟩) ?_)
      intro zx _
      rw [← gn_sub hyv]
      repeat (first | (with_reducible first | refine Pw.seq ?_ | refine Pw.region ?_ | refine Pw.nil ?_ | refine Pw.then_ ?_ | refine Pw.skip ?_ | refine Pw.block ?_ | refine Pw.exit ?_ | refine Pw.inX ?_ | refine Pw.inN ?_ | refine Pw.inR ?_ | refine Pw.thenX ?_ | refine Pw.thenR ?_ | refine Pw.ret ?_) | refine Pw.list (Pw.pure rfl rfl rfl ?_) | refine Pw.inY rfl ?_ | refine Pw.list (Pw.off rfl rfl ?_) | refine Pw.condT rfl ?_ | refine Pw.condF rfl ?_ | refine Pw.list (Pw.box rfl rfl rfl rfl (fun _ => ?_)) | refine Pw.list (Pw.alloc rfl rfl rfl rfl rfl (fun _ => ?_)) | refine Pw.list (Pw.build rfl rfl rfl rfl ?_) | refine Pw.list (Pw.ld rfl inferInstance rfl rfl rfl ?_) | refine Pw.list (Pw.sto rfl rfl inferInstance rfl rfl rfl rfl rfl inferInstance rfl ?_))
      refine freeHead ?_
      repeat (first | (with_reducible first | refine Pw.seq ?_ | refine Pw.region ?_ | refine Pw.nil ?_ | refine Pw.then_ ?_ | refine Pw.skip ?_ | refine Pw.block ?_ | refine Pw.exit ?_ | refine Pw.inX ?_ | refine Pw.inN ?_ | refine Pw.inR ?_ | refine Pw.thenX ?_ | refine Pw.thenR ?_ | refine Pw.ret ?_) | refine Pw.list (Pw.pure rfl rfl rfl ?_) | refine Pw.inY rfl ?_ | refine Pw.list (Pw.off rfl rfl ?_) | refine Pw.condT rfl ?_ | refine Pw.condF rfl ?_ | refine Pw.list (Pw.box rfl rfl rfl rfl (fun _ => ?_)) | refine Pw.list (Pw.alloc rfl rfl rfl rfl rfl (fun _ => ?_)) | refine Pw.list (Pw.build rfl rfl rfl rfl ?_) | refine Pw.list (Pw.ld rfl inferInstance rfl rfl rfl ?_) | refine Pw.list (Pw.sto rfl rfl inferInstance rfl rfl rfl rfl rfl inferInstance rfl ?_))
      refine Pw.list (Pw.lit12 rfl rfl rfl rfl rfl rfl rfl rfl rfl (fun g45 => freeHead ?_))
      refine Pw.perm permG3 ?_
      refine Pw.list (Pw.push (s := q) (m := i) (cells := cellsR rs) (news := encR ⟨qn (gn v y), qd (gn v y), zx⟩) rfl rfl rfl rfl rfl rfl rfl hqo rfl (encR_one _) (fun w hs j' u hu => by
        have h1 : w.heap[g45]? = some (row (encR ⟨qn (gn v y), qd (gn v y), zx⟩) 34) := fact0 hs.all
        rw [add_none, cell_of_blk h1]
        simpa using hu) (by omega) (by simp only [maxLen]; omega) (by show (i + 1) * 48 ≤ _; omega) rfl rfl (fun q' hq' => ?_))
      rw [← cellsR_snoc] at hq' ⊢
      refine Pw.perm permG3.symm ?_
      repeat (first | (with_reducible first | refine Pw.seq ?_ | refine Pw.region ?_ | refine Pw.nil ?_ | refine Pw.then_ ?_ | refine Pw.skip ?_ | refine Pw.block ?_ | refine Pw.exit ?_ | refine Pw.inX ?_ | refine Pw.inN ?_ | refine Pw.inR ?_ | refine Pw.thenX ?_ | refine Pw.thenR ?_ | refine Pw.ret ?_) | refine Pw.list (Pw.pure rfl rfl rfl ?_) | refine Pw.inY rfl ?_ | refine Pw.list (Pw.off rfl rfl ?_) | refine Pw.condT rfl ?_ | refine Pw.condF rfl ?_ | refine Pw.list (Pw.box rfl rfl rfl rfl (fun _ => ?_)) | refine Pw.list (Pw.alloc rfl rfl rfl rfl rfl (fun _ => ?_)) | refine Pw.list (Pw.build rfl rfl rfl rfl ?_) | refine Pw.list (Pw.ld rfl inferInstance rfl rfl rfl ?_) | refine Pw.list (Pw.sto rfl rfl inferInstance rfl rfl rfl rfl rfl inferInstance rfl ?_))
      refine Pw.re (d := 40) (v' := .int .i64 ((i + 1 : Nat) : Int)) rfl (congrArg (Value.int .i64) (i64s (n := 100000) (by omega) (by omega))) ?_
      exact Pw.again (i + 1, q', rs ++ [⟨qn (gn v y), qd (gn v y), zx⟩]) ⟨by omega, by rw [List.map_append, hrs, em]; unfold outT; rw [List.map_append]; rfl, hq'⟩ (by show l.length - (i + 1) < l.length - i; omega) ⟨rfl, rfl, rfl, rfl, rfl, trivial⟩ rfl (fun w h => allCons (hv w h) (allCons (hv w h) (allCons (fun r hr => by
        rcases List.mem_append.1 hr with hr | hr
        · exact (hv w h : AllR rs w) r hr
        · rw [List.mem_singleton.1 hr]
          exact (hv w h : QW (gn v y) zx w)) allNil)))
    · have hvy : v < y := Rat.not_le.1 hyv
      refine Pw.list (Pw.call (qSubLt_ct hvz hy zv zs (by omega) hvy) rfl rfl rfl (by kernel_rfl) rfl rfl (fun w h => ⟨(hv w h), (hv w h : heldR ⟨qn y, qd y, zs⟩ w)⟩) ?_)
      intro z3 _
      repeat (first | (with_reducible first | refine Pw.seq ?_ | refine Pw.region ?_ | refine Pw.nil ?_ | refine Pw.then_ ?_ | refine Pw.skip ?_ | refine Pw.block ?_ | refine Pw.exit ?_ | refine Pw.inX ?_ | refine Pw.inN ?_ | refine Pw.inR ?_ | refine Pw.thenX ?_ | refine Pw.thenR ?_ | refine Pw.ret ?_) | refine Pw.list (Pw.pure rfl rfl rfl ?_) | refine Pw.inY rfl ?_ | refine Pw.list (Pw.off rfl rfl ?_) | refine Pw.condT rfl ?_ | refine Pw.condF rfl ?_ | refine Pw.list (Pw.box rfl rfl rfl rfl (fun _ => ?_)) | refine Pw.list (Pw.alloc rfl rfl rfl rfl rfl (fun _ => ?_)) | refine Pw.list (Pw.build rfl rfl rfl rfl ?_) | refine Pw.list (Pw.ld rfl inferInstance rfl rfl rfl ?_) | refine Pw.list (Pw.sto rfl rfl inferInstance rfl rfl rfl rfl rfl inferInstance rfl ?_))
      refine Pw.list (Pw.call (qOf_ct (n := 0) (by omega) (by omega)) rfl rfl rfl (by kernel_rfl) rfl rfl (fun w h => trivial) ?_)
      intro zx _
      rw [show (((0 : Int) : Rat)) = gn v y by rw [gn_zero hvy]; rfl]
      repeat (first | (with_reducible first | refine Pw.seq ?_ | refine Pw.region ?_ | refine Pw.nil ?_ | refine Pw.then_ ?_ | refine Pw.skip ?_ | refine Pw.block ?_ | refine Pw.exit ?_ | refine Pw.inX ?_ | refine Pw.inN ?_ | refine Pw.inR ?_ | refine Pw.thenX ?_ | refine Pw.thenR ?_ | refine Pw.ret ?_) | refine Pw.list (Pw.pure rfl rfl rfl ?_) | refine Pw.inY rfl ?_ | refine Pw.list (Pw.off rfl rfl ?_) | refine Pw.condT rfl ?_ | refine Pw.condF rfl ?_ | refine Pw.list (Pw.box rfl rfl rfl rfl (fun _ => ?_)) | refine Pw.list (Pw.alloc rfl rfl rfl rfl rfl (fun _ => ?_)) | refine Pw.list (Pw.build rfl rfl rfl rfl ?_) | refine Pw.list (Pw.ld rfl inferInstance rfl rfl rfl ?_) | refine Pw.list (Pw.sto rfl rfl inferInstance rfl rfl rfl rfl rfl inferInstance rfl ?_))
      refine freeHead ?_
      repeat (first | (with_reducible first | refine Pw.seq ?_ | refine Pw.region ?_ | refine Pw.nil ?_ | refine Pw.then_ ?_ | refine Pw.skip ?_ | refine Pw.block ?_ | refine Pw.exit ?_ | refine Pw.inX ?_ | refine Pw.inN ?_ | refine Pw.inR ?_ | refine Pw.thenX ?_ | refine Pw.thenR ?_ | refine Pw.ret ?_) | refine Pw.list (Pw.pure rfl rfl rfl ?_) | refine Pw.inY rfl ?_ | refine Pw.list (Pw.off rfl rfl ?_) | refine Pw.condT rfl ?_ | refine Pw.condF rfl ?_ | refine Pw.list (Pw.box rfl rfl rfl rfl (fun _ => ?_)) | refine Pw.list (Pw.alloc rfl rfl rfl rfl rfl (fun _ => ?_)) | refine Pw.list (Pw.build rfl rfl rfl rfl ?_) | refine Pw.list (Pw.ld rfl inferInstance rfl rfl rfl ?_) | refine Pw.list (Pw.sto rfl rfl inferInstance rfl rfl rfl rfl rfl inferInstance rfl ?_))
      refine Pw.list (Pw.lit12 rfl rfl rfl rfl rfl rfl rfl rfl rfl (fun g45 => freeHead ?_))
      refine Pw.perm permG3 ?_
      refine Pw.list (Pw.push (s := q) (m := i) (cells := cellsR rs) (news := encR ⟨qn (gn v y), qd (gn v y), zx⟩) rfl rfl rfl rfl rfl rfl rfl hqo rfl (encR_one _) (fun w hs j' u hu => by
        have h1 : w.heap[g45]? = some (row (encR ⟨qn (gn v y), qd (gn v y), zx⟩) 34) := fact0 hs.all
        rw [add_none, cell_of_blk h1]
        simpa using hu) (by omega) (by simp only [maxLen]; omega) (by show (i + 1) * 48 ≤ _; omega) rfl rfl (fun q' hq' => ?_))
      rw [← cellsR_snoc] at hq' ⊢
      refine Pw.perm permG3.symm ?_
      repeat (first | (with_reducible first | refine Pw.seq ?_ | refine Pw.region ?_ | refine Pw.nil ?_ | refine Pw.then_ ?_ | refine Pw.skip ?_ | refine Pw.block ?_ | refine Pw.exit ?_ | refine Pw.inX ?_ | refine Pw.inN ?_ | refine Pw.inR ?_ | refine Pw.thenX ?_ | refine Pw.thenR ?_ | refine Pw.ret ?_) | refine Pw.list (Pw.pure rfl rfl rfl ?_) | refine Pw.inY rfl ?_ | refine Pw.list (Pw.off rfl rfl ?_) | refine Pw.condT rfl ?_ | refine Pw.condF rfl ?_ | refine Pw.list (Pw.box rfl rfl rfl rfl (fun _ => ?_)) | refine Pw.list (Pw.alloc rfl rfl rfl rfl rfl (fun _ => ?_)) | refine Pw.list (Pw.build rfl rfl rfl rfl ?_) | refine Pw.list (Pw.ld rfl inferInstance rfl rfl rfl ?_) | refine Pw.list (Pw.sto rfl rfl inferInstance rfl rfl rfl rfl rfl inferInstance rfl ?_))
      refine Pw.re (d := 40) (v' := .int .i64 ((i + 1 : Nat) : Int)) rfl (congrArg (Value.int .i64) (i64s (n := 100000) (by omega) (by omega))) ?_
      exact Pw.again (i + 1, q', rs ++ [⟨qn (gn v y), qd (gn v y), zx⟩]) ⟨by omega, by rw [List.map_append, hrs, em]; unfold outT; rw [List.map_append]; rfl, hq'⟩ (by show l.length - (i + 1) < l.length - i; omega) ⟨rfl, rfl, rfl, rfl, rfl, trivial⟩ rfl (fun w h => allCons (hv w h) (allCons (hv w h) (allCons (fun r hr => by
        rcases List.mem_append.1 hr with hr | hr
        · exact (hv w h : AllR rs w) r hr
        · rw [List.mem_singleton.1 hr]
          exact (hv w h : QW (gn v y) zx w)) allNil)))
  · obtain rfl : i = l.length := by omega
    rw [List.take_length] at hrs
    have hrl : rs.length = l.length := by have := congrArg List.length hrs; rw [List.length_map] at this; rw [this]; simp [outT]
    repeat (first | (with_reducible first | refine Pw.seq ?_ | refine Pw.region ?_ | refine Pw.nil ?_ | refine Pw.then_ ?_ | refine Pw.skip ?_ | refine Pw.block ?_ | refine Pw.exit ?_ | refine Pw.inX ?_ | refine Pw.inN ?_ | refine Pw.inR ?_ | refine Pw.thenX ?_ | refine Pw.thenR ?_ | refine Pw.ret ?_) | refine Pw.list (Pw.pure rfl rfl rfl ?_) | refine Pw.inY rfl ?_ | refine Pw.list (Pw.off rfl rfl ?_) | refine Pw.condT rfl ?_ | refine Pw.condF rfl ?_ | refine Pw.list (Pw.box rfl rfl rfl rfl (fun _ => ?_)) | refine Pw.list (Pw.alloc rfl rfl rfl rfl rfl (fun _ => ?_)) | refine Pw.list (Pw.build rfl rfl rfl rfl ?_) | refine Pw.list (Pw.ld rfl inferInstance rfl rfl rfl ?_) | refine Pw.list (Pw.sto rfl rfl inferInstance rfl rfl rfl rfl rfl inferInstance rfl ?_))
    refine Pw.drop ?_
    refine Pw.eqL (L' := gL q (cellsR rs) 34 ++ []) rfl ?_
    refine Pw.freeG hqo (fun A' c' e hc => ?_)
    refine Pw.re (d := 4) (v' := rsV rs (A', c')) rfl (by rw [e]; show Value.slice A' l.length c' = Value.slice A' rs.length c'; rw [hrl]) ?_
    exact Pw.ret_ (x := (rs, (A', c'), 0)) (.tmp rfl (.tmp rfl .nil)) rfl (by unfold TurnP; rw [if_neg (by rw [hbad]; simp)]; exact ⟨rfl, v, hlev, hvb, hrs⟩) (fun w h => rows_of_cells (fun _ _ => rfl) (fun y hy => (hv w h : AllR rs w) y hy) (by rw [hrl]; exact hc) (by rw [hrl]; simp only [maxLen]; omega) (by omega) (fact0 h))
end Go.Proofs.Wk
/- The laws of balance: helpers walked. -/
namespace Go.Proofs.Wk
open Go.RowKit
set_option maxRecDepth 100000
set_option maxHeartbeats 4000000
attribute [local irreducible] Pw OpG
set_option linter.unusedVariables false
set_option linter.unusedSimpArgs false
theorem bfew_ct (l : List Rt) (x : Option Addr × Nat) : Ct Try.prog 6 #[rsV l x] (RS l x) (fun r : Bool => .bool r) (fun r => r = true → l.length ≤ 20 ∧ ∀ s ∈ l, s.a.length ≤ 6 ∧ s.b.length ≤ 4) (fun _ _ => True) := by
  obtain ⟨A, c⟩ := x
  refine Ct.start Try.func6 rfl rfl (slots_of rfl slots1) (fun D w0 => ?_)
  refine Pw.use (p := l.length ≤ maxLen) (fun w h => (fact0 h).top) (fun htop => ?_)
  have htop := top63 htop
  repeat (first | (with_reducible first | refine Pw.seq ?_ | refine Pw.region ?_ | refine Pw.nil ?_ | refine Pw.then_ ?_ | refine Pw.skip ?_ | refine Pw.block ?_ | refine Pw.exit ?_ | refine Pw.inX ?_ | refine Pw.inN ?_ | refine Pw.inR ?_ | refine Pw.thenX ?_ | refine Pw.thenR ?_ | refine Pw.ret ?_) | refine Pw.list (Pw.pure rfl rfl rfl ?_) | refine Pw.inY rfl ?_ | refine Pw.list (Pw.off rfl rfl ?_) | refine Pw.condT rfl ?_ | refine Pw.condF rfl ?_ | refine Pw.list (Pw.box rfl rfl rfl rfl (fun _ => ?_)) | refine Pw.list (Pw.alloc rfl rfl rfl rfl rfl (fun _ => ?_)) | refine Pw.list (Pw.build rfl rfl rfl rfl ?_) | refine Pw.list (Pw.ld rfl inferInstance rfl rfl rfl ?_) | refine Pw.list (Pw.sto rfl rfl inferInstance rfl rfl rfl rfl rfl inferInstance rfl ?_))
  refine Pw.loopJ (σ := Nat) (fun i => i ≤ l.length ∧ i ≤ 20 ∧ ∀ s ∈ l.take i, s.a.length ≤ 6 ∧ s.b.length ≤ 4) (fun i => ⟨[(0, .slice A l.length c), (5, .int .i64 l.length), (6, .int .i64 i)], [], [RS l (A, c)]⟩) (fun i => l.length - i) 0 ⟨Nat.zero_le _, by omega, fun s hs => by simp at hs⟩ (Pw.enter ⟨rfl, rfl, rfl, trivial⟩ (fun _ h => h)) ?_
  rintro i ⟨hi, hm, hs⟩
  dsimp only at hi hm hs ⊢
  repeat (first | (with_reducible first | refine Pw.seq ?_ | refine Pw.region ?_ | refine Pw.nil ?_ | refine Pw.then_ ?_ | refine Pw.skip ?_ | refine Pw.block ?_ | refine Pw.exit ?_ | refine Pw.inX ?_ | refine Pw.inN ?_ | refine Pw.inR ?_ | refine Pw.thenX ?_ | refine Pw.thenR ?_ | refine Pw.ret ?_) | refine Pw.list (Pw.pure rfl rfl rfl ?_) | refine Pw.inY rfl ?_ | refine Pw.list (Pw.off rfl rfl ?_) | refine Pw.condT rfl ?_ | refine Pw.condF rfl ?_ | refine Pw.list (Pw.box rfl rfl rfl rfl (fun _ => ?_)) | refine Pw.list (Pw.alloc rfl rfl rfl rfl rfl (fun _ => ?_)) | refine Pw.list (Pw.build rfl rfl rfl rfl ?_) | refine Pw.list (Pw.ld rfl inferInstance rfl rfl rfl ?_) | refine Pw.list (Pw.sto rfl rfl inferInstance rfl rfl rfl rfl rfl inferInstance rfl ?_))
  refine Pw.condD rfl (fun c3 => ?_) (fun c3 => ?_)
  · obtain ⟨s, hsi, hsm⟩ := get_at (show i < l.length by omega)
    repeat (first | (with_reducible first | refine Pw.seq ?_ | refine Pw.region ?_ | refine Pw.nil ?_ | refine Pw.then_ ?_ | refine Pw.skip ?_ | refine Pw.block ?_ | refine Pw.exit ?_ | refine Pw.inX ?_ | refine Pw.inN ?_ | refine Pw.inR ?_ | refine Pw.thenX ?_ | refine Pw.thenR ?_ | refine Pw.ret ?_) | refine Pw.list (Pw.pure rfl rfl rfl ?_) | refine Pw.inY rfl ?_ | refine Pw.list (Pw.off rfl rfl ?_) | refine Pw.condT rfl ?_ | refine Pw.condF rfl ?_ | refine Pw.list (Pw.box rfl rfl rfl rfl (fun _ => ?_)) | refine Pw.list (Pw.alloc rfl rfl rfl rfl rfl (fun _ => ?_)) | refine Pw.list (Pw.build rfl rfl rfl rfl ?_) | refine Pw.list (Pw.ld rfl inferInstance rfl rfl rfl ?_) | refine Pw.list (Pw.sto rfl rfl inferInstance rfl rfl rfl rfl rfl inferInstance rfl ?_))
    refine Pw.split 11 rfl (fun c4 => ?_) (fun c4 => ?_)
    · repeat (first | (with_reducible first | refine Pw.seq ?_ | refine Pw.region ?_ | refine Pw.nil ?_ | refine Pw.then_ ?_ | refine Pw.skip ?_ | refine Pw.block ?_ | refine Pw.exit ?_ | refine Pw.inX ?_ | refine Pw.inN ?_ | refine Pw.inR ?_ | refine Pw.thenX ?_ | refine Pw.thenR ?_ | refine Pw.ret ?_) | refine Pw.list (Pw.pure rfl rfl rfl ?_) | refine Pw.inY rfl ?_ | refine Pw.list (Pw.off rfl rfl ?_) | refine Pw.condT rfl ?_ | refine Pw.condF rfl ?_ | refine Pw.list (Pw.box rfl rfl rfl rfl (fun _ => ?_)) | refine Pw.list (Pw.alloc rfl rfl rfl rfl rfl (fun _ => ?_)) | refine Pw.list (Pw.build rfl rfl rfl rfl ?_) | refine Pw.list (Pw.ld rfl inferInstance rfl rfl rfl ?_) | refine Pw.list (Pw.sto rfl rfl inferInstance rfl rfl rfl rfl rfl inferInstance rfl ?_))
      exact Pw.ret_ (x := false) (.tmp rfl .nil) rfl (fun e => by cases e) (fun w h => by trivial)
    repeat (first | (with_reducible first | refine Pw.seq ?_ | refine Pw.region ?_ | refine Pw.nil ?_ | refine Pw.then_ ?_ | refine Pw.skip ?_ | refine Pw.block ?_ | refine Pw.exit ?_ | refine Pw.inX ?_ | refine Pw.inN ?_ | refine Pw.inR ?_ | refine Pw.thenX ?_ | refine Pw.thenR ?_ | refine Pw.ret ?_) | refine Pw.list (Pw.pure rfl rfl rfl ?_) | refine Pw.inY rfl ?_ | refine Pw.list (Pw.off rfl rfl ?_) | refine Pw.condT rfl ?_ | refine Pw.condF rfl ?_ | refine Pw.list (Pw.box rfl rfl rfl rfl (fun _ => ?_)) | refine Pw.list (Pw.alloc rfl rfl rfl rfl rfl (fun _ => ?_)) | refine Pw.list (Pw.build rfl rfl rfl rfl ?_) | refine Pw.list (Pw.ld rfl inferInstance rfl rfl rfl ?_) | refine Pw.list (Pw.sto rfl rfl inferInstance rfl rfl rfl rfl rfl inferInstance rfl ?_))
    refine Pw.list (Pw.index rfl rfl rfl rfl (Int.natCast_nonneg i) c3 (fun w h => (hv w h : RS l (A, c) w).has (Int.natCast_nonneg i) c3) rfl rfl ?_)
    rintro ad rfl
    refine Pw.list (Pw.fieldS rfl rfl rfl rfl rfl rfl rfl ?_)
    refine Pw.list (Pw.loadF s rfl inferInstance rfl (by rw [Int.toNat_natCast]; exact hsi) rfl rfl rfl rfl ?_)
    repeat (first | (with_reducible first | refine Pw.seq ?_ | refine Pw.region ?_ | refine Pw.nil ?_ | refine Pw.then_ ?_ | refine Pw.skip ?_ | refine Pw.block ?_ | refine Pw.exit ?_ | refine Pw.inX ?_ | refine Pw.inN ?_ | refine Pw.inR ?_ | refine Pw.thenX ?_ | refine Pw.thenR ?_ | refine Pw.ret ?_) | refine Pw.list (Pw.pure rfl rfl rfl ?_) | refine Pw.inY rfl ?_ | refine Pw.list (Pw.off rfl rfl ?_) | refine Pw.condT rfl ?_ | refine Pw.condF rfl ?_ | refine Pw.list (Pw.box rfl rfl rfl rfl (fun _ => ?_)) | refine Pw.list (Pw.alloc rfl rfl rfl rfl rfl (fun _ => ?_)) | refine Pw.list (Pw.build rfl rfl rfl rfl ?_) | refine Pw.list (Pw.ld rfl inferInstance rfl rfl rfl ?_) | refine Pw.list (Pw.sto rfl rfl inferInstance rfl rfl rfl rfl rfl inferInstance rfl ?_))
    refine Pw.split 20 rfl (fun c5 => ?_) (fun c5 => ?_)
    · repeat (first | (with_reducible first | refine Pw.seq ?_ | refine Pw.region ?_ | refine Pw.nil ?_ | refine Pw.then_ ?_ | refine Pw.skip ?_ | refine Pw.block ?_ | refine Pw.exit ?_ | refine Pw.inX ?_ | refine Pw.inN ?_ | refine Pw.inR ?_ | refine Pw.thenX ?_ | refine Pw.thenR ?_ | refine Pw.ret ?_) | refine Pw.list (Pw.pure rfl rfl rfl ?_) | refine Pw.inY rfl ?_ | refine Pw.list (Pw.off rfl rfl ?_) | refine Pw.condT rfl ?_ | refine Pw.condF rfl ?_ | refine Pw.list (Pw.box rfl rfl rfl rfl (fun _ => ?_)) | refine Pw.list (Pw.alloc rfl rfl rfl rfl rfl (fun _ => ?_)) | refine Pw.list (Pw.build rfl rfl rfl rfl ?_) | refine Pw.list (Pw.ld rfl inferInstance rfl rfl rfl ?_) | refine Pw.list (Pw.sto rfl rfl inferInstance rfl rfl rfl rfl rfl inferInstance rfl ?_))
      exact Pw.ret_ (x := false) (.tmp rfl .nil) rfl (fun e => by cases e) (fun w h => by trivial)
    repeat (first | (with_reducible first | refine Pw.seq ?_ | refine Pw.region ?_ | refine Pw.nil ?_ | refine Pw.then_ ?_ | refine Pw.skip ?_ | refine Pw.block ?_ | refine Pw.exit ?_ | refine Pw.inX ?_ | refine Pw.inN ?_ | refine Pw.inR ?_ | refine Pw.thenX ?_ | refine Pw.thenR ?_ | refine Pw.ret ?_) | refine Pw.list (Pw.pure rfl rfl rfl ?_) | refine Pw.inY rfl ?_ | refine Pw.list (Pw.off rfl rfl ?_) | refine Pw.condT rfl ?_ | refine Pw.condF rfl ?_ | refine Pw.list (Pw.box rfl rfl rfl rfl (fun _ => ?_)) | refine Pw.list (Pw.alloc rfl rfl rfl rfl rfl (fun _ => ?_)) | refine Pw.list (Pw.build rfl rfl rfl rfl ?_) | refine Pw.list (Pw.ld rfl inferInstance rfl rfl rfl ?_) | refine Pw.list (Pw.sto rfl rfl inferInstance rfl rfl rfl rfl rfl inferInstance rfl ?_))
    refine Pw.list (Pw.indexS rfl rfl rfl rfl (Int.natCast_nonneg i) c3 rfl rfl ?_)
    refine Pw.list (Pw.fieldS rfl rfl rfl rfl rfl rfl rfl ?_)
    refine Pw.list (Pw.loadF s rfl inferInstance rfl (by rw [Int.toNat_natCast]; exact hsi) rfl rfl rfl rfl ?_)
    repeat (first | (with_reducible first | refine Pw.seq ?_ | refine Pw.region ?_ | refine Pw.nil ?_ | refine Pw.then_ ?_ | refine Pw.skip ?_ | refine Pw.block ?_ | refine Pw.exit ?_ | refine Pw.inX ?_ | refine Pw.inN ?_ | refine Pw.inR ?_ | refine Pw.thenX ?_ | refine Pw.thenR ?_ | refine Pw.ret ?_) | refine Pw.list (Pw.pure rfl rfl rfl ?_) | refine Pw.inY rfl ?_ | refine Pw.list (Pw.off rfl rfl ?_) | refine Pw.condT rfl ?_ | refine Pw.condF rfl ?_ | refine Pw.list (Pw.box rfl rfl rfl rfl (fun _ => ?_)) | refine Pw.list (Pw.alloc rfl rfl rfl rfl rfl (fun _ => ?_)) | refine Pw.list (Pw.build rfl rfl rfl rfl ?_) | refine Pw.list (Pw.ld rfl inferInstance rfl rfl rfl ?_) | refine Pw.list (Pw.sto rfl rfl inferInstance rfl rfl rfl rfl rfl inferInstance rfl ?_))
    refine Pw.condD rfl (fun c6 => ?_) (fun c6 => ?_)
    · repeat (first | (with_reducible first | refine Pw.seq ?_ | refine Pw.region ?_ | refine Pw.nil ?_ | refine Pw.then_ ?_ | refine Pw.skip ?_ | refine Pw.block ?_ | refine Pw.exit ?_ | refine Pw.inX ?_ | refine Pw.inN ?_ | refine Pw.inR ?_ | refine Pw.thenX ?_ | refine Pw.thenR ?_ | refine Pw.ret ?_) | refine Pw.list (Pw.pure rfl rfl rfl ?_) | refine Pw.inY rfl ?_ | refine Pw.list (Pw.off rfl rfl ?_) | refine Pw.condT rfl ?_ | refine Pw.condF rfl ?_ | refine Pw.list (Pw.box rfl rfl rfl rfl (fun _ => ?_)) | refine Pw.list (Pw.alloc rfl rfl rfl rfl rfl (fun _ => ?_)) | refine Pw.list (Pw.build rfl rfl rfl rfl ?_) | refine Pw.list (Pw.ld rfl inferInstance rfl rfl rfl ?_) | refine Pw.list (Pw.sto rfl rfl inferInstance rfl rfl rfl rfl rfl inferInstance rfl ?_))
      exact Pw.ret_ (x := false) (.tmp rfl .nil) rfl (fun e => by cases e) (fun w h => by trivial)
    repeat (first | (with_reducible first | refine Pw.seq ?_ | refine Pw.region ?_ | refine Pw.nil ?_ | refine Pw.then_ ?_ | refine Pw.skip ?_ | refine Pw.block ?_ | refine Pw.exit ?_ | refine Pw.inX ?_ | refine Pw.inN ?_ | refine Pw.inR ?_ | refine Pw.thenX ?_ | refine Pw.thenR ?_ | refine Pw.ret ?_) | refine Pw.list (Pw.pure rfl rfl rfl ?_) | refine Pw.inY rfl ?_ | refine Pw.list (Pw.off rfl rfl ?_) | refine Pw.condT rfl ?_ | refine Pw.condF rfl ?_ | refine Pw.list (Pw.box rfl rfl rfl rfl (fun _ => ?_)) | refine Pw.list (Pw.alloc rfl rfl rfl rfl rfl (fun _ => ?_)) | refine Pw.list (Pw.build rfl rfl rfl rfl ?_) | refine Pw.list (Pw.ld rfl inferInstance rfl rfl rfl ?_) | refine Pw.list (Pw.sto rfl rfl inferInstance rfl rfl rfl rfl rfl inferInstance rfl ?_))
    refine Pw.re (d := 6) (v' := .int .i64 ((i + 1 : Nat) : Int)) rfl (congrArg (Value.int .i64) (i64s (n := 100000) (by omega) (by omega))) ?_
    exact Pw.again (i + 1) ⟨by omega, by omega, fun t ht => by
      rw [take_snoc hsi] at ht
      rcases List.mem_append.1 ht with ht | ht
      · exact hs t ht
      · rw [List.mem_singleton.1 ht]; omega⟩ (by show l.length - (i + 1) < l.length - i; omega) ⟨rfl, rfl, rfl, trivial⟩ rfl (fun w h => allCons (hv w h) allNil)
  · repeat (first | (with_reducible first | refine Pw.seq ?_ | refine Pw.region ?_ | refine Pw.nil ?_ | refine Pw.then_ ?_ | refine Pw.skip ?_ | refine Pw.block ?_ | refine Pw.exit ?_ | refine Pw.inX ?_ | refine Pw.inN ?_ | refine Pw.inR ?_ | refine Pw.thenX ?_ | refine Pw.thenR ?_ | refine Pw.ret ?_) | refine Pw.list (Pw.pure rfl rfl rfl ?_) | refine Pw.inY rfl ?_ | refine Pw.list (Pw.off rfl rfl ?_) | refine Pw.condT rfl ?_ | refine Pw.condF rfl ?_ | refine Pw.list (Pw.box rfl rfl rfl rfl (fun _ => ?_)) | refine Pw.list (Pw.alloc rfl rfl rfl rfl rfl (fun _ => ?_)) | refine Pw.list (Pw.build rfl rfl rfl rfl ?_) | refine Pw.list (Pw.ld rfl inferInstance rfl rfl rfl ?_) | refine Pw.list (Pw.sto rfl rfl inferInstance rfl rfl rfl rfl rfl inferInstance rfl ?_))
    exact Pw.ret_ (x := true) (.tmp rfl .nil) rfl (fun _ => by
      rw [List.take_of_length_le (by omega)] at hs; exact ⟨by omega, hs⟩) (fun w h => by trivial)
theorem btheirs_ct (l : List Rt) (x : Option Addr × Nat) (hl : l.length ≤ 1000) : Ct Try.prog 8 #[rsV l x] (RS l x) (fun z : Option Addr × Nat => rsV l z) Tt (fun z => RS l z) := by
  obtain ⟨A, c⟩ := x
  have htop : l.length ≤ 9223372036854775807 := by omega
  refine Ct.start Try.func8 rfl rfl (slots_of rfl slots1) (fun D w0 => ?_)
  repeat (first | (with_reducible first | refine Pw.seq ?_ | refine Pw.region ?_ | refine Pw.nil ?_ | refine Pw.then_ ?_ | refine Pw.skip ?_ | refine Pw.block ?_ | refine Pw.exit ?_ | refine Pw.inX ?_ | refine Pw.inN ?_ | refine Pw.inR ?_ | refine Pw.thenX ?_ | refine Pw.thenR ?_ | refine Pw.ret ?_) | refine Pw.list (Pw.pure rfl rfl rfl ?_) | refine Pw.inY rfl ?_ | refine Pw.list (Pw.off rfl rfl ?_) | refine Pw.condT rfl ?_ | refine Pw.condF rfl ?_ | refine Pw.list (Pw.box rfl rfl rfl rfl (fun _ => ?_)) | refine Pw.list (Pw.alloc rfl rfl rfl rfl rfl (fun _ => ?_)) | refine Pw.list (Pw.build rfl rfl rfl rfl ?_) | refine Pw.list (Pw.ld rfl inferInstance rfl rfl rfl ?_) | refine Pw.list (Pw.sto rfl rfl inferInstance rfl rfl rfl rfl rfl inferInstance rfl ?_))
  refine Pw.loopJ (σ := Nat × Gr) (fun t => t.1 ≤ l.length ∧ gOk t.2 (cellsR (l.take t.1)) t.1 2) (fun t => ⟨[(0, .slice A l.length c), (3, gv t.2 t.1), (6, .int .i64 l.length), (7, .int .i64 t.1)], gL1 t.2 (cellsR (l.take t.1)) 34, [RS l (A, c)]⟩) (fun t => l.length - t.1) (0, none) ⟨Nat.zero_le _, rfl, rfl⟩ (Pw.enter ⟨rfl, rfl, rfl, rfl, trivial⟩ (fun _ h => h)) ?_
  rintro ⟨i, q⟩ ⟨hi, hq⟩
  dsimp only at hi hq ⊢
  repeat (first | (with_reducible first | refine Pw.seq ?_ | refine Pw.region ?_ | refine Pw.nil ?_ | refine Pw.then_ ?_ | refine Pw.skip ?_ | refine Pw.block ?_ | refine Pw.exit ?_ | refine Pw.inX ?_ | refine Pw.inN ?_ | refine Pw.inR ?_ | refine Pw.thenX ?_ | refine Pw.thenR ?_ | refine Pw.ret ?_) | refine Pw.list (Pw.pure rfl rfl rfl ?_) | refine Pw.inY rfl ?_ | refine Pw.list (Pw.off rfl rfl ?_) | refine Pw.condT rfl ?_ | refine Pw.condF rfl ?_ | refine Pw.list (Pw.box rfl rfl rfl rfl (fun _ => ?_)) | refine Pw.list (Pw.alloc rfl rfl rfl rfl rfl (fun _ => ?_)) | refine Pw.list (Pw.build rfl rfl rfl rfl ?_) | refine Pw.list (Pw.ld rfl inferInstance rfl rfl rfl ?_) | refine Pw.list (Pw.sto rfl rfl inferInstance rfl rfl rfl rfl rfl inferInstance rfl ?_))
  refine Pw.condD rfl (fun c3 => ?_) (fun c3 => ?_)
  · obtain ⟨s, hs, hm⟩ := get_at (show i < l.length by omega)
    repeat (first | (with_reducible first | refine Pw.seq ?_ | refine Pw.region ?_ | refine Pw.nil ?_ | refine Pw.then_ ?_ | refine Pw.skip ?_ | refine Pw.block ?_ | refine Pw.exit ?_ | refine Pw.inX ?_ | refine Pw.inN ?_ | refine Pw.inR ?_ | refine Pw.thenX ?_ | refine Pw.thenR ?_ | refine Pw.ret ?_) | refine Pw.list (Pw.pure rfl rfl rfl ?_) | refine Pw.inY rfl ?_ | refine Pw.list (Pw.off rfl rfl ?_) | refine Pw.condT rfl ?_ | refine Pw.condF rfl ?_ | refine Pw.list (Pw.box rfl rfl rfl rfl (fun _ => ?_)) | refine Pw.list (Pw.alloc rfl rfl rfl rfl rfl (fun _ => ?_)) | refine Pw.list (Pw.build rfl rfl rfl rfl ?_) | refine Pw.list (Pw.ld rfl inferInstance rfl rfl rfl ?_) | refine Pw.list (Pw.sto rfl rfl inferInstance rfl rfl rfl rfl rfl inferInstance rfl ?_))
    refine Pw.list (Pw.index rfl rfl rfl rfl (Int.natCast_nonneg i) c3 (fun w h => (hv w h : RS l (A, c) w).has (Int.natCast_nonneg i) c3) rfl rfl ?_)
    rintro ad rfl
    refine Pw.list (Pw.loadR s rfl inferInstance rfl (by rw [Int.toNat_natCast]; exact hs) (by kernel_rfl) rfl rfl ?_)
    refine Pw.re (d := 14) (v' := rt s.a s.b s.z) rfl rfl ?_
    repeat (first | (with_reducible first | refine Pw.seq ?_ | refine Pw.region ?_ | refine Pw.nil ?_ | refine Pw.then_ ?_ | refine Pw.skip ?_ | refine Pw.block ?_ | refine Pw.exit ?_ | refine Pw.inX ?_ | refine Pw.inN ?_ | refine Pw.inR ?_ | refine Pw.thenX ?_ | refine Pw.thenR ?_ | refine Pw.ret ?_) | refine Pw.list (Pw.pure rfl rfl rfl ?_) | refine Pw.inY rfl ?_ | refine Pw.list (Pw.off rfl rfl ?_) | refine Pw.condT rfl ?_ | refine Pw.condF rfl ?_ | refine Pw.list (Pw.box rfl rfl rfl rfl (fun _ => ?_)) | refine Pw.list (Pw.alloc rfl rfl rfl rfl rfl (fun _ => ?_)) | refine Pw.list (Pw.build rfl rfl rfl rfl ?_) | refine Pw.list (Pw.ld rfl inferInstance rfl rfl rfl ?_) | refine Pw.list (Pw.sto rfl rfl inferInstance rfl rfl rfl rfl rfl inferInstance rfl ?_))
    refine Pw.list (Pw.call (Theirs_ct s.a s.b s.z) rfl rfl rfl (by kernel_rfl) rfl rfl (fun w h => trivial) ?_)
    intro _ _
    refine Pw.list (Pw.lit12 rfl rfl rfl rfl rfl rfl rfl rfl rfl (fun g1 => freeHead ?_))
    refine Pw.list (Pw.push (s := q) (m := i) (cells := cellsR (l.take i)) (news := encR s) (L0 := []) rfl rfl rfl rfl rfl rfl rfl hq rfl (encR_one s) (fun w hs j u hu => by
      have h1 : w.heap[g1]? = some (row (encR s) 34) := fact0 hs.all
      rw [add_none, cell_of_blk h1]
      simpa using hu) (by omega) (by simp only [maxLen]; omega) (by show (i + 1) * 48 ≤ _; omega) rfl rfl (fun q' hq' => ?_))
    rw [← cellsR_snoc, ← take_snoc hs] at hq' ⊢
    repeat (first | (with_reducible first | refine Pw.seq ?_ | refine Pw.region ?_ | refine Pw.nil ?_ | refine Pw.then_ ?_ | refine Pw.skip ?_ | refine Pw.block ?_ | refine Pw.exit ?_ | refine Pw.inX ?_ | refine Pw.inN ?_ | refine Pw.inR ?_ | refine Pw.thenX ?_ | refine Pw.thenR ?_ | refine Pw.ret ?_) | refine Pw.list (Pw.pure rfl rfl rfl ?_) | refine Pw.inY rfl ?_ | refine Pw.list (Pw.off rfl rfl ?_) | refine Pw.condT rfl ?_ | refine Pw.condF rfl ?_ | refine Pw.list (Pw.box rfl rfl rfl rfl (fun _ => ?_)) | refine Pw.list (Pw.alloc rfl rfl rfl rfl rfl (fun _ => ?_)) | refine Pw.list (Pw.build rfl rfl rfl rfl ?_) | refine Pw.list (Pw.ld rfl inferInstance rfl rfl rfl ?_) | refine Pw.list (Pw.sto rfl rfl inferInstance rfl rfl rfl rfl rfl inferInstance rfl ?_))
    refine Pw.re (d := 7) (v' := .int .i64 ((i + 1 : Nat) : Int)) rfl (congrArg (Value.int .i64) (i64s (n := 100000) (by omega) (by omega))) ?_
    exact Pw.again (i + 1, q') ⟨by omega, hq'⟩ (by show l.length - (i + 1) < l.length - i; omega) ⟨rfl, rfl, rfl, rfl, trivial⟩ rfl (fun w h => allCons (hv w h) allNil)
  · repeat (first | (with_reducible first | refine Pw.seq ?_ | refine Pw.region ?_ | refine Pw.nil ?_ | refine Pw.then_ ?_ | refine Pw.skip ?_ | refine Pw.block ?_ | refine Pw.exit ?_ | refine Pw.inX ?_ | refine Pw.inN ?_ | refine Pw.inR ?_ | refine Pw.thenX ?_ | refine Pw.thenR ?_ | refine Pw.ret ?_) | refine Pw.list (Pw.pure rfl rfl rfl ?_) | refine Pw.inY rfl ?_ | refine Pw.list (Pw.off rfl rfl ?_) | refine Pw.condT rfl ?_ | refine Pw.condF rfl ?_ | refine Pw.list (Pw.box rfl rfl rfl rfl (fun _ => ?_)) | refine Pw.list (Pw.alloc rfl rfl rfl rfl rfl (fun _ => ?_)) | refine Pw.list (Pw.build rfl rfl rfl rfl ?_) | refine Pw.list (Pw.ld rfl inferInstance rfl rfl rfl ?_) | refine Pw.list (Pw.sto rfl rfl inferInstance rfl rfl rfl rfl rfl inferInstance rfl ?_))
    obtain rfl : i = l.length := by omega
    rw [List.take_length] at hq ⊢
    refine Pw.freeG hq (fun A' c' e hc => ?_)
    rw [e]
    exact Pw.ret_ (x := (A', c')) (.tmp rfl .nil) rfl trivial (fun w h => rows_of_cells (fun _ _ => rfl) (fun y hy => by
      obtain ⟨j, hj⟩ := List.getElem?_of_mem hy
      have h1 : RS l (A, c) w := (hv w h)
      obtain ⟨ad, cs, e1, _, ⟨_, h2⟩, _⟩ := h1.2.2 j y hj
      exact h2) hc (by simp only [maxLen]; omega) (by omega) (fact0 h))
theorem fracN_ct {n : Int} (h : 0 ≤ n) (h' : n ≤ 18446744073709551615) : Ct Try.prog 14 #[.int .u64 n, .int .u64 1] (fun _ => True) (fun z : Z2 => qt (n : Rat) z) Tt (fun z => QW (n : Rat) z) := by
  have l1 := ofN_len n; have l2 := ofN_len 1
  refine Ct.start Try.func14 rfl rfl (slots_of rfl slots2) (fun D w0 => ?_)
  repeat (first | (with_reducible first | refine Pw.seq ?_ | refine Pw.region ?_ | refine Pw.nil ?_ | refine Pw.then_ ?_ | refine Pw.skip ?_ | refine Pw.block ?_ | refine Pw.exit ?_ | refine Pw.inX ?_ | refine Pw.inN ?_ | refine Pw.inR ?_ | refine Pw.thenX ?_ | refine Pw.thenR ?_ | refine Pw.ret ?_) | refine Pw.list (Pw.pure rfl rfl rfl ?_) | refine Pw.inY rfl ?_ | refine Pw.list (Pw.off rfl rfl ?_) | refine Pw.condT rfl ?_ | refine Pw.condF rfl ?_ | refine Pw.list (Pw.box rfl rfl rfl rfl (fun _ => ?_)) | refine Pw.list (Pw.alloc rfl rfl rfl rfl rfl (fun _ => ?_)) | refine Pw.list (Pw.build rfl rfl rfl rfl ?_) | refine Pw.list (Pw.ld rfl inferInstance rfl rfl rfl ?_) | refine Pw.list (Pw.sto rfl rfl inferInstance rfl rfl rfl rfl rfl inferInstance rfl ?_))
  refine Pw.list (Pw.call (rOf_ct n) rfl rfl rfl (by kernel_rfl) rfl rfl (fun w h => trivial) ?_)
  intro z1 _
  repeat (first | (with_reducible first | refine Pw.seq ?_ | refine Pw.region ?_ | refine Pw.nil ?_ | refine Pw.then_ ?_ | refine Pw.skip ?_ | refine Pw.block ?_ | refine Pw.exit ?_ | refine Pw.inX ?_ | refine Pw.inN ?_ | refine Pw.inR ?_ | refine Pw.thenX ?_ | refine Pw.thenR ?_ | refine Pw.ret ?_) | refine Pw.list (Pw.pure rfl rfl rfl ?_) | refine Pw.inY rfl ?_ | refine Pw.list (Pw.off rfl rfl ?_) | refine Pw.condT rfl ?_ | refine Pw.condF rfl ?_ | refine Pw.list (Pw.box rfl rfl rfl rfl (fun _ => ?_)) | refine Pw.list (Pw.alloc rfl rfl rfl rfl rfl (fun _ => ?_)) | refine Pw.list (Pw.build rfl rfl rfl rfl ?_) | refine Pw.list (Pw.ld rfl inferInstance rfl rfl rfl ?_) | refine Pw.list (Pw.sto rfl rfl inferInstance rfl rfl rfl rfl rfl inferInstance rfl ?_))
  refine Pw.list (Pw.call (rOf_ct 1) rfl rfl rfl (by kernel_rfl) rfl rfl (fun w h => trivial) ?_)
  intro z2 _
  repeat (first | (with_reducible first | refine Pw.seq ?_ | refine Pw.region ?_ | refine Pw.nil ?_ | refine Pw.then_ ?_ | refine Pw.skip ?_ | refine Pw.block ?_ | refine Pw.exit ?_ | refine Pw.inX ?_ | refine Pw.inN ?_ | refine Pw.inR ?_ | refine Pw.thenX ?_ | refine Pw.thenR ?_ | refine Pw.ret ?_) | refine Pw.list (Pw.pure rfl rfl rfl ?_) | refine Pw.inY rfl ?_ | refine Pw.list (Pw.off rfl rfl ?_) | refine Pw.condT rfl ?_ | refine Pw.condF rfl ?_ | refine Pw.list (Pw.box rfl rfl rfl rfl (fun _ => ?_)) | refine Pw.list (Pw.alloc rfl rfl rfl rfl rfl (fun _ => ?_)) | refine Pw.list (Pw.build rfl rfl rfl rfl ?_) | refine Pw.list (Pw.ld rfl inferInstance rfl rfl rfl ?_) | refine Pw.list (Pw.sto rfl rfl inferInstance rfl rfl rfl rfl rfl inferInstance rfl ?_))
  have hc := lowest_ct (ofN n) (ofN 1) z1 z2 (ofN_fm n) (ofN_fm 1) ofN1_len (by omega) (by omega)
  have e : lowS (ofN n) (ofN 1) = (qn (n : Rat), qd (n : Rat)) := by
    rw [ofN_natL h h', ofN_natL (by omega) (by omega), q_low h (by omega), show Rat.divInt n 1 = (n : Rat) by rw [Rat.divInt_eq_div]; grind]
  rw [e] at hc
  refine Pw.list (Pw.call hc rfl rfl rfl (by kernel_rfl) rfl rfl (fun w h => ⟨fact1 h, fact0 h⟩) ?_)
  intro z _
  repeat (first | (with_reducible first | refine Pw.seq ?_ | refine Pw.region ?_ | refine Pw.nil ?_ | refine Pw.then_ ?_ | refine Pw.skip ?_ | refine Pw.block ?_ | refine Pw.exit ?_ | refine Pw.inX ?_ | refine Pw.inN ?_ | refine Pw.inR ?_ | refine Pw.thenX ?_ | refine Pw.thenR ?_ | refine Pw.ret ?_) | refine Pw.list (Pw.pure rfl rfl rfl ?_) | refine Pw.inY rfl ?_ | refine Pw.list (Pw.off rfl rfl ?_) | refine Pw.condT rfl ?_ | refine Pw.condF rfl ?_ | refine Pw.list (Pw.box rfl rfl rfl rfl (fun _ => ?_)) | refine Pw.list (Pw.alloc rfl rfl rfl rfl rfl (fun _ => ?_)) | refine Pw.list (Pw.build rfl rfl rfl rfl ?_) | refine Pw.list (Pw.ld rfl inferInstance rfl rfl rfl ?_) | refine Pw.list (Pw.sto rfl rfl inferInstance rfl rfl rfl rfl rfl inferInstance rfl ?_))
  exact Pw.ret_ (x := z) (.cell rfl (fun w hs => hs.own _ (.head _)) rfl .nil) rfl trivial (fun w h => fact0 h)
theorem qSame_ct {x : Rat} {m : Nat} (hx : Sz m x) (hm : m ≤ 400) (y z : Z2) : Ct Try.prog 13 #[qt x y, qt x z] (fun W => QW x y W ∧ QW x z W) (fun _ : Unit => .bool true) Tt (fun _ _ => True) := by
  have h1 := hx.ln; have h2 := hx.ld
  exact rat_Same_ct (qn x) (qd x) y z (natL_fm _) (natL_fm _) (by omega) (by omega)
theorem tq_few {l : List Rt} (hw : ∀ s ∈ l, RtW s) (hs : ∀ s ∈ l, s.a.length ≤ 6 ∧ s.b.length ≤ 4) (st : Int) (hst : 0 ≤ st ∧ st ≤ 18446744073709551615) : ∃ D : Nat, badT l = false → TQ D 34 6 (l.map rq) st := by
  by_cases hb : badT l = false
  · obtain ⟨h1, h2, h3⟩ := badT_no hb
    have hfm : ∀ s ∈ l, formedR s.a s.b = true := fun s hs => by have := List.any_eq_false.1 h3 s hs; simpa using this
    obtain ⟨D, d1, d2, d3⟩ := one_den (n := 4) (l.map rq) (fun x hx => by
      obtain ⟨s, hs', rfl⟩ := List.mem_map.1 hx
      obtain ⟨_, _, _, _, h5⟩ := formed_q (hw s hs').a (hw s hs').b (hfm s hs')
      have l2 := val_lt_pw (hw s hs').b
      have := pw_le (hs s hs').2
      show ((rv s.a s.b).den : Int) ≤ _; omega)
    refine ⟨D, fun _ => ⟨d1, ?_, fun x hx => ?_, hst, by omega, by rw [List.length_map]; exact ⟨h1, h2⟩, by omega⟩⟩
    · rw [List.length_map] at d2
      have h4 := pw_le (show 4 * l.length ≤ 32 by omega)
      have e : pw 34 = pw 32 * 18446744073709551616 := pw_add 32 2
      have := pw_pos 32
      rw [Int.natCast_mul]; omega
    · obtain ⟨s, hs', rfl⟩ := List.mem_map.1 hx
      have hz := formed_sz (hw s hs').a (hw s hs').b (hfm s hs') (n := 6) (hs s hs').1 (by have := (hs s hs').2; omega)
      exact ⟨d3 _ hx, hz.p, den_lt hz⟩
  · exact ⟨0, fun h => absurd h hb⟩
theorem rv_q' {x : Rat} (h : 0 ≤ x) : rv (qn x) (qd x) = x := by
  unfold rv; rw [val_qn h, val_qd, Rat.num_divInt_den]
theorem bawake_ct : Ct Try.prog 5 #[] (fun _ => True) (fun _ : Unit => .bool true) Tt (fun _ _ => True) := by
  refine Ct.start Try.func5 rfl rfl (slots_of rfl slots0) (fun D w0 => ?_)
  repeat (first | (with_reducible first | refine Pw.seq ?_ | refine Pw.region ?_ | refine Pw.nil ?_ | refine Pw.then_ ?_ | refine Pw.skip ?_ | refine Pw.block ?_ | refine Pw.exit ?_ | refine Pw.inX ?_ | refine Pw.inN ?_ | refine Pw.inR ?_ | refine Pw.thenX ?_ | refine Pw.thenR ?_ | refine Pw.ret ?_) | refine Pw.list (Pw.pure rfl rfl rfl ?_) | refine Pw.inY rfl ?_ | refine Pw.list (Pw.off rfl rfl ?_) | refine Pw.condT rfl ?_ | refine Pw.condF rfl ?_ | refine Pw.list (Pw.box rfl rfl rfl rfl (fun _ => ?_)) | refine Pw.list (Pw.alloc rfl rfl rfl rfl rfl (fun _ => ?_)) | refine Pw.list (Pw.build rfl rfl rfl rfl ?_) | refine Pw.list (Pw.ld rfl inferInstance rfl rfl rfl ?_) | refine Pw.list (Pw.sto rfl rfl inferInstance rfl rfl rfl rfl rfl inferInstance rfl ?_))
  refine Pw.list (Pw.call (qOf_ct (n := 1) (by omega) (by omega)) rfl rfl rfl (by kernel_rfl) rfl rfl (fun w h => trivial) ?_)
  intro z1 _
  repeat (first | (with_reducible first | refine Pw.seq ?_ | refine Pw.region ?_ | refine Pw.nil ?_ | refine Pw.then_ ?_ | refine Pw.skip ?_ | refine Pw.block ?_ | refine Pw.exit ?_ | refine Pw.inX ?_ | refine Pw.inN ?_ | refine Pw.inR ?_ | refine Pw.thenX ?_ | refine Pw.thenR ?_ | refine Pw.ret ?_) | refine Pw.list (Pw.pure rfl rfl rfl ?_) | refine Pw.inY rfl ?_ | refine Pw.list (Pw.off rfl rfl ?_) | refine Pw.condT rfl ?_ | refine Pw.condF rfl ?_ | refine Pw.list (Pw.box rfl rfl rfl rfl (fun _ => ?_)) | refine Pw.list (Pw.alloc rfl rfl rfl rfl rfl (fun _ => ?_)) | refine Pw.list (Pw.build rfl rfl rfl rfl ?_) | refine Pw.list (Pw.ld rfl inferInstance rfl rfl rfl ?_) | refine Pw.list (Pw.sto rfl rfl inferInstance rfl rfl rfl rfl rfl inferInstance rfl ?_))
  refine freeHead ?_
  repeat (first | (with_reducible first | refine Pw.seq ?_ | refine Pw.region ?_ | refine Pw.nil ?_ | refine Pw.then_ ?_ | refine Pw.skip ?_ | refine Pw.block ?_ | refine Pw.exit ?_ | refine Pw.inX ?_ | refine Pw.inN ?_ | refine Pw.inR ?_ | refine Pw.thenX ?_ | refine Pw.thenR ?_ | refine Pw.ret ?_) | refine Pw.list (Pw.pure rfl rfl rfl ?_) | refine Pw.inY rfl ?_ | refine Pw.list (Pw.off rfl rfl ?_) | refine Pw.condT rfl ?_ | refine Pw.condF rfl ?_ | refine Pw.list (Pw.box rfl rfl rfl rfl (fun _ => ?_)) | refine Pw.list (Pw.alloc rfl rfl rfl rfl rfl (fun _ => ?_)) | refine Pw.list (Pw.build rfl rfl rfl rfl ?_) | refine Pw.list (Pw.ld rfl inferInstance rfl rfl rfl ?_) | refine Pw.list (Pw.sto rfl rfl inferInstance rfl rfl rfl rfl rfl inferInstance rfl ?_))
  refine Pw.list (Pw.lit12 rfl rfl rfl rfl rfl rfl rfl rfl rfl (fun g2 => freeHead ?_))
  have hz : Sz 1 ((1 : Int) : Rat) := sz_int (by omega) (by show (1 : Int) < 4294967296; omega) (by omega)
  have hf := hz.formed (by omega)
  have hrq : rq ⟨qn ((1 : Int) : Rat), qd ((1 : Int) : Rat), z1⟩ = ((1 : Int) : Rat) := rv_q' hz.p
  have hw : ∀ s ∈ [(⟨qn ((1 : Int) : Rat), qd ((1 : Int) : Rat), z1⟩ : Rt)], RtW s := fun s hs => by rw [List.mem_singleton.1 hs]; exact ⟨qn_lm _, qd_lm _⟩
  have hln := hz.ln; have hld := hz.ld
  obtain ⟨D', hT⟩ := tq_few hw (fun s hs => by rw [List.mem_singleton.1 hs]; exact ⟨by show (qn _).length ≤ 6; omega, by show (qd _).length ≤ 4; omega⟩) 4 (by omega)
  have hbad : badT [(⟨qn ((1 : Int) : Rat), qd ((1 : Int) : Rat), z1⟩ : Rt)] = false := by unfold badT; rw [List.any_cons, List.any_nil]; dsimp only; rw [hf]; rfl
  refine Pw.list (Pw.call (pTurn_ct 4 [⟨qn ((1 : Int) : Rat), qd ((1 : Int) : Rat), z1⟩] (some ⟨g2, 0, none⟩, 1) hw (fun s hs => by rw [List.mem_singleton.1 hs]; exact ⟨by show (qn _).length < _; omega, by show (qd _).length < _; omega⟩) (by simp) hT) rfl rfl rfl (by kernel_rfl) rfl rfl (fun w h1 => rows_of_row (ex := []) (fact0 h1) (fun _ _ => rfl) (fun y hy => by
    rw [List.mem_singleton.1 hy]; exact (hv w h1 : QW ((1 : Int) : Rat) z1 w)) (by simp) (by simp [maxLen]) (by omega)) ?_)
  rintro ⟨P1, ⟨A1, c1⟩, e1⟩ hP
  unfold TurnP at hP
  rw [hbad, if_neg (by simp)] at hP
  obtain ⟨rfl, v, hlev, hvb, hP1⟩ := hP
  dsimp only at hP1 ⊢
  simp only [List.map_cons, List.map_nil, hrq] at hlev hP1
  have hfill : gn v ((1 : Int) : Rat) = ((4 : Int) : Rat) := by
    have := hlev.fill
    unfold gain at this
    simp only [List.map_cons, List.map_nil, sumR] at this
    grind
  obtain ⟨⟨a, b, y1⟩, rfl⟩ : ∃ p, P1 = [p] := by
    have := congrArg List.length hP1
    rw [List.length_map] at this
    match P1, this with
    | [p], _ => exact ⟨p, rfl⟩
  unfold outT at hP1
  simp only [List.map_cons, List.map_nil, hfill] at hP1
  obtain ⟨rfl, rfl⟩ : a = qn ((4 : Int) : Rat) ∧ b = qd ((4 : Int) : Rat) := by simpa using hP1
  repeat (first | (with_reducible first | refine Pw.seq ?_ | refine Pw.region ?_ | refine Pw.nil ?_ | refine Pw.then_ ?_ | refine Pw.skip ?_ | refine Pw.block ?_ | refine Pw.exit ?_ | refine Pw.inX ?_ | refine Pw.inN ?_ | refine Pw.inR ?_ | refine Pw.thenX ?_ | refine Pw.thenR ?_ | refine Pw.ret ?_) | refine Pw.list (Pw.pure rfl rfl rfl ?_) | refine Pw.inY rfl ?_ | refine Pw.list (Pw.off rfl rfl ?_) | refine Pw.condT rfl ?_ | refine Pw.condF rfl ?_ | refine Pw.list (Pw.box rfl rfl rfl rfl (fun _ => ?_)) | refine Pw.list (Pw.alloc rfl rfl rfl rfl rfl (fun _ => ?_)) | refine Pw.list (Pw.build rfl rfl rfl rfl ?_) | refine Pw.list (Pw.ld rfl inferInstance rfl rfl rfl ?_) | refine Pw.list (Pw.sto rfl rfl inferInstance rfl rfl rfl rfl rfl inferInstance rfl ?_))
  refine Pw.use (p := A1.isSome = true) (fun w h => (fact0 h : RS [⟨qn ((4 : Int) : Rat), qd ((4 : Int) : Rat), y1⟩] (A1, c1) w).has (i := 0) (Int.le_refl 0) (by show (0 : Int) < 1; omega)) (fun hA => ?_)
  obtain ⟨ad, rfl⟩ := Option.isSome_iff_exists.1 hA
  repeat (first | (with_reducible first | refine Pw.seq ?_ | refine Pw.region ?_ | refine Pw.nil ?_ | refine Pw.then_ ?_ | refine Pw.skip ?_ | refine Pw.block ?_ | refine Pw.exit ?_ | refine Pw.inX ?_ | refine Pw.inN ?_ | refine Pw.inR ?_ | refine Pw.thenX ?_ | refine Pw.thenR ?_ | refine Pw.ret ?_) | refine Pw.list (Pw.pure rfl rfl rfl ?_) | refine Pw.inY rfl ?_ | refine Pw.list (Pw.off rfl rfl ?_) | refine Pw.condT rfl ?_ | refine Pw.condF rfl ?_ | refine Pw.list (Pw.box rfl rfl rfl rfl (fun _ => ?_)) | refine Pw.list (Pw.alloc rfl rfl rfl rfl rfl (fun _ => ?_)) | refine Pw.list (Pw.build rfl rfl rfl rfl ?_) | refine Pw.list (Pw.ld rfl inferInstance rfl rfl rfl ?_) | refine Pw.list (Pw.sto rfl rfl inferInstance rfl rfl rfl rfl rfl inferInstance rfl ?_))
  have h4 : Sz 1 ((4 : Int) : Rat) := sz_int (by omega) (by show (4 : Int) < 4294967296; omega) (by omega)
  have hi0 : (0 : Int) ≤ 0 := Int.le_refl 0
  have hi1 : (0 : Int) < 1 := by omega
  refine Pw.drawnG mixed rfl rfl ?_
  refine Pw.takeP 0 (nb 15 1) rfl rfl rfl rfl (by kernel_rfl) np sf ?_
  refine Pw.takeP 1 (nb 15 3) rfl rfl rfl rfl (by kernel_rfl) np sf ?_
  refine Pw.takeP 2 (nb 15 7) rfl rfl rfl rfl (by kernel_rfl) np sf ?_
  refine Pw.takeP 3 (nb 15 15) rfl rfl rfl rfl (by kernel_rfl) np sf ?_
  refine Pw.takeP 4 (nb 15 31) rfl rfl rfl rfl (by kernel_rfl) np sf ?_
  refine Pw.takeP 5 (nb 15 63) rfl rfl rfl rfl (by kernel_rfl) np sf ?_
  refine Pw.takeP 6 (nb 15 127) rfl rfl rfl rfl (by kernel_rfl) np sf ?_
  refine Pw.takeP 7 (nb 15 255) rfl rfl rfl rfl (by kernel_rfl) np sf ?_
  refine Pw.takeP 8 (nb 15 511) rfl rfl rfl rfl (by kernel_rfl) np sf ?_
  refine Pw.takeIx 9 (nb 15 1023) rfl rfl rfl rfl rfl (by first | assumption | omega) (by first | assumption | omega) rfl rfl (by kernel_rfl) np sf ?_
  refine Pw.two 10 11 (nb 15 2047) (nb 15 3071) rfl rfl (by kernel_rfl) ?_ ?_
  · skip
    refine Pw.loadR ⟨qn ((4 : Int) : Rat), qd ((4 : Int) : Rat), y1⟩ rfl inferInstance rfl rfl (by kernel_rfl) rfl rfl ?_
    refine Pw.re (d := 25) (v' := qt ((4 : Int) : Rat) y1) rfl rfl ?_
    refine Pw.held sf ?_
    refine Pw.one 11 (nb 15 4095) rfl (by kernel_rfl) ?_
    refine Pw.call (fracN_ct (n := 4) (by omega) (by omega)) rfl rfl rfl (by kernel_rfl) rfl rfl (fun w h => trivial) ?_
    intro z2 _
    refine Pw.held sf ?_
    refine Pw.one 12 (nb 15 8191) rfl (by kernel_rfl) ?_
    refine Pw.call (qSame_ct h4 (by omega) y1 z2) rfl rfl rfl (by kernel_rfl) rfl rfl (fun w h => ⟨(hv w h : heldR ⟨qn ((4 : Int) : Rat), qd ((4 : Int) : Rat), y1⟩ w), (hv w h)⟩) ?_
    intro _ _
    refine Pw.held sf ?_
    refine Pw.takeP 13 (nb 15 16383) rfl rfl rfl rfl (by kernel_rfl) np sf ?_
    refine Pw.takeP 14 (nb 15 32767) rfl rfl rfl rfl (by kernel_rfl) np sf ?_
    refine Pw.done (by kernel_rfl) ?_
    repeat (first | (with_reducible first | refine Pw.seq ?_ | refine Pw.region ?_ | refine Pw.nil ?_ | refine Pw.then_ ?_ | refine Pw.skip ?_ | refine Pw.block ?_ | refine Pw.exit ?_ | refine Pw.inX ?_ | refine Pw.inN ?_ | refine Pw.inR ?_ | refine Pw.thenX ?_ | refine Pw.thenR ?_ | refine Pw.ret ?_) | refine Pw.list (Pw.pure rfl rfl rfl ?_) | refine Pw.inY rfl ?_ | refine Pw.list (Pw.off rfl rfl ?_) | refine Pw.condT rfl ?_ | refine Pw.condF rfl ?_ | refine Pw.list (Pw.box rfl rfl rfl rfl (fun _ => ?_)) | refine Pw.list (Pw.alloc rfl rfl rfl rfl rfl (fun _ => ?_)) | refine Pw.list (Pw.build rfl rfl rfl rfl ?_) | refine Pw.list (Pw.ld rfl inferInstance rfl rfl rfl ?_) | refine Pw.list (Pw.sto rfl rfl inferInstance rfl rfl rfl rfl rfl inferInstance rfl ?_))
    exact Pw.ret_ (x := ()) (.tmp rfl .nil) rfl trivial (fun w h => by trivial)
  · skip
    refine Pw.call (fracN_ct (n := 4) (by omega) (by omega)) rfl rfl rfl (by kernel_rfl) rfl rfl (fun w h => trivial) ?_
    intro z2 _
    refine Pw.held sf ?_
    refine Pw.one 10 (nb 15 4095) rfl (by kernel_rfl) ?_
    refine Pw.loadR ⟨qn ((4 : Int) : Rat), qd ((4 : Int) : Rat), y1⟩ rfl inferInstance rfl rfl (by kernel_rfl) rfl rfl ?_
    refine Pw.re (d := 25) (v' := qt ((4 : Int) : Rat) y1) rfl rfl ?_
    refine Pw.held sf ?_
    refine Pw.one 12 (nb 15 8191) rfl (by kernel_rfl) ?_
    refine Pw.call (qSame_ct h4 (by omega) y1 z2) rfl rfl rfl (by kernel_rfl) rfl rfl (fun w h => ⟨(hv w h : heldR ⟨qn ((4 : Int) : Rat), qd ((4 : Int) : Rat), y1⟩ w), (hv w h)⟩) ?_
    intro _ _
    refine Pw.held sf ?_
    refine Pw.takeP 13 (nb 15 16383) rfl rfl rfl rfl (by kernel_rfl) np sf ?_
    refine Pw.takeP 14 (nb 15 32767) rfl rfl rfl rfl (by kernel_rfl) np sf ?_
    refine Pw.done (by kernel_rfl) ?_
    repeat (first | (with_reducible first | refine Pw.seq ?_ | refine Pw.region ?_ | refine Pw.nil ?_ | refine Pw.then_ ?_ | refine Pw.skip ?_ | refine Pw.block ?_ | refine Pw.exit ?_ | refine Pw.inX ?_ | refine Pw.inN ?_ | refine Pw.inR ?_ | refine Pw.thenX ?_ | refine Pw.thenR ?_ | refine Pw.ret ?_) | refine Pw.list (Pw.pure rfl rfl rfl ?_) | refine Pw.inY rfl ?_ | refine Pw.list (Pw.off rfl rfl ?_) | refine Pw.condT rfl ?_ | refine Pw.condF rfl ?_ | refine Pw.list (Pw.box rfl rfl rfl rfl (fun _ => ?_)) | refine Pw.list (Pw.alloc rfl rfl rfl rfl rfl (fun _ => ?_)) | refine Pw.list (Pw.build rfl rfl rfl rfl ?_) | refine Pw.list (Pw.ld rfl inferInstance rfl rfl rfl ?_) | refine Pw.list (Pw.sto rfl rfl inferInstance rfl rfl rfl rfl rfl inferInstance rfl ?_))
    exact Pw.ret_ (x := ()) (.tmp rfl .nil) rfl trivial (fun w h => by trivial)
end Go.Proofs.Wk
/- The law BalanceFills walked. -/
namespace Go.Proofs.Wk
open Go.RowKit
set_option maxRecDepth 100000
set_option maxHeartbeats 8000000
attribute [local irreducible] Pw OpG
set_option linter.unusedVariables false
set_option linter.unusedSimpArgs false
theorem outT_at {l P : List Rt} {v : Rat} (h : P.map (fun t => (t.a, t.b)) = outT (l.map rq) v) {i : Nat} {s : Rt} (hs : l[i]? = some s) : ∃ z, P[i]? = some ⟨qn (gn v (rq s)), qd (gn v (rq s)), z⟩ := by
  have h1 : (P.map (fun t => (t.a, t.b)))[i]? = some (qn (gn v (rq s)), qd (gn v (rq s))) := by
    rw [h]; unfold outT; rw [List.getElem?_map, List.getElem?_map, hs]; rfl
  rw [List.getElem?_map] at h1
  obtain ⟨⟨a, b, z⟩, h2, h3⟩ := Option.map_eq_some_iff.1 h1
  cases h3
  exact ⟨z, h2⟩
theorem sumR_take_le {l : List Rat} (h : ∀ x ∈ l, 0 ≤ x) (i : Nat) : 0 ≤ sumR (l.take i) ∧ sumR (l.take i) ≤ sumR l := by
  have h1 := sumR_append (l.take i) (l.drop i)
  rw [List.take_append_drop] at h1
  have h2 := sumR_nn (l := l.drop i) (fun s hs => h s (List.mem_of_mem_drop hs))
  have h3 := sumR_nn (l := l.take i) (fun s hs => h s (List.mem_of_mem_take hs))
  constructor
  · exact h3
  · grind
theorem cmpQ_zero {x y : Rat} : cmpQ x y = 0 ↔ x = y := by
  unfold cmpQ
  by_cases h : x < y
  · rw [if_pos h]; constructor
    · omega
    · intro e; grind
  · rw [if_neg h]; by_cases h2 : x = y
    · rw [if_pos h2]; simp [h2]
    · rw [if_neg h2]; constructor
      · omega
      · intro e; exact absurd e h2
section
variable {D d b : Nat} {ws : List Rat} {st : Int} (hT : TQ D d b ws st) {v : Rat} (hvb : Mult (840 * D) v ∧ 0 ≤ v ∧ v < ((pw (b + 1) : Int) : Rat))
include hT hvb
theorem TQ.gn {s : Rat} (hs : s ∈ ws) : Mult (840 * D) (gn v s) ∧ 0 ≤ gn v s ∧ gn v s < ((pw (b + 1) : Int) : Rat) := by
  obtain ⟨h1, h2, h3⟩ := hT.m s hs
  refine ⟨?_, gn_nn v s, ?_⟩
  · by_cases h : s ≤ v
    · rw [gn_sub h]; exact mult_sub hvb.1 (mult_more h1 840)
    · rw [gn_zero (Rat.not_le.1 h)]; exact mult_int _ 0
  · have := hvb.2.2; have := hvb.2.1; unfold Wk.gn; grind
theorem TQ.gs (hlev : Lev ws st v) (i : Nat) : Mult (840 * D) (sumR ((ws.map (Wk.gn v)).take i)) ∧ 0 ≤ sumR ((ws.map (Wk.gn v)).take i) ∧ sumR ((ws.map (Wk.gn v)).take i) < ((pw (b + 1) : Int) : Rat) := by
  have hall : ∀ x ∈ ws.map (Wk.gn v), Mult (840 * D) x ∧ 0 ≤ x := fun x hx => by
    obtain ⟨s, hs, rfl⟩ := List.mem_map.1 hx
    have := hT.gn hvb hs
    exact ⟨this.1, this.2.1⟩
  obtain ⟨h1, h2⟩ := sumR_take_le (l := ws.map (Wk.gn v)) (fun x hx => (hall x hx).2) i
  refine ⟨mult_sumR (fun x hx => (hall x (List.mem_of_mem_take hx)).1), h1, ?_⟩
  have h3 := hlev.fill
  unfold gain at h3
  have h4 : ((st : Int) : Rat) < ((pw (b + 1) : Int) : Rat) := by
    rw [Rat.intCast_lt_intCast]
    have e2 : pw 2 = 18446744073709551616 := rfl
    have := pw_le (show 2 ≤ b + 1 by have := hT.b2; omega)
    have := hT.st; omega
  grind
end
end Go.Proofs.Wk
/- The law BalanceAgain walked. -/
namespace Go.Proofs.Wk
open Go.RowKit
set_option maxRecDepth 100000
set_option maxHeartbeats 8000000
attribute [local irreducible] Pw OpG
set_option linter.unusedVariables false
set_option linter.unusedSimpArgs false
/-- What one has behind a turn. -/
def up (v s : Rat) : Rat := gn v s + s
theorem up_ge {v s : Rat} : v ≤ up v s ∧ s ≤ up v s := by unfold up gn; grind
theorem gn_again {v u s : Rat} (h : v ≤ u) : gn u s = gn v s + gn u (up v s) := by unfold up gn; grind
theorem lev_again {ws : List Rat} {a b v u : Rat} (h : Lev ws a v) (h' : Lev (ws.map (up v)) b u) : v ≤ u ∧ Lev ws (a + b) u := by
  obtain ⟨⟨s, hs, hsv⟩, e⟩ := h
  obtain ⟨⟨t, ht, htu⟩, e'⟩ := h'
  have hvu : v ≤ u := by
    obtain ⟨y, _, rfl⟩ := List.mem_map.1 ht
    exact Rat.le_trans up_ge.1 htu
  refine ⟨hvu, ⟨s, hs, Rat.le_trans hsv hvu⟩, ?_⟩
  have : ∀ l : List Rat, gain l u = gain l v + gain (l.map (up v)) u := by
    intro l
    unfold gain
    induction l with
    | nil => simp only [List.map_nil, sumR]; grind
    | cons x r ih => simp only [List.map_cons, sumR]; rw [ih, gn_again (s := x) hvu]; grind
  rw [this, e, e']
def upT (ws : List Rat) (v : Rat) : List (List Int × List Int) := ws.map fun s => (qn (up v s), qd (up v s))
structure UpOk (l : List Rt) (v : Rat) (i : Nat) (rs : List Rt) : Prop where
  m : rs.map (fun t => (t.a, t.b)) = upT ((l.take i).map rq) v
theorem BalanceAgain_ct (a b : Int) (l : List Rt) (x : Option Addr × Nat) (hw : ∀ s ∈ l, RtW s) (ha : 0 ≤ a ∧ a ≤ 4294967295) (hb : 0 ≤ b ∧ b ≤ 4294967295) :
    Ct Try.prog 4 #[.int .u32 a, .int .u32 b, rsV l x] (RS l x) (fun _ : Unit => .bool true) Tt (fun _ _ => True) := by
  obtain ⟨A, c⟩ := x
  refine Ct.start Try.func4 rfl rfl (slots_of rfl slots3) (fun D0 w0 => ?_)
  repeat (first | (with_reducible first | refine Pw.seq ?_ | refine Pw.region ?_ | refine Pw.nil ?_ | refine Pw.then_ ?_ | refine Pw.skip ?_ | refine Pw.block ?_ | refine Pw.exit ?_ | refine Pw.inX ?_ | refine Pw.inN ?_ | refine Pw.inR ?_ | refine Pw.thenX ?_ | refine Pw.thenR ?_ | refine Pw.ret ?_) | refine Pw.list (Pw.pure rfl rfl rfl ?_) | refine Pw.inY rfl ?_ | refine Pw.list (Pw.off rfl rfl ?_) | refine Pw.condT rfl ?_ | refine Pw.condF rfl ?_ | refine Pw.list (Pw.box rfl rfl rfl rfl (fun _ => ?_)) | refine Pw.list (Pw.alloc rfl rfl rfl rfl rfl (fun _ => ?_)) | refine Pw.list (Pw.build rfl rfl rfl rfl ?_) | refine Pw.list (Pw.ld rfl inferInstance rfl rfl rfl ?_) | refine Pw.list (Pw.sto rfl rfl inferInstance rfl rfl rfl rfl rfl inferInstance rfl ?_))
  refine Pw.list (Pw.call bawake_ct rfl rfl rfl (by kernel_rfl) rfl rfl (fun w h => trivial) ?_)
  intro _ _
  repeat (first | (with_reducible first | refine Pw.seq ?_ | refine Pw.region ?_ | refine Pw.nil ?_ | refine Pw.then_ ?_ | refine Pw.skip ?_ | refine Pw.block ?_ | refine Pw.exit ?_ | refine Pw.inX ?_ | refine Pw.inN ?_ | refine Pw.inR ?_ | refine Pw.thenX ?_ | refine Pw.thenR ?_ | refine Pw.ret ?_) | refine Pw.list (Pw.pure rfl rfl rfl ?_) | refine Pw.inY rfl ?_ | refine Pw.list (Pw.off rfl rfl ?_) | refine Pw.condT rfl ?_ | refine Pw.condF rfl ?_ | refine Pw.list (Pw.box rfl rfl rfl rfl (fun _ => ?_)) | refine Pw.list (Pw.alloc rfl rfl rfl rfl rfl (fun _ => ?_)) | refine Pw.list (Pw.build rfl rfl rfl rfl ?_) | refine Pw.list (Pw.ld rfl inferInstance rfl rfl rfl ?_) | refine Pw.list (Pw.sto rfl rfl inferInstance rfl rfl rfl rfl rfl inferInstance rfl ?_))
  refine Pw.list (Pw.call (bfew_ct l (A, c)) rfl rfl rfl (by kernel_rfl) rfl rfl (fun w h => (hv w h)) ?_)
  intro r hr
  cases r
  · repeat (first | (with_reducible first | refine Pw.seq ?_ | refine Pw.region ?_ | refine Pw.nil ?_ | refine Pw.then_ ?_ | refine Pw.skip ?_ | refine Pw.block ?_ | refine Pw.exit ?_ | refine Pw.inX ?_ | refine Pw.inN ?_ | refine Pw.inR ?_ | refine Pw.thenX ?_ | refine Pw.thenR ?_ | refine Pw.ret ?_) | refine Pw.list (Pw.pure rfl rfl rfl ?_) | refine Pw.inY rfl ?_ | refine Pw.list (Pw.off rfl rfl ?_) | refine Pw.condT rfl ?_ | refine Pw.condF rfl ?_ | refine Pw.list (Pw.box rfl rfl rfl rfl (fun _ => ?_)) | refine Pw.list (Pw.alloc rfl rfl rfl rfl rfl (fun _ => ?_)) | refine Pw.list (Pw.build rfl rfl rfl rfl ?_) | refine Pw.list (Pw.ld rfl inferInstance rfl rfl rfl ?_) | refine Pw.list (Pw.sto rfl rfl inferInstance rfl rfl rfl rfl rfl inferInstance rfl ?_))
    refine Pw.list (Pw.call bawake_ct rfl rfl rfl (by kernel_rfl) rfl rfl (fun w h => trivial) ?_)
    intro _ _
    repeat (first | (with_reducible first | refine Pw.seq ?_ | refine Pw.region ?_ | refine Pw.nil ?_ | refine Pw.then_ ?_ | refine Pw.skip ?_ | refine Pw.block ?_ | refine Pw.exit ?_ | refine Pw.inX ?_ | refine Pw.inN ?_ | refine Pw.inR ?_ | refine Pw.thenX ?_ | refine Pw.thenR ?_ | refine Pw.ret ?_) | refine Pw.list (Pw.pure rfl rfl rfl ?_) | refine Pw.inY rfl ?_ | refine Pw.list (Pw.off rfl rfl ?_) | refine Pw.condT rfl ?_ | refine Pw.condF rfl ?_ | refine Pw.list (Pw.box rfl rfl rfl rfl (fun _ => ?_)) | refine Pw.list (Pw.alloc rfl rfl rfl rfl rfl (fun _ => ?_)) | refine Pw.list (Pw.build rfl rfl rfl rfl ?_) | refine Pw.list (Pw.ld rfl inferInstance rfl rfl rfl ?_) | refine Pw.list (Pw.sto rfl rfl inferInstance rfl rfl rfl rfl rfl inferInstance rfl ?_))
    exact Pw.ret_ (x := ()) (.tmp rfl .nil) rfl trivial (fun w h => by trivial)
  obtain ⟨hl, hs⟩ := hr rfl
  obtain ⟨D, hT⟩ := tq_few hw hs a (by omega)
  have hlens : ∀ s ∈ l, s.a.length < 1048576 ∧ s.b.length < 1048576 := fun s h => by have := hs s h; omega
  repeat (first | (with_reducible first | refine Pw.seq ?_ | refine Pw.region ?_ | refine Pw.nil ?_ | refine Pw.then_ ?_ | refine Pw.skip ?_ | refine Pw.block ?_ | refine Pw.exit ?_ | refine Pw.inX ?_ | refine Pw.inN ?_ | refine Pw.inR ?_ | refine Pw.thenX ?_ | refine Pw.thenR ?_ | refine Pw.ret ?_) | refine Pw.list (Pw.pure rfl rfl rfl ?_) | refine Pw.inY rfl ?_ | refine Pw.list (Pw.off rfl rfl ?_) | refine Pw.condT rfl ?_ | refine Pw.condF rfl ?_ | refine Pw.list (Pw.box rfl rfl rfl rfl (fun _ => ?_)) | refine Pw.list (Pw.alloc rfl rfl rfl rfl rfl (fun _ => ?_)) | refine Pw.list (Pw.build rfl rfl rfl rfl ?_) | refine Pw.list (Pw.ld rfl inferInstance rfl rfl rfl ?_) | refine Pw.list (Pw.sto rfl rfl inferInstance rfl rfl rfl rfl rfl inferInstance rfl ?_))
  refine Pw.re (d := 30) (v' := .int .u64 a) rfl (congrArg (Value.int .u64) (wu (by omega) (by omega))) ?_
  refine Pw.list (Pw.call (btheirs_ct l (A, c) (by omega)) rfl rfl rfl (by kernel_rfl) rfl rfl (fun w h => (hv w h)) ?_)
  intro z _
  repeat (first | (with_reducible first | refine Pw.seq ?_ | refine Pw.region ?_ | refine Pw.nil ?_ | refine Pw.then_ ?_ | refine Pw.skip ?_ | refine Pw.block ?_ | refine Pw.exit ?_ | refine Pw.inX ?_ | refine Pw.inN ?_ | refine Pw.inR ?_ | refine Pw.thenX ?_ | refine Pw.thenR ?_ | refine Pw.ret ?_) | refine Pw.list (Pw.pure rfl rfl rfl ?_) | refine Pw.inY rfl ?_ | refine Pw.list (Pw.off rfl rfl ?_) | refine Pw.condT rfl ?_ | refine Pw.condF rfl ?_ | refine Pw.list (Pw.box rfl rfl rfl rfl (fun _ => ?_)) | refine Pw.list (Pw.alloc rfl rfl rfl rfl rfl (fun _ => ?_)) | refine Pw.list (Pw.build rfl rfl rfl rfl ?_) | refine Pw.list (Pw.ld rfl inferInstance rfl rfl rfl ?_) | refine Pw.list (Pw.sto rfl rfl inferInstance rfl rfl rfl rfl rfl inferInstance rfl ?_))
  refine Pw.list (Pw.call (pTurn_ct a l z hw hlens (by omega) hT) rfl rfl rfl (by kernel_rfl) rfl rfl (fun w h => (hv w h)) ?_)
  rintro ⟨P1, ⟨A1, c1⟩, e1⟩ hP
  unfold TurnP at hP
  cases hbad : badT l
  case true =>
    rw [hbad, if_pos rfl] at hP
    obtain ⟨h1, h2⟩ := hP
    dsimp only at h1 h2
    subst h1 h2
    repeat (first | (with_reducible first | refine Pw.seq ?_ | refine Pw.region ?_ | refine Pw.nil ?_ | refine Pw.then_ ?_ | refine Pw.skip ?_ | refine Pw.block ?_ | refine Pw.exit ?_ | refine Pw.inX ?_ | refine Pw.inN ?_ | refine Pw.inR ?_ | refine Pw.thenX ?_ | refine Pw.thenR ?_ | refine Pw.ret ?_) | refine Pw.list (Pw.pure rfl rfl rfl ?_) | refine Pw.inY rfl ?_ | refine Pw.list (Pw.off rfl rfl ?_) | refine Pw.condT rfl ?_ | refine Pw.condF rfl ?_ | refine Pw.list (Pw.box rfl rfl rfl rfl (fun _ => ?_)) | refine Pw.list (Pw.alloc rfl rfl rfl rfl rfl (fun _ => ?_)) | refine Pw.list (Pw.build rfl rfl rfl rfl ?_) | refine Pw.list (Pw.ld rfl inferInstance rfl rfl rfl ?_) | refine Pw.list (Pw.sto rfl rfl inferInstance rfl rfl rfl rfl rfl inferInstance rfl ?_))
    exact Pw.ret_ (x := ()) (.tmp rfl .nil) rfl trivial (fun w h => by trivial)
  rw [hbad, if_neg (by simp)] at hP
  obtain ⟨h2, v, hlev, hvb, hP1⟩ := hP
  dsimp only at h2 hP1
  subst h2
  have hTq := hT hbad
  have hP1l : P1.length = l.length := by have := congrArg List.length hP1; rw [List.length_map] at this; rw [this]; simp [outT]
  obtain ⟨hl1, hl8, hF⟩ := badT_no hbad
  have hvz := hTq.sz hvb
  have hrq : ∀ s ∈ l, RtQ 40 s := fun s hs => by
    have hf : formedR s.a s.b = true := by have := List.any_eq_false.1 hF s hs; simpa using this
    obtain ⟨h1, h2, _⟩ := formed_q (hw s hs).a (hw s hs).b hf
    exact ⟨h1, h2, hTq.s (List.mem_map_of_mem hs)⟩
  have hupm : ∀ s ∈ l.map rq, Mult (840 * D) (up v s) ∧ 0 ≤ up v s ∧ up v s < ((pw 7 : Int) : Rat) := fun s hs => by
    obtain ⟨h1, h2, h3⟩ := hTq.m s hs
    obtain ⟨g1, g2, g3⟩ := hTq.gn hvb hs
    refine ⟨mult_add g1 (mult_more h1 840), by unfold up; grind, ?_⟩
    have h4 : s < ((pw 7 : Int) : Rat) := by
      have : ((pw 6 : Int) : Rat) ≤ ((pw 7 : Int) : Rat) := Rat.intCast_le_intCast.2 (pw_le (by omega))
      grind
    have h5 := hvb.2.2
    have h6 : v < ((pw 7 : Int) : Rat) := h5
    unfold up gn; grind
  have hT2 : TQ (840 * D) 36 7 ((l.map rq).map (up v)) b := by
    have hpp : pw 36 = pw 34 * 18446744073709551616 := pw_add 34 2
    have hd := hTq.Dd
    refine ⟨Nat.mul_pos (by omega) hTq.D0, ?_, fun r hr => ?_, by omega, by omega, by rw [List.length_map, List.length_map]; omega, by omega⟩
    · rw [Int.natCast_mul]; have := pw_pos 34; omega
    · obtain ⟨s, hs, rfl⟩ := List.mem_map.1 hr
      exact hupm s hs
  have hupz : ∀ s ∈ l.map rq, Sz 43 (up v s) := fun s hs => hT2.s (List.mem_map_of_mem hs)
  have hT3 : TQ D 34 6 (l.map rq) (a + b) := ⟨hTq.D0, hTq.Dd, hTq.m, by omega, hTq.b2, hTq.len, hTq.cap⟩
  repeat (first | (with_reducible first | refine Pw.seq ?_ | refine Pw.region ?_ | refine Pw.nil ?_ | refine Pw.then_ ?_ | refine Pw.skip ?_ | refine Pw.block ?_ | refine Pw.exit ?_ | refine Pw.inX ?_ | refine Pw.inN ?_ | refine Pw.inR ?_ | refine Pw.thenX ?_ | refine Pw.thenR ?_ | refine Pw.ret ?_) | refine Pw.list (Pw.pure rfl rfl rfl ?_) | refine Pw.inY rfl ?_ | refine Pw.list (Pw.off rfl rfl ?_) | refine Pw.condT rfl ?_ | refine Pw.condF rfl ?_ | refine Pw.list (Pw.box rfl rfl rfl rfl (fun _ => ?_)) | refine Pw.list (Pw.alloc rfl rfl rfl rfl rfl (fun _ => ?_)) | refine Pw.list (Pw.build rfl rfl rfl rfl ?_) | refine Pw.list (Pw.ld rfl inferInstance rfl rfl rfl ?_) | refine Pw.list (Pw.sto rfl rfl inferInstance rfl rfl rfl rfl rfl inferInstance rfl ?_))
  refine Pw.facts (G' := [RS P1 (A1, c1), RS l (A, c), AllR []]) (fun w h => allCons (hv w h) (allCons (hv w h) (allCons (fun r hr => by cases hr) allNil))) ?_
  refine Pw.re (d := 42) (v' := .int .i64 l.length) rfl (by rw [hP1l]) ?_
  refine Pw.loopJ (σ := Nat × Gr × List Rt) (fun t => t.1 ≤ l.length ∧ UpOk l v t.1 t.2.2 ∧ gOk t.2.1 (cellsR t.2.2) t.1 2) (fun t => ⟨[(0, .int .u32 a), (1, .int .u32 b), (2, .slice A l.length c), (7, rsV P1 (A1, c1)), (9, gv t.2.1 t.1), (42, .int .i64 l.length), (43, .int .i64 t.1)], gL1 t.2.1 (cellsR t.2.2) 34, [RS P1 (A1, c1), RS l (A, c), AllR t.2.2]⟩) (fun t => l.length - t.1) (0, none, []) ⟨Nat.zero_le _, ⟨rfl⟩, rfl, rfl⟩ (Pw.enter ⟨rfl, rfl, rfl, rfl, rfl, rfl, rfl, trivial⟩ (fun w h => h)) ?_
  rintro ⟨i, q, rs⟩ ⟨hi, ⟨hrs⟩, hqo⟩
  dsimp only at hi hrs hqo ⊢
  repeat (first | (with_reducible first | refine Pw.seq ?_ | refine Pw.region ?_ | refine Pw.nil ?_ | refine Pw.then_ ?_ | refine Pw.skip ?_ | refine Pw.block ?_ | refine Pw.exit ?_ | refine Pw.inX ?_ | refine Pw.inN ?_ | refine Pw.inR ?_ | refine Pw.thenX ?_ | refine Pw.thenR ?_ | refine Pw.ret ?_) | refine Pw.list (Pw.pure rfl rfl rfl ?_) | refine Pw.inY rfl ?_ | refine Pw.list (Pw.off rfl rfl ?_) | refine Pw.condT rfl ?_ | refine Pw.condF rfl ?_ | refine Pw.list (Pw.box rfl rfl rfl rfl (fun _ => ?_)) | refine Pw.list (Pw.alloc rfl rfl rfl rfl rfl (fun _ => ?_)) | refine Pw.list (Pw.build rfl rfl rfl rfl ?_) | refine Pw.list (Pw.ld rfl inferInstance rfl rfl rfl ?_) | refine Pw.list (Pw.sto rfl rfl inferInstance rfl rfl rfl rfl rfl inferInstance rfl ?_))
  refine Pw.condD rfl (fun c3 => ?_) (fun c3 => ?_)
  · obtain ⟨s, hsi, hsm⟩ := get_at (show i < l.length by omega)
    have em := map_take_snocT (f := rq) hsi
    obtain ⟨yo, hoi⟩ := outT_at hP1 hsi
    have hoz := hTq.sz (hTq.gn hvb (List.mem_map_of_mem (f := rq) hsm))
    obtain ⟨y, ys, rfl, hy, hyq⟩ := rtq_ex (hrq s hsm)
    rw [hyq] at em hoi hoz
    obtain ⟨o, ho⟩ : ∃ o, o = gn v y := ⟨_, rfl⟩
    have hou : o + y = up v y := by rw [ho]; rfl
    rw [← ho] at hoi hoz
    have hi0 : 0 ≤ (i : Int) := Int.natCast_nonneg i
    have hi1 : (i : Int) < (P1.length : Int) := by omega
    refine Pw.use (p := A.isSome = true) (fun w h => (hv w h : RS l (A, c) w).has hi0 c3) (fun hA => ?_)
    refine Pw.use (p := A1.isSome = true) (fun w h => (hv w h : RS P1 (A1, c1) w).has hi0 hi1) (fun hB => ?_)
    obtain ⟨ad, rfl⟩ := Option.isSome_iff_exists.1 hA
    obtain ⟨bd, rfl⟩ := Option.isSome_iff_exists.1 hB
    refine Pw.more (φ := QW o yo) (fun w h => ((hv w h : RS P1 (some bd, c1) w).at hoi).2.1) ?_
    refine Pw.more (φ := QW y ys) (fun w h => ((hv w h : RS l (some ad, c) w).at hsi).2.1) ?_
    repeat (first | (with_reducible first | refine Pw.seq ?_ | refine Pw.region ?_ | refine Pw.nil ?_ | refine Pw.then_ ?_ | refine Pw.skip ?_ | refine Pw.block ?_ | refine Pw.exit ?_ | refine Pw.inX ?_ | refine Pw.inN ?_ | refine Pw.inR ?_ | refine Pw.thenX ?_ | refine Pw.thenR ?_ | refine Pw.ret ?_) | refine Pw.list (Pw.pure rfl rfl rfl ?_) | refine Pw.inY rfl ?_ | refine Pw.list (Pw.off rfl rfl ?_) | refine Pw.condT rfl ?_ | refine Pw.condF rfl ?_ | refine Pw.list (Pw.box rfl rfl rfl rfl (fun _ => ?_)) | refine Pw.list (Pw.alloc rfl rfl rfl rfl rfl (fun _ => ?_)) | refine Pw.list (Pw.build rfl rfl rfl rfl ?_) | refine Pw.list (Pw.ld rfl inferInstance rfl rfl rfl ?_) | refine Pw.list (Pw.sto rfl rfl inferInstance rfl rfl rfl rfl rfl inferInstance rfl ?_))
    refine Pw.drawnG mixed rfl rfl ?_
    refine Pw.takeP 0 (nb 16 1) rfl rfl rfl rfl (by kernel_rfl) np sf ?_
    refine Pw.takeP 1 (nb 16 3) rfl rfl rfl rfl (by kernel_rfl) np sf ?_
    refine Pw.takeIx 2 (nb 16 7) rfl rfl rfl rfl rfl (by first | assumption | omega) (by first | assumption | omega) rfl rfl (by kernel_rfl) np sf ?_
    refine Pw.takeLA ⟨qn o,qd o,yo⟩ 3 (nb 16 15) rfl rfl inferInstance rfl (by first | assumption | (rw [Int.toNat_natCast]; assumption)) (by kernel_rfl) rfl rfl (by kernel_rfl) np sf ?_
    refine Pw.takeP 4 (nb 16 31) rfl rfl rfl rfl (by kernel_rfl) np sf ?_
    refine Pw.takeP 5 (nb 16 63) rfl rfl rfl rfl (by kernel_rfl) np sf ?_
    refine Pw.takeIx 6 (nb 16 127) rfl rfl rfl rfl rfl (by first | assumption | omega) (by first | assumption | omega) rfl rfl (by kernel_rfl) np sf ?_
    refine Pw.takeLA ⟨qn y,qd y,ys⟩ 7 (nb 16 255) rfl rfl inferInstance rfl (by first | assumption | (rw [Int.toNat_natCast]; assumption)) (by kernel_rfl) rfl rfl (by kernel_rfl) np sf ?_
    refine Pw.two 8 13 (nb 16 511) (nb 16 8447) rfl rfl (by kernel_rfl) ?_ ?_
    · skip
      refine Pw.call (Theirs_ct (qn y) (qd y) ys) rfl rfl rfl (by kernel_rfl) rfl rfl (fun w h => trivial) ?_
      intro _ _
      refine Pw.held sf ?_
      refine Pw.two 9 13 (nb 16 1023) (nb 16 8703) rfl rfl (by kernel_rfl) ?_ ?_
      · skip
        refine Pw.call (qAdd_ct hoz hy yo ys (by omega)) rfl rfl rfl (by kernel_rfl) rfl rfl (fun w h => ⟨(hv w h), (hv w h)⟩) ?_
        intro z11 _
        rw [hou]
        refine Pw.held sf ?_
        refine Pw.takeP 10 (nb 16 2047) rfl rfl rfl rfl (by kernel_rfl) np sf ?_
        refine Pw.takeP 11 (nb 16 4095) rfl rfl rfl rfl (by kernel_rfl) np sf ?_
        refine Pw.takeP 12 (nb 16 8191) rfl rfl rfl rfl (by kernel_rfl) np sf ?_
        refine Pw.one 13 (nb 16 16383) rfl (by kernel_rfl) ?_
        refine Pw.alloc rfl rfl rfl rfl rfl (fun g11 => ?_)
        refine Pw.held sf ?_
        refine Pw.one 14 (nb 16 32767) rfl (by kernel_rfl) ?_
        refine Pw.sto rfl rfl inferInstance rfl rfl rfl rfl rfl inferInstance rfl ?_
        refine Pw.held sf ?_
        refine Pw.takeP 15 (nb 16 65535) rfl rfl rfl rfl (by kernel_rfl) np sf ?_
        refine Pw.done (by kernel_rfl) ?_
        refine freeHead ?_
        repeat (first | (with_reducible first | refine Pw.seq ?_ | refine Pw.region ?_ | refine Pw.nil ?_ | refine Pw.then_ ?_ | refine Pw.skip ?_ | refine Pw.block ?_ | refine Pw.exit ?_ | refine Pw.inX ?_ | refine Pw.inN ?_ | refine Pw.inR ?_ | refine Pw.thenX ?_ | refine Pw.thenR ?_ | refine Pw.ret ?_) | refine Pw.list (Pw.pure rfl rfl rfl ?_) | refine Pw.inY rfl ?_ | refine Pw.list (Pw.off rfl rfl ?_) | refine Pw.condT rfl ?_ | refine Pw.condF rfl ?_ | refine Pw.list (Pw.box rfl rfl rfl rfl (fun _ => ?_)) | refine Pw.list (Pw.alloc rfl rfl rfl rfl rfl (fun _ => ?_)) | refine Pw.list (Pw.build rfl rfl rfl rfl ?_) | refine Pw.list (Pw.ld rfl inferInstance rfl rfl rfl ?_) | refine Pw.list (Pw.sto rfl rfl inferInstance rfl rfl rfl rfl rfl inferInstance rfl ?_))
        refine Pw.list (Pw.lit12 rfl rfl rfl rfl rfl rfl rfl rfl rfl (fun g45 => freeHead ?_))
        refine Pw.list (Pw.push (s := q) (m := i) (cells := cellsR rs) (news := encR ⟨qn (up v y), qd (up v y), z11⟩) (L0 := []) rfl rfl rfl rfl rfl rfl rfl hqo rfl (encR_one _) (fun w hs j' u hu => by
          have h1 : w.heap[g45]? = some (row (encR ⟨qn (up v y), qd (up v y), z11⟩) 34) := fact0 hs.all
          rw [add_none, cell_of_blk h1]
          simpa using hu) (by omega) (by simp only [maxLen]; omega) (by show (i + 1) * 48 ≤ _; omega) rfl rfl (fun q' hq' => ?_))
        rw [← cellsR_snoc] at hq' ⊢
        repeat (first | (with_reducible first | refine Pw.seq ?_ | refine Pw.region ?_ | refine Pw.nil ?_ | refine Pw.then_ ?_ | refine Pw.skip ?_ | refine Pw.block ?_ | refine Pw.exit ?_ | refine Pw.inX ?_ | refine Pw.inN ?_ | refine Pw.inR ?_ | refine Pw.thenX ?_ | refine Pw.thenR ?_ | refine Pw.ret ?_) | refine Pw.list (Pw.pure rfl rfl rfl ?_) | refine Pw.inY rfl ?_ | refine Pw.list (Pw.off rfl rfl ?_) | refine Pw.condT rfl ?_ | refine Pw.condF rfl ?_ | refine Pw.list (Pw.box rfl rfl rfl rfl (fun _ => ?_)) | refine Pw.list (Pw.alloc rfl rfl rfl rfl rfl (fun _ => ?_)) | refine Pw.list (Pw.build rfl rfl rfl rfl ?_) | refine Pw.list (Pw.ld rfl inferInstance rfl rfl rfl ?_) | refine Pw.list (Pw.sto rfl rfl inferInstance rfl rfl rfl rfl rfl inferInstance rfl ?_))
        refine Pw.re (d := 43) (v' := .int .i64 ((i + 1 : Nat) : Int)) rfl (congrArg (Value.int .i64) (i64s (n := 100000) (by omega) (by omega))) ?_
        exact Pw.again (i + 1, q', rs ++ [⟨qn (up v y), qd (up v y), z11⟩]) ⟨by omega, ⟨by rw [List.map_append, hrs, em]; unfold upT; rw [List.map_append]; rfl⟩, hq'⟩ (by show l.length - (i + 1) < l.length - i; omega) ⟨rfl, rfl, rfl, rfl, rfl, rfl, rfl, trivial⟩ rfl (fun w h => allCons (hv w h) (allCons (hv w h) (allCons (fun r hr => by
          rcases List.mem_append.1 hr with hr | hr
          · exact (hv w h : AllR rs w) r hr
          · rw [List.mem_singleton.1 hr]
            exact (hv w h : QW (up v y) z11 w)) allNil)))
      · skip
        refine Pw.alloc rfl rfl rfl rfl rfl (fun g11 => ?_)
        refine Pw.held sf ?_
        refine Pw.one 9 (nb 16 9215) rfl (by kernel_rfl) ?_
        refine Pw.call (qAdd_ct hoz hy yo ys (by omega)) rfl rfl rfl (by kernel_rfl) rfl rfl (fun w h => ⟨(hv w h), (hv w h)⟩) ?_
        intro z11 _
        rw [hou]
        refine Pw.held sf ?_
        refine Pw.takeP 10 (nb 16 10239) rfl rfl rfl rfl (by kernel_rfl) np sf ?_
        refine Pw.takeP 11 (nb 16 12287) rfl rfl rfl rfl (by kernel_rfl) np sf ?_
        refine Pw.takeP 12 (nb 16 16383) rfl rfl rfl rfl (by kernel_rfl) np sf ?_
        refine Pw.one 14 (nb 16 32767) rfl (by kernel_rfl) ?_
        refine Pw.sto rfl rfl inferInstance rfl rfl rfl rfl rfl inferInstance rfl ?_
        refine Pw.held sf ?_
        refine Pw.takeP 15 (nb 16 65535) rfl rfl rfl rfl (by kernel_rfl) np sf ?_
        refine Pw.done (by kernel_rfl) ?_
        refine freeHead ?_
        repeat (first | (with_reducible first | refine Pw.seq ?_ | refine Pw.region ?_ | refine Pw.nil ?_ | refine Pw.then_ ?_ | refine Pw.skip ?_ | refine Pw.block ?_ | refine Pw.exit ?_ | refine Pw.inX ?_ | refine Pw.inN ?_ | refine Pw.inR ?_ | refine Pw.thenX ?_ | refine Pw.thenR ?_ | refine Pw.ret ?_) | refine Pw.list (Pw.pure rfl rfl rfl ?_) | refine Pw.inY rfl ?_ | refine Pw.list (Pw.off rfl rfl ?_) | refine Pw.condT rfl ?_ | refine Pw.condF rfl ?_ | refine Pw.list (Pw.box rfl rfl rfl rfl (fun _ => ?_)) | refine Pw.list (Pw.alloc rfl rfl rfl rfl rfl (fun _ => ?_)) | refine Pw.list (Pw.build rfl rfl rfl rfl ?_) | refine Pw.list (Pw.ld rfl inferInstance rfl rfl rfl ?_) | refine Pw.list (Pw.sto rfl rfl inferInstance rfl rfl rfl rfl rfl inferInstance rfl ?_))
        refine Pw.list (Pw.lit12 rfl rfl rfl rfl rfl rfl rfl rfl rfl (fun g45 => freeHead ?_))
        refine Pw.list (Pw.push (s := q) (m := i) (cells := cellsR rs) (news := encR ⟨qn (up v y), qd (up v y), z11⟩) (L0 := []) rfl rfl rfl rfl rfl rfl rfl hqo rfl (encR_one _) (fun w hs j' u hu => by
          have h1 : w.heap[g45]? = some (row (encR ⟨qn (up v y), qd (up v y), z11⟩) 34) := fact0 hs.all
          rw [add_none, cell_of_blk h1]
          simpa using hu) (by omega) (by simp only [maxLen]; omega) (by show (i + 1) * 48 ≤ _; omega) rfl rfl (fun q' hq' => ?_))
        rw [← cellsR_snoc] at hq' ⊢
        repeat (first | (with_reducible first | refine Pw.seq ?_ | refine Pw.region ?_ | refine Pw.nil ?_ | refine Pw.then_ ?_ | refine Pw.skip ?_ | refine Pw.block ?_ | refine Pw.exit ?_ | refine Pw.inX ?_ | refine Pw.inN ?_ | refine Pw.inR ?_ | refine Pw.thenX ?_ | refine Pw.thenR ?_ | refine Pw.ret ?_) | refine Pw.list (Pw.pure rfl rfl rfl ?_) | refine Pw.inY rfl ?_ | refine Pw.list (Pw.off rfl rfl ?_) | refine Pw.condT rfl ?_ | refine Pw.condF rfl ?_ | refine Pw.list (Pw.box rfl rfl rfl rfl (fun _ => ?_)) | refine Pw.list (Pw.alloc rfl rfl rfl rfl rfl (fun _ => ?_)) | refine Pw.list (Pw.build rfl rfl rfl rfl ?_) | refine Pw.list (Pw.ld rfl inferInstance rfl rfl rfl ?_) | refine Pw.list (Pw.sto rfl rfl inferInstance rfl rfl rfl rfl rfl inferInstance rfl ?_))
        refine Pw.re (d := 43) (v' := .int .i64 ((i + 1 : Nat) : Int)) rfl (congrArg (Value.int .i64) (i64s (n := 100000) (by omega) (by omega))) ?_
        exact Pw.again (i + 1, q', rs ++ [⟨qn (up v y), qd (up v y), z11⟩]) ⟨by omega, ⟨by rw [List.map_append, hrs, em]; unfold upT; rw [List.map_append]; rfl⟩, hq'⟩ (by show l.length - (i + 1) < l.length - i; omega) ⟨rfl, rfl, rfl, rfl, rfl, rfl, rfl, trivial⟩ rfl (fun w h => allCons (hv w h) (allCons (hv w h) (allCons (fun r hr => by
          rcases List.mem_append.1 hr with hr | hr
          · exact (hv w h : AllR rs w) r hr
          · rw [List.mem_singleton.1 hr]
            exact (hv w h : QW (up v y) z11 w)) allNil)))
    · skip
      refine Pw.alloc rfl rfl rfl rfl rfl (fun g11 => ?_)
      refine Pw.held sf ?_
      refine Pw.one 8 (nb 16 8703) rfl (by kernel_rfl) ?_
      refine Pw.call (Theirs_ct (qn y) (qd y) ys) rfl rfl rfl (by kernel_rfl) rfl rfl (fun w h => trivial) ?_
      intro _ _
      refine Pw.held sf ?_
      refine Pw.one 9 (nb 16 9215) rfl (by kernel_rfl) ?_
      refine Pw.call (qAdd_ct hoz hy yo ys (by omega)) rfl rfl rfl (by kernel_rfl) rfl rfl (fun w h => ⟨(hv w h), (hv w h)⟩) ?_
      intro z11 _
      rw [hou]
      refine Pw.held sf ?_
      refine Pw.takeP 10 (nb 16 10239) rfl rfl rfl rfl (by kernel_rfl) np sf ?_
      refine Pw.takeP 11 (nb 16 12287) rfl rfl rfl rfl (by kernel_rfl) np sf ?_
      refine Pw.takeP 12 (nb 16 16383) rfl rfl rfl rfl (by kernel_rfl) np sf ?_
      refine Pw.one 14 (nb 16 32767) rfl (by kernel_rfl) ?_
      refine Pw.sto rfl rfl inferInstance rfl rfl rfl rfl rfl inferInstance rfl ?_
      refine Pw.held sf ?_
      refine Pw.takeP 15 (nb 16 65535) rfl rfl rfl rfl (by kernel_rfl) np sf ?_
      refine Pw.done (by kernel_rfl) ?_
      refine freeHead ?_
      repeat (first | (with_reducible first | refine Pw.seq ?_ | refine Pw.region ?_ | refine Pw.nil ?_ | refine Pw.then_ ?_ | refine Pw.skip ?_ | refine Pw.block ?_ | refine Pw.exit ?_ | refine Pw.inX ?_ | refine Pw.inN ?_ | refine Pw.inR ?_ | refine Pw.thenX ?_ | refine Pw.thenR ?_ | refine Pw.ret ?_) | refine Pw.list (Pw.pure rfl rfl rfl ?_) | refine Pw.inY rfl ?_ | refine Pw.list (Pw.off rfl rfl ?_) | refine Pw.condT rfl ?_ | refine Pw.condF rfl ?_ | refine Pw.list (Pw.box rfl rfl rfl rfl (fun _ => ?_)) | refine Pw.list (Pw.alloc rfl rfl rfl rfl rfl (fun _ => ?_)) | refine Pw.list (Pw.build rfl rfl rfl rfl ?_) | refine Pw.list (Pw.ld rfl inferInstance rfl rfl rfl ?_) | refine Pw.list (Pw.sto rfl rfl inferInstance rfl rfl rfl rfl rfl inferInstance rfl ?_))
      refine Pw.list (Pw.lit12 rfl rfl rfl rfl rfl rfl rfl rfl rfl (fun g45 => freeHead ?_))
      refine Pw.list (Pw.push (s := q) (m := i) (cells := cellsR rs) (news := encR ⟨qn (up v y), qd (up v y), z11⟩) (L0 := []) rfl rfl rfl rfl rfl rfl rfl hqo rfl (encR_one _) (fun w hs j' u hu => by
        have h1 : w.heap[g45]? = some (row (encR ⟨qn (up v y), qd (up v y), z11⟩) 34) := fact0 hs.all
        rw [add_none, cell_of_blk h1]
        simpa using hu) (by omega) (by simp only [maxLen]; omega) (by show (i + 1) * 48 ≤ _; omega) rfl rfl (fun q' hq' => ?_))
      rw [← cellsR_snoc] at hq' ⊢
      repeat (first | (with_reducible first | refine Pw.seq ?_ | refine Pw.region ?_ | refine Pw.nil ?_ | refine Pw.then_ ?_ | refine Pw.skip ?_ | refine Pw.block ?_ | refine Pw.exit ?_ | refine Pw.inX ?_ | refine Pw.inN ?_ | refine Pw.inR ?_ | refine Pw.thenX ?_ | refine Pw.thenR ?_ | refine Pw.ret ?_) | refine Pw.list (Pw.pure rfl rfl rfl ?_) | refine Pw.inY rfl ?_ | refine Pw.list (Pw.off rfl rfl ?_) | refine Pw.condT rfl ?_ | refine Pw.condF rfl ?_ | refine Pw.list (Pw.box rfl rfl rfl rfl (fun _ => ?_)) | refine Pw.list (Pw.alloc rfl rfl rfl rfl rfl (fun _ => ?_)) | refine Pw.list (Pw.build rfl rfl rfl rfl ?_) | refine Pw.list (Pw.ld rfl inferInstance rfl rfl rfl ?_) | refine Pw.list (Pw.sto rfl rfl inferInstance rfl rfl rfl rfl rfl inferInstance rfl ?_))
      refine Pw.re (d := 43) (v' := .int .i64 ((i + 1 : Nat) : Int)) rfl (congrArg (Value.int .i64) (i64s (n := 100000) (by omega) (by omega))) ?_
      exact Pw.again (i + 1, q', rs ++ [⟨qn (up v y), qd (up v y), z11⟩]) ⟨by omega, ⟨by rw [List.map_append, hrs, em]; unfold upT; rw [List.map_append]; rfl⟩, hq'⟩ (by show l.length - (i + 1) < l.length - i; omega) ⟨rfl, rfl, rfl, rfl, rfl, rfl, rfl, trivial⟩ rfl (fun w h => allCons (hv w h) (allCons (hv w h) (allCons (fun r hr => by
        rcases List.mem_append.1 hr with hr | hr
        · exact (hv w h : AllR rs w) r hr
        · rw [List.mem_singleton.1 hr]
          exact (hv w h : QW (up v y) z11 w)) allNil)))
  · obtain rfl : i = l.length := by omega
    rw [List.take_length] at hrs
    have hrl : rs.length = l.length := by have := congrArg List.length hrs; rw [List.length_map] at this; rw [this]; simp [upT]
    have hrel : ∀ r ∈ rs, ∃ s ∈ l.map rq, r.a = qn (up v s) ∧ r.b = qd (up v s) := fun r hr => by
      have h1 : (r.a, r.b) ∈ upT (l.map rq) v := by rw [← hrs]; exact List.mem_map_of_mem (f := fun t : Rt => (t.a, t.b)) hr
      obtain ⟨s, hs, e⟩ := List.mem_map.1 h1
      exact ⟨s, hs, (congrArg Prod.fst e).symm, (congrArg Prod.snd e).symm⟩
    have hrq2 : rs.map rq = (l.map rq).map (up v) := by
      have e1 : rs.map rq = (rs.map (fun t => (t.a, t.b))).map (fun p => rv p.1 p.2) := by rw [List.map_map]; rfl
      rw [e1, hrs]
      unfold upT
      rw [List.map_map]
      exact List.map_congr_left (fun s hs => rv_q' (hupm s hs).2.1)
    have hrw : ∀ r ∈ rs, RtW r := fun r hr => by
      obtain ⟨s, hs, e1, e2⟩ := hrel r hr
      exact ⟨by rw [e1]; exact qn_lm _, by rw [e2]; exact qd_lm _⟩
    have hrlen : ∀ r ∈ rs, r.a.length < 1048576 ∧ r.b.length < 1048576 := fun r hr => by
      obtain ⟨s, hs, e1, e2⟩ := hrel r hr
      have h1 := (hupz s hs).ln; have h2 := (hupz s hs).ld
      rw [e1, e2]; omega
    have hbad2 : badT rs = false := by
      have hF2 : rs.any (fun s => !formedR s.a s.b) = false := by
        rw [List.any_eq_false]
        intro r hr
        obtain ⟨s, hs, e1, e2⟩ := hrel r hr
        rw [e1, e2, (hupz s hs).formed (by omega)]; simp
      unfold badT; rw [hF2, decide_eq_false (by omega), decide_eq_false (by omega)]; rfl
    repeat (first | (with_reducible first | refine Pw.seq ?_ | refine Pw.region ?_ | refine Pw.nil ?_ | refine Pw.then_ ?_ | refine Pw.skip ?_ | refine Pw.block ?_ | refine Pw.exit ?_ | refine Pw.inX ?_ | refine Pw.inN ?_ | refine Pw.inR ?_ | refine Pw.thenX ?_ | refine Pw.thenR ?_ | refine Pw.ret ?_) | refine Pw.list (Pw.pure rfl rfl rfl ?_) | refine Pw.inY rfl ?_ | refine Pw.list (Pw.off rfl rfl ?_) | refine Pw.condT rfl ?_ | refine Pw.condF rfl ?_ | refine Pw.list (Pw.box rfl rfl rfl rfl (fun _ => ?_)) | refine Pw.list (Pw.alloc rfl rfl rfl rfl rfl (fun _ => ?_)) | refine Pw.list (Pw.build rfl rfl rfl rfl ?_) | refine Pw.list (Pw.ld rfl inferInstance rfl rfl rfl ?_) | refine Pw.list (Pw.sto rfl rfl inferInstance rfl rfl rfl rfl rfl inferInstance rfl ?_))
    refine Pw.freeG hqo (fun A' c' e hc => ?_)
    refine Pw.re (d := 9) (v' := rsV rs (A', c')) rfl (by rw [e]; show Value.slice A' l.length c' = Value.slice A' rs.length c'; rw [hrl]) ?_
    refine Pw.facts (G' := [RS rs (A', c'), RS P1 (A1, c1), RS l (A, c)]) (fun w h => allCons (rows_of_cells (fun _ _ => rfl) (fun y hy => (hv w h : AllR rs w) y hy) (by rw [hrl]; exact hc) (by rw [hrl]; simp only [maxLen]; omega) (by omega) (fact0 h)) (allCons (hv w h) (allCons (hv w h) allNil))) ?_
    repeat (first | (with_reducible first | refine Pw.seq ?_ | refine Pw.region ?_ | refine Pw.nil ?_ | refine Pw.then_ ?_ | refine Pw.skip ?_ | refine Pw.block ?_ | refine Pw.exit ?_ | refine Pw.inX ?_ | refine Pw.inN ?_ | refine Pw.inR ?_ | refine Pw.thenX ?_ | refine Pw.thenR ?_ | refine Pw.ret ?_) | refine Pw.list (Pw.pure rfl rfl rfl ?_) | refine Pw.inY rfl ?_ | refine Pw.list (Pw.off rfl rfl ?_) | refine Pw.condT rfl ?_ | refine Pw.condF rfl ?_ | refine Pw.list (Pw.box rfl rfl rfl rfl (fun _ => ?_)) | refine Pw.list (Pw.alloc rfl rfl rfl rfl rfl (fun _ => ?_)) | refine Pw.list (Pw.build rfl rfl rfl rfl ?_) | refine Pw.list (Pw.ld rfl inferInstance rfl rfl rfl ?_) | refine Pw.list (Pw.sto rfl rfl inferInstance rfl rfl rfl rfl rfl inferInstance rfl ?_))
    refine Pw.re (d := 66) (v' := .int .u64 b) rfl (congrArg (Value.int .u64) (wu (by omega) (by omega))) ?_
    refine Pw.re (d := 67) (v' := rsV rs (A', c')) rfl (by rw [e]; show Value.slice A' l.length c' = Value.slice A' rs.length c'; rw [hrl]) ?_
    refine Pw.list (Pw.call (pTurn_ct (D := 840 * D) (d := 36) (b := 7) b rs (A', c') hrw hrlen (by omega) (fun _ => by rw [hrq2]; exact hT2)) rfl rfl rfl (by kernel_rfl) rfl rfl (fun w h => (hv w h)) ?_)
    rintro ⟨P2, ⟨A2, c2⟩, e2⟩ hPb
    unfold TurnP at hPb
    rw [hbad2, if_neg (by simp), hrq2] at hPb
    obtain ⟨h2, u, hlev2, hub, hP2⟩ := hPb
    dsimp only at h2 hP2
    subst h2
    obtain ⟨hvu, hlev3⟩ := lev_again hlev hlev2
    have huz := hT2.sz hub
    have hP2l : P2.length = l.length := by have := congrArg List.length hP2; rw [List.length_map] at this; rw [this]; simp [outT]
    repeat (first | (with_reducible first | refine Pw.seq ?_ | refine Pw.region ?_ | refine Pw.nil ?_ | refine Pw.then_ ?_ | refine Pw.skip ?_ | refine Pw.block ?_ | refine Pw.exit ?_ | refine Pw.inX ?_ | refine Pw.inN ?_ | refine Pw.inR ?_ | refine Pw.thenX ?_ | refine Pw.thenR ?_ | refine Pw.ret ?_) | refine Pw.list (Pw.pure rfl rfl rfl ?_) | refine Pw.inY rfl ?_ | refine Pw.list (Pw.off rfl rfl ?_) | refine Pw.condT rfl ?_ | refine Pw.condF rfl ?_ | refine Pw.list (Pw.box rfl rfl rfl rfl (fun _ => ?_)) | refine Pw.list (Pw.alloc rfl rfl rfl rfl rfl (fun _ => ?_)) | refine Pw.list (Pw.build rfl rfl rfl rfl ?_) | refine Pw.list (Pw.ld rfl inferInstance rfl rfl rfl ?_) | refine Pw.list (Pw.sto rfl rfl inferInstance rfl rfl rfl rfl rfl inferInstance rfl ?_))
    refine Pw.re (d := 73) (v' := .int .u64 a) rfl (congrArg (Value.int .u64) (wu (by omega) (by omega))) ?_
    refine Pw.re (d := 75) (v' := .int .u64 b) rfl (congrArg (Value.int .u64) (wu (by omega) (by omega))) ?_
    refine Pw.re (d := 76) (v' := .int .u64 (a + b)) rfl (congrArg (Value.int .u64) (by rw [wu (n := a) (by omega) (by omega), wu (n := b) (by omega) (by omega), wu (by omega) (by omega)])) ?_
    refine Pw.list (Pw.call (btheirs_ct l (A, c) (by omega)) rfl rfl rfl (by kernel_rfl) rfl rfl (fun w h => (hv w h)) ?_)
    intro z3 _
    repeat (first | (with_reducible first | refine Pw.seq ?_ | refine Pw.region ?_ | refine Pw.nil ?_ | refine Pw.then_ ?_ | refine Pw.skip ?_ | refine Pw.block ?_ | refine Pw.exit ?_ | refine Pw.inX ?_ | refine Pw.inN ?_ | refine Pw.inR ?_ | refine Pw.thenX ?_ | refine Pw.thenR ?_ | refine Pw.ret ?_) | refine Pw.list (Pw.pure rfl rfl rfl ?_) | refine Pw.inY rfl ?_ | refine Pw.list (Pw.off rfl rfl ?_) | refine Pw.condT rfl ?_ | refine Pw.condF rfl ?_ | refine Pw.list (Pw.box rfl rfl rfl rfl (fun _ => ?_)) | refine Pw.list (Pw.alloc rfl rfl rfl rfl rfl (fun _ => ?_)) | refine Pw.list (Pw.build rfl rfl rfl rfl ?_) | refine Pw.list (Pw.ld rfl inferInstance rfl rfl rfl ?_) | refine Pw.list (Pw.sto rfl rfl inferInstance rfl rfl rfl rfl rfl inferInstance rfl ?_))
    refine Pw.list (Pw.call (pTurn_ct (a + b) l z3 hw hlens (by omega) (fun _ => hT3)) rfl rfl rfl (by kernel_rfl) rfl rfl (fun w h => (hv w h)) ?_)
    rintro ⟨P3, ⟨A3, c3'⟩, e3⟩ hPc
    unfold TurnP at hPc
    rw [hbad, if_neg (by simp)] at hPc
    obtain ⟨h2, u', hlev4, hub', hP3⟩ := hPc
    dsimp only at h2 hP3
    subst h2
    rw [Rat.intCast_add] at hlev4
    obtain rfl : u' = u := lev_uniq hlev4 hlev3
    have hP3l : P3.length = l.length := by have := congrArg List.length hP3; rw [List.length_map] at this; rw [this]; simp [outT]
    repeat (first | (with_reducible first | refine Pw.seq ?_ | refine Pw.region ?_ | refine Pw.nil ?_ | refine Pw.then_ ?_ | refine Pw.skip ?_ | refine Pw.block ?_ | refine Pw.exit ?_ | refine Pw.inX ?_ | refine Pw.inN ?_ | refine Pw.inR ?_ | refine Pw.thenX ?_ | refine Pw.thenR ?_ | refine Pw.ret ?_) | refine Pw.list (Pw.pure rfl rfl rfl ?_) | refine Pw.inY rfl ?_ | refine Pw.list (Pw.off rfl rfl ?_) | refine Pw.condT rfl ?_ | refine Pw.condF rfl ?_ | refine Pw.list (Pw.box rfl rfl rfl rfl (fun _ => ?_)) | refine Pw.list (Pw.alloc rfl rfl rfl rfl rfl (fun _ => ?_)) | refine Pw.list (Pw.build rfl rfl rfl rfl ?_) | refine Pw.list (Pw.ld rfl inferInstance rfl rfl rfl ?_) | refine Pw.list (Pw.sto rfl rfl inferInstance rfl rfl rfl rfl rfl inferInstance rfl ?_))
    refine Pw.re (d := 94) (v' := .bool false) rfl (congrArg Value.bool (decide_eq_false (fun h => h (by show (P2.length : Int) = (P3.length : Int); rw [hP2l, hP3l])))) ?_
    repeat (first | (with_reducible first | refine Pw.seq ?_ | refine Pw.region ?_ | refine Pw.nil ?_ | refine Pw.then_ ?_ | refine Pw.skip ?_ | refine Pw.block ?_ | refine Pw.exit ?_ | refine Pw.inX ?_ | refine Pw.inN ?_ | refine Pw.inR ?_ | refine Pw.thenX ?_ | refine Pw.thenR ?_ | refine Pw.ret ?_) | refine Pw.list (Pw.pure rfl rfl rfl ?_) | refine Pw.inY rfl ?_ | refine Pw.list (Pw.off rfl rfl ?_) | refine Pw.condT rfl ?_ | refine Pw.condF rfl ?_ | refine Pw.list (Pw.box rfl rfl rfl rfl (fun _ => ?_)) | refine Pw.list (Pw.alloc rfl rfl rfl rfl rfl (fun _ => ?_)) | refine Pw.list (Pw.build rfl rfl rfl rfl ?_) | refine Pw.list (Pw.ld rfl inferInstance rfl rfl rfl ?_) | refine Pw.list (Pw.sto rfl rfl inferInstance rfl rfl rfl rfl rfl inferInstance rfl ?_))
    refine Pw.facts (G' := [RS P3 (A3, c3'), RS P2 (A2, c2), RS rs (A', c'), RS P1 (A1, c1), RS l (A, c)]) (fun w h => allCons (hv w h) (allCons (hv w h) (allCons (hv w h) (allCons (hv w h) (allCons (hv w h) allNil))))) ?_
    refine Pw.re (d := 96) (v' := .int .i64 l.length) rfl (by rw [hP3l]) ?_
    refine Pw.loopJ (σ := Nat) (fun t => t ≤ l.length) (fun t => ⟨[(7, rsV P1 (A1, c1)), (13, rsV P2 (A2, c2)), (15, rsV P3 (A3, c3')), (96, .int .i64 l.length), (97, .int .i64 t)], [], [RS P3 (A3, c3'), RS P2 (A2, c2), RS rs (A', c'), RS P1 (A1, c1), RS l (A, c)]⟩) (fun t => l.length - t) 0 (Nat.zero_le _) (Pw.enter ⟨rfl, rfl, rfl, rfl, rfl, trivial⟩ (fun w h => h)) ?_
    clear hi c3 hqo
    rintro i hi
    dsimp only at hi ⊢
    repeat (first | (with_reducible first | refine Pw.seq ?_ | refine Pw.region ?_ | refine Pw.nil ?_ | refine Pw.then_ ?_ | refine Pw.skip ?_ | refine Pw.block ?_ | refine Pw.exit ?_ | refine Pw.inX ?_ | refine Pw.inN ?_ | refine Pw.inR ?_ | refine Pw.thenX ?_ | refine Pw.thenR ?_ | refine Pw.ret ?_) | refine Pw.list (Pw.pure rfl rfl rfl ?_) | refine Pw.inY rfl ?_ | refine Pw.list (Pw.off rfl rfl ?_) | refine Pw.condT rfl ?_ | refine Pw.condF rfl ?_ | refine Pw.list (Pw.box rfl rfl rfl rfl (fun _ => ?_)) | refine Pw.list (Pw.alloc rfl rfl rfl rfl rfl (fun _ => ?_)) | refine Pw.list (Pw.build rfl rfl rfl rfl ?_) | refine Pw.list (Pw.ld rfl inferInstance rfl rfl rfl ?_) | refine Pw.list (Pw.sto rfl rfl inferInstance rfl rfl rfl rfl rfl inferInstance rfl ?_))
    refine Pw.condD rfl (fun c3 => ?_) (fun c3 => ?_)
    · obtain ⟨s, hsi, hsm⟩ := get_at (show i < l.length by omega)
      have hsr : (l.map rq)[i]? = some (rq s) := by rw [List.getElem?_map, hsi]; rfl
      have hsrm := List.mem_of_getElem? hsr
      obtain ⟨yo, hoi⟩ := outT_at hP1 hsi
      obtain ⟨yb, hbi⟩ := outT_at hP3 hsi
      obtain ⟨r, hri, hrm⟩ := get_at (show i < rs.length by omega)
      have hrr : rq r = up v (rq s) := by
        have h1 : (rs.map rq)[i]? = some (rq r) := by rw [List.getElem?_map, hri]; rfl
        rw [hrq2, List.getElem?_map, hsr] at h1
        exact (Option.some.inj h1).symm
      obtain ⟨y2, h2i⟩ := outT_at (l := rs) (by rw [hrq2]; exact hP2) hri
      rw [hrr] at h2i
      have hoz := hTq.sz (hTq.gn hvb hsrm)
      have h2z := hT2.sz (hT2.gn hub (List.mem_map_of_mem (f := up v) hsrm))
      have hbz := hT3.sz (hT3.gn hub' hsrm)
      have hsum := gn_again (s := rq s) hvu
      obtain ⟨o, ho⟩ : ∃ o, o = gn v (rq s) := ⟨_, rfl⟩
      obtain ⟨o2, ho2⟩ : ∃ o, o = gn u' (up v (rq s)) := ⟨_, rfl⟩
      obtain ⟨ob, hob⟩ : ∃ o, o = gn u' (rq s) := ⟨_, rfl⟩
      rw [← ho, ← ho2, ← hob] at hsum
      rw [← ho] at hoi hoz
      rw [← ho2] at h2i h2z
      rw [← hob] at hbi hbz
      have hi0 : 0 ≤ (i : Int) := Int.natCast_nonneg i
      have hi1 : (i : Int) < (P1.length : Int) := by omega
      have hi2 : (i : Int) < (P2.length : Int) := by omega
      have hi3 : (i : Int) < (P3.length : Int) := by omega
      refine Pw.use (p := A1.isSome = true) (fun w h => (hv w h : RS P1 (A1, c1) w).has hi0 hi1) (fun hB => ?_)
      refine Pw.use (p := A2.isSome = true) (fun w h => (hv w h : RS P2 (A2, c2) w).has hi0 hi2) (fun hC => ?_)
      refine Pw.use (p := A3.isSome = true) (fun w h => (hv w h : RS P3 (A3, c3') w).has hi0 hi3) (fun hA => ?_)
      obtain ⟨bd, rfl⟩ := Option.isSome_iff_exists.1 hB
      obtain ⟨cd, rfl⟩ := Option.isSome_iff_exists.1 hC
      obtain ⟨ad, rfl⟩ := Option.isSome_iff_exists.1 hA
      refine Pw.more (φ := QW o yo) (fun w h => ((hv w h : RS P1 (some bd, c1) w).at hoi).2.1) ?_
      refine Pw.more (φ := QW o2 y2) (fun w h => ((hv w h : RS P2 (some cd, c2) w).at h2i).2.1) ?_
      refine Pw.more (φ := QW ob yb) (fun w h => ((hv w h : RS P3 (some ad, c3') w).at hbi).2.1) ?_
      repeat (first | (with_reducible first | refine Pw.seq ?_ | refine Pw.region ?_ | refine Pw.nil ?_ | refine Pw.then_ ?_ | refine Pw.skip ?_ | refine Pw.block ?_ | refine Pw.exit ?_ | refine Pw.inX ?_ | refine Pw.inN ?_ | refine Pw.inR ?_ | refine Pw.thenX ?_ | refine Pw.thenR ?_ | refine Pw.ret ?_) | refine Pw.list (Pw.pure rfl rfl rfl ?_) | refine Pw.inY rfl ?_ | refine Pw.list (Pw.off rfl rfl ?_) | refine Pw.condT rfl ?_ | refine Pw.condF rfl ?_ | refine Pw.list (Pw.box rfl rfl rfl rfl (fun _ => ?_)) | refine Pw.list (Pw.alloc rfl rfl rfl rfl rfl (fun _ => ?_)) | refine Pw.list (Pw.build rfl rfl rfl rfl ?_) | refine Pw.list (Pw.ld rfl inferInstance rfl rfl rfl ?_) | refine Pw.list (Pw.sto rfl rfl inferInstance rfl rfl rfl rfl rfl inferInstance rfl ?_))
      refine Pw.drawnG mixed rfl rfl ?_
      refine Pw.takeP 0 (nb 15 1) rfl rfl rfl rfl (by kernel_rfl) np sf ?_
      refine Pw.takeP 1 (nb 15 3) rfl rfl rfl rfl (by kernel_rfl) np sf ?_
      refine Pw.takeIx 2 (nb 15 7) rfl rfl rfl rfl rfl (by first | assumption | omega) (by first | assumption | omega) rfl rfl (by kernel_rfl) np sf ?_
      refine Pw.takeLA ⟨qn o,qd o,yo⟩ 3 (nb 15 15) rfl rfl inferInstance rfl (by first | assumption | (rw [Int.toNat_natCast]; assumption)) (by kernel_rfl) rfl rfl (by kernel_rfl) np sf ?_
      refine Pw.takeP 4 (nb 15 31) rfl rfl rfl rfl (by kernel_rfl) np sf ?_
      refine Pw.takeP 5 (nb 15 63) rfl rfl rfl rfl (by kernel_rfl) np sf ?_
      refine Pw.takeIx 6 (nb 15 127) rfl rfl rfl rfl rfl (by first | assumption | omega) (by first | assumption | omega) rfl rfl (by kernel_rfl) np sf ?_
      refine Pw.takeLA ⟨qn o2,qd o2,y2⟩ 7 (nb 15 255) rfl rfl inferInstance rfl (by first | assumption | (rw [Int.toNat_natCast]; assumption)) (by kernel_rfl) rfl rfl (by kernel_rfl) np sf ?_
      refine Pw.two 8 12 (nb 15 511) (nb 15 4351) rfl rfl (by kernel_rfl) ?_ ?_
      · skip
        refine Pw.call (qAdd_ct hoz h2z yo y2 (by omega)) rfl rfl rfl (by kernel_rfl) rfl rfl (fun w h => ⟨(hv w h), (hv w h)⟩) ?_
        intro z18 _
        rw [← hsum]
        refine Pw.held sf ?_
        refine Pw.takeP 9 (nb 15 1023) rfl rfl rfl rfl (by kernel_rfl) np sf ?_
        refine Pw.takeP 10 (nb 15 2047) rfl rfl rfl rfl (by kernel_rfl) np sf ?_
        refine Pw.takeP 11 (nb 15 4095) rfl rfl rfl rfl (by kernel_rfl) np sf ?_
        refine Pw.one 12 (nb 15 8191) rfl (by kernel_rfl) ?_
        refine Pw.alloc rfl rfl rfl rfl rfl (fun g18 => ?_)
        refine Pw.held sf ?_
        refine Pw.one 13 (nb 15 16383) rfl (by kernel_rfl) ?_
        refine Pw.sto rfl rfl inferInstance rfl rfl rfl rfl rfl inferInstance rfl ?_
        refine Pw.held sf ?_
        refine Pw.takeP 14 (nb 15 32767) rfl rfl rfl rfl (by kernel_rfl) np sf ?_
        refine Pw.done (by kernel_rfl) ?_
        refine freeHead ?_
        repeat (first | (with_reducible first | refine Pw.seq ?_ | refine Pw.region ?_ | refine Pw.nil ?_ | refine Pw.then_ ?_ | refine Pw.skip ?_ | refine Pw.block ?_ | refine Pw.exit ?_ | refine Pw.inX ?_ | refine Pw.inN ?_ | refine Pw.inR ?_ | refine Pw.thenX ?_ | refine Pw.thenR ?_ | refine Pw.ret ?_) | refine Pw.list (Pw.pure rfl rfl rfl ?_) | refine Pw.inY rfl ?_ | refine Pw.list (Pw.off rfl rfl ?_) | refine Pw.condT rfl ?_ | refine Pw.condF rfl ?_ | refine Pw.list (Pw.box rfl rfl rfl rfl (fun _ => ?_)) | refine Pw.list (Pw.alloc rfl rfl rfl rfl rfl (fun _ => ?_)) | refine Pw.list (Pw.build rfl rfl rfl rfl ?_) | refine Pw.list (Pw.ld rfl inferInstance rfl rfl rfl ?_) | refine Pw.list (Pw.sto rfl rfl inferInstance rfl rfl rfl rfl rfl inferInstance rfl ?_))
        refine Pw.drawnG mixed rfl rfl ?_
        refine Pw.takeF 0 (nb 7 1) rfl rfl inferInstance rfl rfl rfl (by kernel_rfl) np sf ?_
        refine Pw.takeP 1 (nb 7 3) rfl rfl rfl rfl (by kernel_rfl) np sf ?_
        refine Pw.takeP 2 (nb 7 7) rfl rfl rfl rfl (by kernel_rfl) np sf ?_
        refine Pw.takeIx 3 (nb 7 15) rfl rfl rfl rfl rfl (by first | assumption | omega) (by first | assumption | omega) rfl rfl (by kernel_rfl) np sf ?_
        refine Pw.takeLA ⟨qn ob,qd ob,yb⟩ 4 (nb 7 31) rfl rfl inferInstance rfl (by first | assumption | (rw [Int.toNat_natCast]; assumption)) (by kernel_rfl) rfl rfl (by kernel_rfl) np sf ?_
        refine Pw.one 5 (nb 7 63) rfl (by kernel_rfl) ?_
        -- call Op.call { callee := Callee.value (Operand.func 11), args := #[Operand.tmp 112, Operand.tmp 116], argTypes := #[34, 34] }
        refine Pw.call (qCmp_ct hbz hbz z18 yb (by omega)) rfl rfl rfl (by kernel_rfl) rfl rfl (fun w h => ⟨(hv w h), (hv w h)⟩) ?_
        intro _ _
        refine Pw.held sf ?_
        refine Pw.takeP 6 (nb 7 127) rfl rfl rfl rfl (by kernel_rfl) np sf ?_
        refine Pw.done (by kernel_rfl) ?_
        refine Pw.re (d := 118) (v' := .bool false) rfl (congrArg Value.bool (decide_eq_false (fun h => h (cmpQ_zero.2 rfl)))) ?_
        repeat (first | (with_reducible first | refine Pw.seq ?_ | refine Pw.region ?_ | refine Pw.nil ?_ | refine Pw.then_ ?_ | refine Pw.skip ?_ | refine Pw.block ?_ | refine Pw.exit ?_ | refine Pw.inX ?_ | refine Pw.inN ?_ | refine Pw.inR ?_ | refine Pw.thenX ?_ | refine Pw.thenR ?_ | refine Pw.ret ?_) | refine Pw.list (Pw.pure rfl rfl rfl ?_) | refine Pw.inY rfl ?_ | refine Pw.list (Pw.off rfl rfl ?_) | refine Pw.condT rfl ?_ | refine Pw.condF rfl ?_ | refine Pw.list (Pw.box rfl rfl rfl rfl (fun _ => ?_)) | refine Pw.list (Pw.alloc rfl rfl rfl rfl rfl (fun _ => ?_)) | refine Pw.list (Pw.build rfl rfl rfl rfl ?_) | refine Pw.list (Pw.ld rfl inferInstance rfl rfl rfl ?_) | refine Pw.list (Pw.sto rfl rfl inferInstance rfl rfl rfl rfl rfl inferInstance rfl ?_))
        refine Pw.re (d := 97) (v' := .int .i64 ((i + 1 : Nat) : Int)) rfl (congrArg (Value.int .i64) (i64s (n := 100000) (by omega) (by omega))) ?_
        exact Pw.again (i + 1) (by omega) (by show l.length - (i + 1) < l.length - i; omega) ⟨rfl, rfl, rfl, rfl, rfl, trivial⟩ rfl (fun w h => allCons (hv w h) (allCons (hv w h) (allCons (hv w h) (allCons (hv w h) (allCons (hv w h) allNil)))))
      · skip
        refine Pw.alloc rfl rfl rfl rfl rfl (fun g18 => ?_)
        refine Pw.held sf ?_
        refine Pw.one 8 (nb 15 4607) rfl (by kernel_rfl) ?_
        refine Pw.call (qAdd_ct hoz h2z yo y2 (by omega)) rfl rfl rfl (by kernel_rfl) rfl rfl (fun w h => ⟨(hv w h), (hv w h)⟩) ?_
        intro z18 _
        rw [← hsum]
        refine Pw.held sf ?_
        refine Pw.takeP 9 (nb 15 5119) rfl rfl rfl rfl (by kernel_rfl) np sf ?_
        refine Pw.takeP 10 (nb 15 6143) rfl rfl rfl rfl (by kernel_rfl) np sf ?_
        refine Pw.takeP 11 (nb 15 8191) rfl rfl rfl rfl (by kernel_rfl) np sf ?_
        refine Pw.one 13 (nb 15 16383) rfl (by kernel_rfl) ?_
        refine Pw.sto rfl rfl inferInstance rfl rfl rfl rfl rfl inferInstance rfl ?_
        refine Pw.held sf ?_
        refine Pw.takeP 14 (nb 15 32767) rfl rfl rfl rfl (by kernel_rfl) np sf ?_
        refine Pw.done (by kernel_rfl) ?_
        refine freeHead ?_
        repeat (first | (with_reducible first | refine Pw.seq ?_ | refine Pw.region ?_ | refine Pw.nil ?_ | refine Pw.then_ ?_ | refine Pw.skip ?_ | refine Pw.block ?_ | refine Pw.exit ?_ | refine Pw.inX ?_ | refine Pw.inN ?_ | refine Pw.inR ?_ | refine Pw.thenX ?_ | refine Pw.thenR ?_ | refine Pw.ret ?_) | refine Pw.list (Pw.pure rfl rfl rfl ?_) | refine Pw.inY rfl ?_ | refine Pw.list (Pw.off rfl rfl ?_) | refine Pw.condT rfl ?_ | refine Pw.condF rfl ?_ | refine Pw.list (Pw.box rfl rfl rfl rfl (fun _ => ?_)) | refine Pw.list (Pw.alloc rfl rfl rfl rfl rfl (fun _ => ?_)) | refine Pw.list (Pw.build rfl rfl rfl rfl ?_) | refine Pw.list (Pw.ld rfl inferInstance rfl rfl rfl ?_) | refine Pw.list (Pw.sto rfl rfl inferInstance rfl rfl rfl rfl rfl inferInstance rfl ?_))
        refine Pw.drawnG mixed rfl rfl ?_
        refine Pw.takeF 0 (nb 7 1) rfl rfl inferInstance rfl rfl rfl (by kernel_rfl) np sf ?_
        refine Pw.takeP 1 (nb 7 3) rfl rfl rfl rfl (by kernel_rfl) np sf ?_
        refine Pw.takeP 2 (nb 7 7) rfl rfl rfl rfl (by kernel_rfl) np sf ?_
        refine Pw.takeIx 3 (nb 7 15) rfl rfl rfl rfl rfl (by first | assumption | omega) (by first | assumption | omega) rfl rfl (by kernel_rfl) np sf ?_
        refine Pw.takeLA ⟨qn ob,qd ob,yb⟩ 4 (nb 7 31) rfl rfl inferInstance rfl (by first | assumption | (rw [Int.toNat_natCast]; assumption)) (by kernel_rfl) rfl rfl (by kernel_rfl) np sf ?_
        refine Pw.one 5 (nb 7 63) rfl (by kernel_rfl) ?_
        -- call Op.call { callee := Callee.value (Operand.func 11), args := #[Operand.tmp 112, Operand.tmp 116], argTypes := #[34, 34] }
        refine Pw.call (qCmp_ct hbz hbz z18 yb (by omega)) rfl rfl rfl (by kernel_rfl) rfl rfl (fun w h => ⟨(hv w h), (hv w h)⟩) ?_
        intro _ _
        refine Pw.held sf ?_
        refine Pw.takeP 6 (nb 7 127) rfl rfl rfl rfl (by kernel_rfl) np sf ?_
        refine Pw.done (by kernel_rfl) ?_
        refine Pw.re (d := 118) (v' := .bool false) rfl (congrArg Value.bool (decide_eq_false (fun h => h (cmpQ_zero.2 rfl)))) ?_
        repeat (first | (with_reducible first | refine Pw.seq ?_ | refine Pw.region ?_ | refine Pw.nil ?_ | refine Pw.then_ ?_ | refine Pw.skip ?_ | refine Pw.block ?_ | refine Pw.exit ?_ | refine Pw.inX ?_ | refine Pw.inN ?_ | refine Pw.inR ?_ | refine Pw.thenX ?_ | refine Pw.thenR ?_ | refine Pw.ret ?_) | refine Pw.list (Pw.pure rfl rfl rfl ?_) | refine Pw.inY rfl ?_ | refine Pw.list (Pw.off rfl rfl ?_) | refine Pw.condT rfl ?_ | refine Pw.condF rfl ?_ | refine Pw.list (Pw.box rfl rfl rfl rfl (fun _ => ?_)) | refine Pw.list (Pw.alloc rfl rfl rfl rfl rfl (fun _ => ?_)) | refine Pw.list (Pw.build rfl rfl rfl rfl ?_) | refine Pw.list (Pw.ld rfl inferInstance rfl rfl rfl ?_) | refine Pw.list (Pw.sto rfl rfl inferInstance rfl rfl rfl rfl rfl inferInstance rfl ?_))
        refine Pw.re (d := 97) (v' := .int .i64 ((i + 1 : Nat) : Int)) rfl (congrArg (Value.int .i64) (i64s (n := 100000) (by omega) (by omega))) ?_
        exact Pw.again (i + 1) (by omega) (by show l.length - (i + 1) < l.length - i; omega) ⟨rfl, rfl, rfl, rfl, rfl, trivial⟩ rfl (fun w h => allCons (hv w h) (allCons (hv w h) (allCons (hv w h) (allCons (hv w h) (allCons (hv w h) allNil)))))
    · repeat (first | (with_reducible first | refine Pw.seq ?_ | refine Pw.region ?_ | refine Pw.nil ?_ | refine Pw.then_ ?_ | refine Pw.skip ?_ | refine Pw.block ?_ | refine Pw.exit ?_ | refine Pw.inX ?_ | refine Pw.inN ?_ | refine Pw.inR ?_ | refine Pw.thenX ?_ | refine Pw.thenR ?_ | refine Pw.ret ?_) | refine Pw.list (Pw.pure rfl rfl rfl ?_) | refine Pw.inY rfl ?_ | refine Pw.list (Pw.off rfl rfl ?_) | refine Pw.condT rfl ?_ | refine Pw.condF rfl ?_ | refine Pw.list (Pw.box rfl rfl rfl rfl (fun _ => ?_)) | refine Pw.list (Pw.alloc rfl rfl rfl rfl rfl (fun _ => ?_)) | refine Pw.list (Pw.build rfl rfl rfl rfl ?_) | refine Pw.list (Pw.ld rfl inferInstance rfl rfl rfl ?_) | refine Pw.list (Pw.sto rfl rfl inferInstance rfl rfl rfl rfl rfl inferInstance rfl ?_))
      exact Pw.ret_ (x := ()) (.tmp rfl .nil) rfl trivial (fun w h => by trivial)
end Go.Proofs.Wk
