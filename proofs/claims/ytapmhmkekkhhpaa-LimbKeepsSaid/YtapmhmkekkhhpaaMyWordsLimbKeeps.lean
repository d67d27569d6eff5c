/- Two steps of a walk: a call of a function literal that lies in a slot, by its contract. No conditions beyond those that are written. -/
import Derived.Test.YtapmhmkekkhhpaaVLimbKeeps
import Derived.WalkSpells
import Derived.RegionTactic
import Derived.BigRegion
import Derived.Deep.RegionHeld3
namespace Go.Proofs.YtapmhmkekkhhpaaW.PrintMore
open Go.RowKit Go.Proofs.YtapmhmkekkhhpaaW.PrintWords Go.Proofs.YtapmhmkekkhhpaaW.PrintLast
set_option linter.unusedVariables false
set_option linter.unusedSimpArgs false
/-- A row that is read and has an element lies in a block of its footprint. -/
theorem V_blk {α : Type} [Inhabited α] {d : Kd α} {e base n c : Nat} {W : World} {ok : Nat → Prop} {ad : Addr} {xs : List α} (hs : 0 < d.sz) (h : Kd.V d e W base ok (.slice (some ad) n c) xs) (hn : 0 < xs.length) : ok ad.block := by
  refine Classical.byContradiction fun hno => ?_
  have hC := (Kd.V_at h).2.2 { W with heap := W.heap.setIfInBounds ad.block (.deferred none) } (fun k hk _ => by
    have : ad.block ≠ k := fun e_ => hno (e_ ▸ hk)
    simp [Array.getElem?_setIfInBounds, this])
  obtain ⟨ad', cs, e1, hl, _, hc⟩ := Kd.C_get hC default 0 (by omega) (by omega)
  injection e1 with e1
  subst e1
  obtain ⟨u, hu⟩ : ∃ u, cs[0]? = some u := ⟨cs[0]'(by omega), by simp [hl, hs]⟩
  have h0 := hc 0 u hu
  have hb : (ad.add ((0 : Int).toNat * d.sz + 0)).block = ad.block := by unfold Go.Addr.add; split <;> rfl
  unfold World.cell? at h0
  rw [hb] at h0
  have hx : (W.heap.setIfInBounds ad.block (Obj.deferred none))[ad.block]? = if ad.block < W.heap.size then some (Obj.deferred none) else none := by simp [Array.getElem?_setIfInBounds]
  rw [hx] at h0
  by_cases hlt : ad.block < W.heap.size
  · rw [if_pos hlt] at h0; cases h0
  · rw [if_neg hlt] at h0; cases h0
theorem add_add_' (a : Addr) (m n : Nat) : a.add (m + n) = (a.add m).add n := by
  unfold Go.Addr.add
  by_cases hm : m = 0
  · subst hm; simp
  · by_cases hn : n = 0
    · subst hn; simp [hm]
    · rw [if_neg (by omega), if_neg hm, if_neg hn]; simp [Nat.add_assoc]
/-- Short names, for texts that would be too long for a claim. -/
theorem bA_ {w W : World} (h : Below w.heap.size w W) (o : Obj) : Below w.heap.size w (W.alloc o) := below_alloc h o
theorem bN_ {B : Nat} {w W : World} (h : Below B w W) (n : Nat) : Below B w (W.drewN n) := pw_below_drewN h n
theorem bD_ {base : Nat} {w W : World} (h : Below base w W) : Below base w W.drew := h.drew
theorem asd {p : Prop} (h : p) : Aside0 p := ⟨h⟩
/-- A row of whole numbers that is read: whatever leaves all that was there unturned leaves it. -/
theorem F_all {k : IntKind} {w : World} {A : Option Addr} {n : Nat} {xs : List Int} (h : Kd.C (Kd.int k) w A n xs) : Kd.F (Kd.int k) w (fun _ => True) A n xs :=
  fun _ hW => (Kd.heap_int k).C (fun j hj => hW j trivial hj) h
/-- A reading, its length spelled otherwise. -/
theorem rr_len {α : Type} {R : α → List Value → Prop} {s : Nat} {w : World} {A : Option Addr} {n m : Nat} {xs : List α} (h : n = m) (h' : ReadsRow R s w A n xs) : ReadsRow R s w A m xs := h ▸ h'
section
variable {k : IntKind} {e base N CAP g : Nat} {ok : Nat → Prop} {w : World} {pre xs post : List Int}
/-- A window of a row: its length stays. -/
theorem win_len {l0 : List Int} (hN : N = (pre ++ l0 ++ post).length) (h : Kd.R (Kd.int k) e w base ok (.slice (some ⟨g, 0, none⟩) N CAP) (pre ++ xs ++ post)) : l0.length = xs.length := by
  have h1 := (Kd.R_reads' h).1
  simp only [List.length_append] at h1 hN
  omega
theorem win_ge (h : Kd.R (Kd.int k) e w base ok (.slice (some ⟨g, 0, none⟩) N CAP) (pre ++ xs ++ post)) : base ≤ g := Kd.R_base h g rfl
/-- A window's cell. -/
theorem win_cell (h : Kd.R (Kd.int k) e w base ok (.slice (some ⟨g, 0, none⟩) N CAP) (pre ++ xs ++ post)) (i : Int) (h0 : 0 ≤ i) (h1 : i < (xs.length : Int)) :
    w.cell? ⟨g, pre.length + i.toNat, none⟩ = some (.int k (rd xs i)) ∧ w.frozen? ⟨g, pre.length + i.toNat, none⟩ = false := by
  have hN := (Kd.R_reads' h).1
  simp only [List.length_append] at hN
  have hc := Kd.R_celln (enc := Value.int k) (h1 := fun _ => rfl) (0 : Int) h ((pre.length : Int) + i) (by omega) (by omega)
  have hi : ((pre.length : Int) + i).toNat = pre.length + i.toNat := by omega
  have e1 : rdOf 0 (pre ++ xs ++ post) ((pre.length : Int) + i) = rd xs i := by
    unfold rdOf rd
    rw [hi, List.getD_eq_getElem?_getD, List.getD_eq_getElem?_getD, List.append_assoc, List.getElem?_append_right (by omega), List.getElem?_append_left (by omega)]
    congr 2; omega
  rw [hi, e1] at hc
  exact hc
theorem win_C (h : Kd.R (Kd.int k) e w base ok (.slice (some ⟨g, 0, none⟩) N CAP) (pre ++ xs ++ post)) : Kd.C (Kd.int k) w (some ⟨g, pre.length, none⟩) xs.length xs := by
  have hr := (Kd.R_reads' h)
  have hN := hr.1
  simp only [List.length_append] at hN
  refine ⟨rfl, by have := hr.2.2.2.1; simp only [List.length_append] at this; omega, fun hp => ⟨_, rfl, fun j p hj => ?_⟩⟩
  obtain ⟨hjl, hjp⟩ := List.getElem?_eq_some_iff.1 hj
  refine ⟨[.int k p], rfl, rfl, fun i u hu => ?_⟩
  obtain ⟨hil, hiu⟩ := List.getElem?_eq_some_iff.1 hu
  simp only [List.length_singleton] at hil
  obtain rfl : i = 0 := by omega
  simp only [List.getElem_singleton] at hiu
  subst hiu
  have hc := (win_cell h (j : Int) (by omega) (by omega)).1
  have e1 : rd xs (j : Int) = p := by unfold rd; rw [List.getD_eq_getElem?_getD, show ((j : Int)).toNat = j by omega, hj]; rfl
  rw [e1, show ((j : Int)).toNat = j by omega] at hc
  have e2 : (⟨g, pre.length, none⟩ : Addr).add (j * (Kd.int k).sz + 0) = ⟨g, pre.length + j, none⟩ := by
    rw [show j * (Kd.int k).sz + 0 = j from by show j * 1 + 0 = j; omega]
    unfold Addr.add; split <;> simp_all
  rw [e2]; exact hc
theorem win_room (h : Kd.R (Kd.int k) e w base ok (.slice (some ⟨g, 0, none⟩) N CAP) (pre ++ xs ++ post)) : xs.length ≤ CAP - pre.length := by
  have hr := (Kd.R_reads' h)
  have hN := hr.1
  have hC := hr.2.1
  simp only [List.length_append] at hN
  omega
theorem win_eq {v : Value} {ys : List Int} (h : Kd.R (Kd.int k) e w base ok v xs) (he : xs = ys) : Kd.R (Kd.int k) e w base ok v ys := he ▸ h
theorem win_pre {i : Nat} (h : pre.length = i) : (pre ++ xs ++ post).take i = pre := by rw [List.append_assoc, List.take_append_of_le_length (by omega), List.take_of_length_le (by omega)]
theorem win_mid {i m : Nat} (h : pre.length = i) (h' : xs.length = m) : ((pre ++ xs ++ post).drop i).take m = xs := by
  subst h; subst h'; simp
theorem win_post {i m : Nat} (h : pre.length = i) (h' : xs.length = m) : (pre ++ xs ++ post).drop (i + m) = post := by
  subst h; subst h'; rw [← List.length_append, List.drop_left]
theorem win_facts {u v : List Int} {i : Int} (h0 : 0 ≤ i) (h1 : i.toNat + (v.length + 1) ≤ u.length) :
    ∃ p m q : List Int, p = u.take i.toNat ∧ m = (u.drop i.toNat).take (v.length + 1) ∧ q = u.drop (i.toNat + (v.length + 1)) ∧ u = p ++ m ++ q ∧ p.length = i.toNat ∧ m.length = v.length + 1 ∧ 0 < u.length := by
  refine ⟨_, _, _, rfl, rfl, rfl, ?_, ?_, ?_, by omega⟩
  · rw [List.append_assoc, ← List.drop_drop, List.take_append_drop, List.take_append_drop]
  · rw [List.length_take]; omega
  · rw [List.length_take, List.length_drop]; omega
/-- 'u[i : i+len(v)+1]' -/
theorem win_cut {P : Program} (t e' : TypeId) {z : Option Value} {b : Nat} (ht : P.underlying t = some (.slice e')) (hinfo : (P.info? e').map (fun i => (i.zero, i.size, i.bytes)) = some (z, 1, b))
    (g n c pl ml m : Nat) (i : Int) (h0 : 0 ≤ i) (hpl : pl = i.toNat) (hml : ml = m + 1) (hlen : i.toNat + (m + 1) ≤ n) (hc : n ≤ c) (hn : n ≤ 9223372036854775807) :
    ∀ W : World, (Instr.slice t (.slice (some ⟨g, 0, none⟩) n c) (some (.int .i64 i)) (some (.int .i64 (wrap64 (wrap64 (i + (m : Int)) + 1)))) none).run P W = .ok (.slice (some ⟨g, pl, none⟩) ml (c - pl)) W := by
  intro W
  obtain ⟨i0, hi, hzz⟩ := Option.map_eq_some_iff.1 hinfo
  simp only [Prod.mk.injEq] at hzz
  have hw1 : wrap64 (i + (m : Int)) = i + (m : Int) := by unfold wrap64; omega
  have hw2 : wrap64 (i + (m : Int) + 1) = i + (m : Int) + 1 := by unfold wrap64; omega
  rw [hw1, hw2]
  have hel : P.elem t = e' := by simp [Program.elem, ht]
  have hu : P.underlying t = some (.slice (P.elem t)) := by rw [hel]; exact ht
  rw [run_slice_lh W t (some ⟨g, 0, none⟩) n c hu .i64 .i64 i (i + (m : Int) + 1) h0 (by omega) (by omega), hel]
  have e1 : (i + (m : Int) + 1).toNat - i.toNat = m + 1 := by omega
  have e2 : ¬ (c = i.toNat) := by omega
  subst hpl; subst hml
  simp [sizeOf, typeInfo, hi, hzz.2.1, sliced, Result.andThen, e1, e2, add_plain]
/-- A store into a window. -/
theorem win_put (h : Kd.R (Kd.int k) e w base ok (.slice (some ⟨g, 0, none⟩) N CAP) (pre ++ xs ++ post)) (i : Int) (h0 : 0 ≤ i) (h1 : i < (xs.length : Int)) (v : Int) :
    Kd.R (Kd.int k) e (w.setCell ⟨g, pre.length + i.toNat, none⟩ (.int k v)) base ok (.slice (some ⟨g, 0, none⟩) N CAP) (pre ++ xs.set i.toNat v ++ post) ∧ w.grownBy (w.setCell ⟨g, pre.length + i.toNat, none⟩ (.int k v)) (some g) := by
  have hp := Kd.R_putg (enc := Value.int k) (h1 := fun _ => rfl) h ((pre.length : Int) + i) v
  have hi : ((pre.length : Int) + i).toNat = pre.length + i.toNat := by omega
  have e1 : (pre ++ xs ++ post).set (pre.length + i.toNat) v = pre ++ xs.set i.toNat v ++ post := by
    rw [List.append_assoc, List.set_append_right _ _ (by omega), show pre.length + i.toNat - pre.length = i.toNat by omega, List.set_append_left _ _ (by omega), List.append_assoc]
  rw [hi, e1] at hp
  exact hp
end
section
variable {P : Program} {ops : Array Oper} {rest : List Oper} {o : Oper} {a : Act} {Q : Exit → Act → World → Prop} {W : World}
/-- The operation is a call of what lies in this slot. -/
theorem gate_callee_tmp {t : Nat} {as : Array Operand} {ts : Array TypeId} (_ho : o.op = .call { callee := .value (.tmp t), args := as, argTypes := ts }) (h : wpList P ops Q (o :: rest) a W) : wpList P ops Q (o :: rest) a W := h
/-- A call of what lies in a slot, a literal without captures, in a plain region. -/
theorem goesV_ {t : Nat} {rest : List Oper} {oi : Oper} {a : Act} {w : World} (N : Option Tmp) (hd : oi.dst = N) (hg : oi.guard = none) {f : FuncId} {fn : Func} {as : Array Operand} {ts : Array TypeId} (hf : P.funcs[f]? = some fn) (hname : (fn.name == "runtime.NumGoroutine") = false) (hb : fn.body.isSome = true) (args : Array Value)
    (hop : oi.op = .call { callee := .value (.tmp t), args := as, argTypes := ts }) (hx : a.tmps.getD t undef = .func (.func f) #[] #[]) (hargs : as.map a.eval = args)
    (h : Calls P f args w fun e w' => ∃ v, e = .returned v ∧ wpList P ops Q rest (a.put N v) w') : wpList P ops Q (oi :: rest) a w := by
  refine wpList_plain hg fun K hK => ?_
  have he := enters_ hf hname hb args w
  have hrun : (execOp a.eval oi).run P w = .ok (.enter f args) w := by
    unfold execOp
    simp [hop, resolve, Deferred.ofValue, invoke, Act.eval, hargs, he, hx]
  unfold Oper.wp
  rw [hrun, Oper.upon_enter]
  refine h.mono fun e w'' hh => ?_
  obtain ⟨v, rfl, hk⟩ := hh
  subst hd
  exact hK _ _ hk
end
theorem Kd.C_pre {α : Type} {d : Kd α} {w : World} {A : Option Addr} {xs : List α} (h : Kd.C d w A xs.length xs) (m : Nat) : Kd.C d w A (xs.take m).length (xs.take m) := by
  by_cases hm : m ≤ xs.length
  · exact Kd.C_take h hm
  · rw [List.take_of_length_le (by omega)]; exact h
end Go.Proofs.YtapmhmkekkhhpaaW.PrintMore
