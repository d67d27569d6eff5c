/- Two steps of a walk: a call of a function literal that lies in a slot, by its contract. No conditions beyond those that are written. -/
import Derived.Test.YtapmhmkekkhhpaaWWords
import Derived.Test.YtapmhmkekkhhpaaWLast
import Derived.Test.YtapmhmkekkhhpaaWMore
import Derived.Test.YtapmhmkekkhhpaaWFoot
import Derived.Test.YtapmhmkekkhhpaaWShare
import Derived.WalkSpells
namespace Go.Proofs.YtapmhmkekkhhpaaW.PrintMore
open Go.RowKit Go.Proofs.YtapmhmkekkhhpaaW.PrintWords Go.Proofs.YtapmhmkekkhhpaaW.PrintLast
/-- A row of whole numbers that is read: whatever leaves all that was there unturned leaves it. -/
theorem F_all {k : IntKind} {w : World} {A : Option Addr} {n : Nat} {xs : List Int} (h : Kd.C (Kd.int k) w A n xs) : Kd.F (Kd.int k) w (fun _ => True) A n xs :=
  fun _ hW => (Kd.heap_int k).C (fun j hj => hW j trivial hj) h
/-- A reading, its length spelled otherwise. -/
theorem rr_len {α : Type} {R : α → List Value → Prop} {s : Nat} {w : World} {A : Option Addr} {n m : Nat} {xs : List α} (h : n = m) (h' : ReadsRow R s w A n xs) : ReadsRow R s w A m xs := h ▸ h'
section
variable {P : Program} {ops : Array Oper} {rest : List Oper} {o : Oper} {a : Act} {Q : Exit → Act → World → Prop} {W : World}
/-- The operation is a call of what lies in this slot. -/
theorem gate_callee_tmp {t : Nat} {as : Array Operand} {ts : Array TypeId} (_ho : o.op = .call { callee := .value (.tmp t), args := as, argTypes := ts }) (h : wpList P ops Q (o :: rest) a W) : wpList P ops Q (o :: rest) a W := h
/-- A call of what lies in a slot, a literal without captures, in a plain region. -/
theorem goesV_ {t : Nat} {rest : List Oper} {oi : Oper} {a : Act} {w : World} (N : Option Tmp) (hd : oi.dst = N) (hg : oi.guard = none) {f : FuncId} {fn : Func} {as : Array Operand} {ts : Array TypeId} (hf : P.funcs[f]? = some fn) (hname : (fn.name == "runtime.NumGoroutine") = false) (hb : fn.body.isSome = true) (args : Array Value)
    (hop : oi.op = .call { callee := .value (.tmp t), args := as, argTypes := ts }) (hx : a.tmps.getD t undef = .func (.func f) #[] #[]) (hargs : as.map a.eval = args)
    (h : Calls P f args w fun e w' => ∃ v, e = .returned v ∧ wpList P ops Q rest (a.put N v) w') : wpList P ops Q (oi :: rest) a w := by
  refine wpList_plain hg fun K hK => ?_
  have he := enters_ hf hname hb args w
  have hrun : (execOp a.eval oi).run P w = .ok (.enter f args) w := by
    unfold execOp
    simp [hop, resolve, Deferred.ofValue, invoke, Act.eval, hargs, he, hx]
  unfold Oper.wp
  rw [hrun, Oper.upon_enter]
  refine h.mono fun e w'' hh => ?_
  obtain ⟨v, rfl, hk⟩ := hh
  subst hd
  exact hK _ _ hk
end
end Go.Proofs.YtapmhmkekkhhpaaW.PrintMore
