import Derived.Test.YtagnefbgclpccaaProg
import Derived.WalkKit
import Derived.WalkSpells
import Derived.WalkLawsBesides
import Derived.Outline
import Derived.Lib.Hide
import Derived.Deep.DeepFit
import Derived.Below
import Derived.Deep.QuietTactic
import Derived.BigQuiet
import Derived.Test.YtagnefbgclpccaaWWords
import Derived.Deep.RegionHeld3
namespace Go.Proofs.Ytagnefbgclpccaa.H
open Go.RowKit Go.Proofs.YtagnefbgclpccaaW.PrintWords
set_option linter.unusedVariables false

section
variable {P : Program} {ops : Array Oper} {Q : Exit → Act → World → Prop}
/-- A call of a function value that is known and has captured nothing. -/
theorem goesV_ {oi : Oper} {N : Option Tmp} {a : Act} {w : World} {K : Act → World → Prop} {f : FuncId} {fn : Func} {av : Array Operand} {ts : Array TypeId} {t : Tmp} (hf : P.funcs[f]? = some fn) (hname : (fn.name == "runtime.NumGoroutine") = false) (hb : fn.body.isSome = true) (args : Array Value)
    (hw : Region.wanted oi (yielded ops a.tmps) = true) (hN : oi.dst = N) (hop : oi.op = .call { callee := .value (.tmp t), args := av, argTypes := ts }) (hfn : a.eval (.tmp t) = .func (.func f) #[] #[]) (hargs : av.map a.eval = args)
    (h : Calls P f args w fun e w' => ∃ v, e = .returned v ∧ K (a.put N v) w') : if Region.wanted oi (yielded ops a.tmps) = true then Oper.wp P oi a w K Q else K (a.put N undef) w := by
  refine Go.Proofs.YtagnefbgclpccaaW.PrintLast.call_ f args hw hN ?_ h
  have he := Go.Proofs.YtagnefbgclpccaaW.PrintLast.enters_ hf hname hb args w
  unfold execOp
  simp [hop, resolve, Deferred.ofValue, invoke, hfn, hargs, he]
theorem goesVL_ {rest : List Oper} {oi : Oper} {a : Act} {w : World} (N : Option Tmp) (hd : oi.dst = N) (hg : oi.guard = none) {f : FuncId} {fn : Func} {av : Array Operand} {ts : Array TypeId} {t : Tmp} (hf : P.funcs[f]? = some fn) (hname : (fn.name == "runtime.NumGoroutine") = false) (hb : fn.body.isSome = true) (args : Array Value)
    (hop : oi.op = .call { callee := .value (.tmp t), args := av, argTypes := ts }) (hfn : a.eval (.tmp t) = .func (.func f) #[] #[]) (hargs : av.map a.eval = args)
    (h : Calls P f args w fun e w' => ∃ v, e = .returned v ∧ wpList P ops Q rest (a.put N v) w') : wpList P ops Q (oi :: rest) a w := by
  refine wpList_plain hg fun K hK => ?_
  have he := Go.Proofs.YtagnefbgclpccaaW.PrintLast.enters_ hf hname hb args w
  have hrun : (execOp a.eval oi).run P w = .ok (.enter f args) w := by
    unfold execOp
    simp [hop, resolve, Deferred.ofValue, invoke, hfn, hargs, he]
  unfold Oper.wp
  rw [hrun, Oper.upon_enter]
  refine h.mono fun e w'' hh => ?_
  obtain ⟨v, rfl, hk⟩ := hh
  subst hd
  exact hK _ _ hk
/-- The operation calls this function value. -/
theorem gateV_ {f : FuncId} {rest : List Oper} {o : Oper} {a : Act} {W : World} {t : Tmp} {av : Array Operand} {ts : Array TypeId} (_ho : o.op = .call { callee := .value (.tmp t), args := av, argTypes := ts }) (_hfn : a.eval (.tmp t) = .func (.func f) #[] #[]) (h : wpList P ops Q (o :: rest) a W) : wpList P ops Q (o :: rest) a W := h
end

/-- The length of a month as the program's table has it, other than a leap year's second. -/
def mlen (m : Int) : Int := if m = 2 then 28 else if m = 4 then 30 else if m = 6 then 30 else if m = 9 then 30 else if m = 11 then 30 else 31

end Go.Proofs.Ytagnefbgclpccaa.H
