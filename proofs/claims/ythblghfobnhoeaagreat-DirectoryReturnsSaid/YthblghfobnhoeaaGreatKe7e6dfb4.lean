import Derived.Test.YthblghfobnhoeaaGreatProg
import Derived.WalkKit
import Derived.WalkSpells
import Derived.WalkLawsBesides
import Derived.Outline
import Derived.Lib.Hide
import Derived.Deep.DeepFit
import Derived.Below
import Derived.Deep.QuietTactic
import Derived.BigQuiet
import Derived.Test.YthblghfobnhoeaaGreatKb3bee5da
import Derived.Deep.RegionHeld3
import Derived.Deep.Draws
import Derived.Deep.AppendLies
import Derived.Maps.AppendAt
import Derived.OwnWalk
import Derived.Laws.BytesArg
import Derived.Laws.MakeOwn
import Derived.Laws.OwnMore
import Derived.Deep.OwnRows
import Derived.Tactics
import Derived.Lib.ConvBytes
import Derived.Laws.Slices
import Derived.KernelRfl
import Derived.RowKit3
import Derived.Deep.LoopGhost
import Derived.WideLaws
import Derived.Deep.DeepCutAuto
import Derived.Deep.CutBlock
import Derived.Laws.Rows
import Derived.Lib.AppendStr
import Derived.ArgAppend
import Derived.Laws.IdiomCopy
import Derived.OrdersHeld
import Derived.Laws.BitsLemmas
import Derived.RowKit
import Derived.LoopN
import Derived.Deep.RegionWith
import Derived.Laws.Bits64
namespace Go.Proofs.YthblghfobnhoeaaGreat.H
open Go.RowKit Go.Proofs.YthblghfobnhoeaaGreatW.PrintWords
set_option linter.unusedVariables false

section
variable {P : Program} {ops : Array Oper} {Q : Exit → Act → World → Prop}
/-- A call of a function value that is known and has captured nothing. -/
theorem goesV_ {oi : Oper} {N : Option Tmp} {a : Act} {w : World} {K : Act → World → Prop} {f : FuncId} {fn : Func} {av : Array Operand} {ts : Array TypeId} {t : Tmp} (hf : P.funcs[f]? = some fn) (hname : (fn.name == "runtime.NumGoroutine") = false) (hb : fn.body.isSome = true) (args : Array Value)
    (hw : Region.wanted oi (yielded ops a.tmps) = true) (hN : oi.dst = N) (hop : oi.op = .call { callee := .value (.tmp t), args := av, argTypes := ts }) (hfn : a.eval (.tmp t) = .func (.func f) #[] #[]) (hargs : av.map a.eval = args)
    (h : Calls P f args w fun e w' => ∃ v, e = .returned v ∧ K (a.put N v) w') : if Region.wanted oi (yielded ops a.tmps) = true then Oper.wp P oi a w K Q else K (a.put N undef) w := by
  refine Go.Proofs.YthblghfobnhoeaaGreatW.PrintLast.call_ f args hw hN ?_ h
  have he := Go.Proofs.YthblghfobnhoeaaGreatW.PrintLast.enters_ hf hname hb args w
  unfold execOp
  simp [hop, resolve, Deferred.ofValue, invoke, hfn, hargs, he]
theorem goesVL_ {rest : List Oper} {oi : Oper} {a : Act} {w : World} (N : Option Tmp) (hd : oi.dst = N) (hg : oi.guard = none) {f : FuncId} {fn : Func} {av : Array Operand} {ts : Array TypeId} {t : Tmp} (hf : P.funcs[f]? = some fn) (hname : (fn.name == "runtime.NumGoroutine") = false) (hb : fn.body.isSome = true) (args : Array Value)
    (hop : oi.op = .call { callee := .value (.tmp t), args := av, argTypes := ts }) (hfn : a.eval (.tmp t) = .func (.func f) #[] #[]) (hargs : av.map a.eval = args)
    (h : Calls P f args w fun e w' => ∃ v, e = .returned v ∧ wpList P ops Q rest (a.put N v) w') : wpList P ops Q (oi :: rest) a w := by
  refine wpList_plain hg fun K hK => ?_
  have he := Go.Proofs.YthblghfobnhoeaaGreatW.PrintLast.enters_ hf hname hb args w
  have hrun : (execOp a.eval oi).run P w = .ok (.enter f args) w := by
    unfold execOp
    simp [hop, resolve, Deferred.ofValue, invoke, hfn, hargs, he]
  unfold Oper.wp
  rw [hrun, Oper.upon_enter]
  refine h.mono fun e w'' hh => ?_
  obtain ⟨v, rfl, hk⟩ := hh
  subst hd
  exact hK _ _ hk
/-- The operation calls this function value. -/
theorem gateV_ {f : FuncId} {rest : List Oper} {o : Oper} {a : Act} {W : World} {t : Tmp} {av : Array Operand} {ts : Array TypeId} (_ho : o.op = .call { callee := .value (.tmp t), args := av, argTypes := ts }) (_hfn : a.eval (.tmp t) = .func (.func f) #[] #[]) (h : wpList P ops Q (o :: rest) a W) : wpList P ops Q (o :: rest) a W := h
end

/-- The length of a month as the program's table has it, other than a leap year's second. -/
def mlen (m : Int) : Int := if m = 2 then 28 else if m = 4 then 30 else if m = 6 then 30 else if m = 9 then 30 else if m = 11 then 30 else 31

end Go.Proofs.YthblghfobnhoeaaGreat.H
namespace Go.Proofs.YthblghfobnhoeaaGreat.A
open Go.RowKit Go.Proofs.YthblghfobnhoeaaGreat.H Go.Proofs.YthblghfobnhoeaaGreatW.PrintWords Go.Proofs.YthblghfobnhoeaaGreatW.PrintLast Go.Proofs.YthblghfobnhoeaaGreatW.PrintMore
attribute [local go_sem] max2_int min2_int max_two min_two max_three min_three max_four min_four   -- for this text's walks alone
set_option linter.unusedVariables false
set_option linter.unusedSimpArgs false



def errW : Option Int → Value
  | none => .nilIface
  | some c => .iface 0 (.int .i64 c)
theorem errW_none : errW none = .nilIface := rfl
theorem errW_some (c : Int) : errW (some c) = .iface 0 (.int .i64 c) := rfl

theorem info3 : (Tryz.prog.info? 3).map (fun i => (i.zero, i.size, i.bytes)) = some (some (.int .i64 0), 1, 8) := by kernel_rfl
theorem info5 : (Tryz.prog.info? 5).map (fun i => (i.zero, i.size, i.bytes)) = some (some (.int .u8 0), 1, 1) := by kernel_rfl
theorem info9 : (Tryz.prog.info? 9).map (fun i => (i.zero, i.size, i.bytes)) = some (some (.string ⟨#[]⟩), 1, 16) := by kernel_rfl
-- the values' own types
/-! #### struct type 45 -/
structure S45 where
  f0 : ByteArray
  f1 : Int
  f2 : Int
  f3 : Int
  f4 : Int
  f5 : Int
  f6 : Int
  f7 : ByteArray
def z45 : S45 := ⟨(⟨#[]⟩ : ByteArray), (0 : Int), (0 : Int), (0 : Int), (0 : Int), (0 : Int), (0 : Int), (⟨#[]⟩ : ByteArray)⟩
def k45 : Kd S45 := Kd.iso (Kd.pair Kd.string (Kd.pair (Kd.int .i64) (Kd.pair (Kd.int .i64) (Kd.pair (Kd.int .i64) (Kd.pair (Kd.int .i64) (Kd.pair (Kd.int .i64) (Kd.pair (Kd.int .i64) Kd.string))))))) (fun x : S45 => (x.f0, x.f1, x.f2, x.f3, x.f4, x.f5, x.f6, x.f7))
theorem k45_open {w : World} {x : S45} {cs : List Value} (h : k45.K w x cs) : cs = [.string x.f0, .int .i64 x.f1, .int .i64 x.f2, .int .i64 x.f3, .int .i64 x.f4, .int .i64 x.f5, .int .i64 x.f6, .string x.f7] := by
  obtain ⟨_, _, rfl, rfl, ⟨_, _, rfl, rfl, ⟨_, _, rfl, rfl, ⟨_, _, rfl, rfl, ⟨_, _, rfl, rfl, ⟨_, _, rfl, rfl, ⟨_, _, rfl, rfl, rfl⟩⟩⟩⟩⟩⟩⟩ := h
  exact rfl
theorem k45_mk (w : World) (x : S45)  : k45.K w x [.string x.f0, .int .i64 x.f1, .int .i64 x.f2, .int .i64 x.f3, .int .i64 x.f4, .int .i64 x.f5, .int .i64 x.f6, .string x.f7] := ⟨[.string x.f0], [.int .i64 x.f1, .int .i64 x.f2, .int .i64 x.f3, .int .i64 x.f4, .int .i64 x.f5, .int .i64 x.f6, .string x.f7], rfl, rfl, ⟨[.int .i64 x.f1], [.int .i64 x.f2, .int .i64 x.f3, .int .i64 x.f4, .int .i64 x.f5, .int .i64 x.f6, .string x.f7], rfl, rfl, ⟨[.int .i64 x.f2], [.int .i64 x.f3, .int .i64 x.f4, .int .i64 x.f5, .int .i64 x.f6, .string x.f7], rfl, rfl, ⟨[.int .i64 x.f3], [.int .i64 x.f4, .int .i64 x.f5, .int .i64 x.f6, .string x.f7], rfl, rfl, ⟨[.int .i64 x.f4], [.int .i64 x.f5, .int .i64 x.f6, .string x.f7], rfl, rfl, ⟨[.int .i64 x.f5], [.int .i64 x.f6, .string x.f7], rfl, rfl, ⟨[.int .i64 x.f6], [.string x.f7], rfl, rfl, rfl⟩⟩⟩⟩⟩⟩⟩
theorem k45_mkM (w : World) (base : Nat) (ok : Nat → Prop) (x : S45)  : k45.M w base ok x [.string x.f0, .int .i64 x.f1, .int .i64 x.f2, .int .i64 x.f3, .int .i64 x.f4, .int .i64 x.f5, .int .i64 x.f6, .string x.f7] := ⟨[.string x.f0], [.int .i64 x.f1, .int .i64 x.f2, .int .i64 x.f3, .int .i64 x.f4, .int .i64 x.f5, .int .i64 x.f6, .string x.f7], rfl, rfl, ⟨[.int .i64 x.f1], [.int .i64 x.f2, .int .i64 x.f3, .int .i64 x.f4, .int .i64 x.f5, .int .i64 x.f6, .string x.f7], rfl, rfl, ⟨[.int .i64 x.f2], [.int .i64 x.f3, .int .i64 x.f4, .int .i64 x.f5, .int .i64 x.f6, .string x.f7], rfl, rfl, ⟨[.int .i64 x.f3], [.int .i64 x.f4, .int .i64 x.f5, .int .i64 x.f6, .string x.f7], rfl, rfl, ⟨[.int .i64 x.f4], [.int .i64 x.f5, .int .i64 x.f6, .string x.f7], rfl, rfl, ⟨[.int .i64 x.f5], [.int .i64 x.f6, .string x.f7], rfl, rfl, ⟨[.int .i64 x.f6], [.string x.f7], rfl, rfl, rfl⟩⟩⟩⟩⟩⟩⟩
def rd_T45 (xs : List S45) (i : Int) : S45 := xs.getD i.toNat z45
theorem at_T45 {w : World} {A : Option Addr} {n : Nat} {xs : List S45} (h : Kd.C k45 w A n xs) (i : Int) (h0 : 0 ≤ i) (h1 : i < n) : ∃ ad , A = some ad ∧ w.cell? (ad.add (i.toNat * 8)) = some (.string (rd_T45 xs i).f0) ∧ w.cell? ⟨(ad.add (i.toNat * 8)).block, (ad.add (i.toNat * 8)).off + 1, none⟩ = some (.int .i64 (rd_T45 xs i).f1) ∧ w.cell? ⟨(ad.add (i.toNat * 8)).block, (ad.add (i.toNat * 8)).off + 2, none⟩ = some (.int .i64 (rd_T45 xs i).f2) ∧ w.cell? ⟨(ad.add (i.toNat * 8)).block, (ad.add (i.toNat * 8)).off + 3, none⟩ = some (.int .i64 (rd_T45 xs i).f3) ∧ w.cell? ⟨(ad.add (i.toNat * 8)).block, (ad.add (i.toNat * 8)).off + 4, none⟩ = some (.int .i64 (rd_T45 xs i).f4) ∧ w.cell? ⟨(ad.add (i.toNat * 8)).block, (ad.add (i.toNat * 8)).off + 5, none⟩ = some (.int .i64 (rd_T45 xs i).f5) ∧ w.cell? ⟨(ad.add (i.toNat * 8)).block, (ad.add (i.toNat * 8)).off + 6, none⟩ = some (.int .i64 (rd_T45 xs i).f6) ∧ w.cell? ⟨(ad.add (i.toNat * 8)).block, (ad.add (i.toNat * 8)).off + 7, none⟩ = some (.string (rd_T45 xs i).f7) := by
  obtain ⟨ad, c, e, _, hK, hc0⟩ := Kd.C_get h z45 i h0 h1
  have hc : ∀ j u, c[j]? = some u → w.cell? (ad.add (i.toNat * 8 + j)) = some u := hc0
  obtain rfl := k45_open hK
  exact ⟨ad, e, hc 0 _ rfl, by rw [← add_field _ _ 1 (by omega)]; exact hc 1 _ rfl, by rw [← add_field _ _ 2 (by omega)]; exact hc 2 _ rfl, by rw [← add_field _ _ 3 (by omega)]; exact hc 3 _ rfl, by rw [← add_field _ _ 4 (by omega)]; exact hc 4 _ rfl, by rw [← add_field _ _ 5 (by omega)]; exact hc 5 _ rfl, by rw [← add_field _ _ 6 (by omega)]; exact hc 6 _ rfl, by rw [← add_field _ _ 7 (by omega)]; exact hc 7 _ rfl⟩

end Go.Proofs.YthblghfobnhoeaaGreat.A
namespace Go.Proofs.YthblghfobnhoeaaGreat.A
open Go.RowKit Go.Proofs.YthblghfobnhoeaaGreat.H Go.Proofs.YthblghfobnhoeaaGreatW.PrintWords Go.Proofs.YthblghfobnhoeaaGreatW.PrintLast Go.Proofs.YthblghfobnhoeaaGreatW.PrintMore
attribute [local go_sem] max2_int min2_int max_two min_two max_three min_three max_four min_four   -- for this text's walks alone
set_option linter.unusedVariables false
set_option linter.unusedSimpArgs false

theorem eqA45 (d : Nat) (w : World) (x0 y0 : ByteArray) (x1 y1 : Int) (x2 y2 : Int) (x3 y3 : Int) (x4 y4 : Int) (x5 y5 : Int) (x6 y6 : Int) (x7 y7 : ByteArray) :
    (Op.equalIn (d + 2) 45 (.agg #[.string x0, .int .i64 x1, .int .i64 x2, .int .i64 x3, .int .i64 x4, .int .i64 x5, .int .i64 x6, .string x7]) (.agg #[.string y0, .int .i64 y1, .int .i64 y2, .int .i64 y3, .int .i64 y4, .int .i64 y5, .int .i64 y6, .string y7])).run Tryz.prog w = .ok (x0.toList == y0.toList && (x1 == y1 && (x2 == y2 && (x3 == y3 && (x4 == y4 && (x5 == y5 && (x6 == y6 && (x7.toList == y7.toList)))))))) w := by
  refine eqA_of Tryz.underlying45 (by kernel_rfl) ?_
  refine eqf_cons (by rfl) (by go_simp; rfl) (by go_simp; rfl) (by go_simp) ?_
  refine eqf_cons (by rfl) (by go_simp; rfl) (by go_simp; rfl) (by go_simp) ?_
  refine eqf_cons (by rfl) (by go_simp; rfl) (by go_simp; rfl) (by go_simp) ?_
  refine eqf_cons (by rfl) (by go_simp; rfl) (by go_simp; rfl) (by go_simp) ?_
  refine eqf_cons (by rfl) (by go_simp; rfl) (by go_simp; rfl) (by go_simp) ?_
  refine eqf_cons (by rfl) (by go_simp; rfl) (by go_simp; rfl) (by go_simp) ?_
  refine eqf_cons (by rfl) (by go_simp; rfl) (by go_simp; rfl) (by go_simp) ?_
  exact eqf_last (by rfl) (by go_simp; rfl) (by go_simp; rfl) (by go_simp)
end Go.Proofs.YthblghfobnhoeaaGreat.A
namespace Go.Proofs.YthblghfobnhoeaaGreat.A
open Go.RowKit Go.Proofs.YthblghfobnhoeaaGreat.H Go.Proofs.YthblghfobnhoeaaGreatW.PrintWords Go.Proofs.YthblghfobnhoeaaGreatW.PrintLast Go.Proofs.YthblghfobnhoeaaGreatW.PrintMore
attribute [local go_sem] max2_int min2_int max_two min_two max_three min_three max_four min_four   -- for this text's walks alone
set_option linter.unusedVariables false
set_option linter.unusedSimpArgs false

/-! ### datetime_quarter: function 105 -/
def datetime_quarter.f (a0 : Int) : Option (Int × Bool) := if (wrap64 (IntKind.i8.wrap (a0))) ≥ (-48) then (some (wrap64 (15 * (wrap64 (IntKind.i8.wrap (a0)))), decide ((wrap64 (IntKind.i8.wrap (a0))) ≤ 52))) else (some (wrap64 (15 * (wrap64 (IntKind.i8.wrap (a0)))), false))
set_option maxHeartbeats 8000000 in
set_option maxRecDepth 100000 in
theorem datetime_quarter.calls0 (a0 : Int) (r1 : Int) (r2 : Bool) (w : World) (h : datetime_quarter.f a0 = some (r1, r2)) :
  Calls Tryz.prog 105 #[.int .u8 a0] w fun e w' => e = .returned (.tuple #[.int .i64 r1, .bool r2]) ∧ Drawn0 w w' := by
 have H : (if (wrap64 (IntKind.i8.wrap (a0))) ≥ (-48) then (some (wrap64 (15 * (wrap64 (IntKind.i8.wrap (a0)))), decide ((wrap64 (IntKind.i8.wrap (a0))) ≤ 52))) else (some (wrap64 (15 * (wrap64 (IntKind.i8.wrap (a0)))), false))) = some (r1, r2) := h
 clear h
 by_cases c2 : (wrap64 (IntKind.i8.wrap (a0))) ≥ (-48)
 ·rw [if_pos c2] at H
  have c2b0 : decide ((-48) ≤ (wrap64 (IntKind.i8.wrap (a0)))) = true := decide_eq_true c2
  clear c2
  simp only [Option.some.injEq, Prod.mk.injEq] at H
  obtain ⟨rfl, rfl⟩ := H
  go_enter Tryz.func105, Tryz.ntmps105
  go_wp2
  go_ret2
  exact ⟨by first | rfl | (simp; done) | (simp [*]; done), by repeat (first | exact Drawn0.refl _ | apply Drawn0.step)⟩
 ·rw [if_neg c2] at H
  have c2b0 : decide ((-48) ≤ (wrap64 (IntKind.i8.wrap (a0)))) = false := decide_eq_false c2
  clear c2
  simp only [Option.some.injEq, Prod.mk.injEq] at H
  obtain ⟨rfl, rfl⟩ := H
  go_enter Tryz.func105, Tryz.ntmps105
  go_wp2
  go_ret2
  exact ⟨by first | rfl | (simp; done) | (simp [*]; done), by repeat (first | exact Drawn0.refl _ | apply Drawn0.step)⟩

/-- The same, told as of a function that may make memory. -/
theorem datetime_quarter.calls (a0 : Int) (r1 : Int) (r2 : Bool) (w : World) (h : datetime_quarter.f a0 = some (r1, r2)) :
  Calls Tryz.prog 105 #[.int .u8 a0] w fun e w' => e = .returned (.tuple #[.int .i64 r1, .bool r2]) ∧ Below w.heap.size w w' :=
 (datetime_quarter.calls0 a0 r1 r2 w h).mono fun _ _ h_ => ⟨h_.1, h_.2.below⟩

end Go.Proofs.YthblghfobnhoeaaGreat.A
namespace Go.Proofs.YthblghfobnhoeaaGreat.A
open Go.RowKit Go.Proofs.YthblghfobnhoeaaGreat.H Go.Proofs.YthblghfobnhoeaaGreatW.PrintWords Go.Proofs.YthblghfobnhoeaaGreatW.PrintLast Go.Proofs.YthblghfobnhoeaaGreatW.PrintMore
attribute [local go_sem] max2_int min2_int max_two min_two max_three min_three max_four min_four   -- for this text's walks alone
set_option linter.unusedVariables false
set_option linter.unusedSimpArgs false

/-! ### slices_Equal_int_int: function 21 -/
def slices_Equal_int_int.l0 : Nat → List Int → List Int → Int → Int → Option (Bool)
 | 0, _, _, _, _ => none
 | k + 1, x0, x1, x12, x13 => if x13 < x12 then (if 0 ≤ x13 then (if x13 < (x0.length : Int) then (if x13 < (x1.length : Int) then (if (rd x0 x13) = (rd x1 x13) then (slices_Equal_int_int.l0 k x0 x1 x12 (wrap64 (x13 + 1))) else (some false)) else (none)) else (none)) else (none)) else (some true)
def slices_Equal_int_int.f (k : Nat) (l0 : List Int) (l1 : List Int) : Option (Bool) := if (l0.length : Int) = (l1.length : Int) then (slices_Equal_int_int.l0 k l0 l1 (l0.length : Int) 0) else (some false)
theorem slices_Equal_int_int.mono_l : ∀ k, (∀ y0 y1 y2 y3, LeO (slices_Equal_int_int.l0 k y0 y1 y2 y3) (slices_Equal_int_int.l0 (k + 1) y0 y1 y2 y3))
 | 0 => fun _ _ _ _ r h => by simp [slices_Equal_int_int.l0] at h
 | k + 1 => by
  have ih0 := slices_Equal_int_int.mono_l k
  ·intro y0 y1 y2 y3
   unfold slices_Equal_int_int.l0
   repeat' first
   | (with_reducible exact ih0 _ _ _ _)
   | (with_reducible exact LeO.refl _)
   | (with_reducible exact LeO.none _)
   | (with_reducible refine LeO.ite ?_ ?_)
   | (with_reducible refine LeO.bind ?_ (fun _ => ?_))
   | exact ih0 _ _ _ _
   | exact LeO.none _
   | refine LeO.ite ?_ ?_
   | refine LeO.bind ?_ (fun _ => ?_)
theorem slices_Equal_int_int.mono : ∀ a0 a1 k, LeO (slices_Equal_int_int.f k a0 a1) (slices_Equal_int_int.f (k + 1) a0 a1) := by
 intro a0 a1 k
 have ih0 := slices_Equal_int_int.mono_l k
 unfold slices_Equal_int_int.f
 repeat' first
   | (with_reducible exact ih0 _ _ _ _)
   | (with_reducible exact LeO.refl _)
   | (with_reducible exact LeO.none _)
   | (with_reducible refine LeO.ite ?_ ?_)
   | (with_reducible refine LeO.bind ?_ (fun _ => ?_))
   | exact ih0 _ _ _ _
   | exact LeO.none _
   | refine LeO.ite ?_ ?_
   | refine LeO.bind ?_ (fun _ => ?_)
set_option maxHeartbeats 8000000 in
set_option maxRecDepth 100000 in
theorem slices_Equal_int_int.calls (k : Nat) (A0 : Option Addr) (c0 : Nat) (l0 : List Int) (A1 : Option Addr) (c1 : Nat) (l1 : List Int) (r : Bool) (w : World) (hr0 : Kd.C (Kd.int .i64) w A0 l0.length l0) (hc0 : l0.length ≤ c0) (hr1 : Kd.C (Kd.int .i64) w A1 l1.length l1) (hc1 : l1.length ≤ c1) (h : slices_Equal_int_int.f k l0 l1 = some r) :
  Calls Tryz.prog 21 #[.slice A0 l0.length c0, .slice A1 l1.length c1] w fun e w' => e = .returned (.bool r) ∧ Drawn0 w w' := by
 have HR0 := Aside0.mk hr0
 have HC0 := Aside0.mk hc0
 clear hr0 hc0
 have HR1 := Aside0.mk hr1
 have HC1 := Aside0.mk hc1
 clear hr1 hc1
 have H : (if (l0.length : Int) = (l1.length : Int) then (slices_Equal_int_int.l0 k l0 l1 (l0.length : Int) 0) else (some false)) = some r := h
 clear h
 by_cases c3 : (l0.length : Int) = (l1.length : Int)
 ·rw [if_pos c3] at H
  have c3b0 : ((l0.length : Int) == (l1.length : Int)) = true := beq_iff_eq.mpr c3
  have c3b1 : ((l0.length : Int) != (l1.length : Int)) = false := bne_eq_false_iff_eq.mpr c3
  have c3b2 : (l0.length == l1.length) = true := by first | simpa using c3 | (simp at c3 ⊢; omega)
  clear c3
  have H' := Aside0.mk H
  clear H
  go_enter Tryz.func21, Tryz.ntmps21
  go_wp2
  repeat (go_quiet (fail); try go_wp2)
  go_loopg [13] k (fun kq v13 w' => ∃ (x13_1 : Int), v13 = .int .i64 x13_1 ∧ Aside0 (slices_Equal_int_int.l0 kq l0 l1 (l0.length : Int) x13_1 = some r) ∧ Aside0 (kq ≤ k) ∧ Drawn0 w w')
  case atStart => exact ⟨(0), (by first | rfl | (simp; done) | (simp [*]; done)), H', ⟨Nat.le_refl _⟩, by repeat (first | exact Drawn0.refl _ | apply Drawn0.step)⟩
  case round =>
   clear H'
   try clear c1
   try clear c2
   try clear p2
   try clear c3
   try clear c3b0
   try clear c3b1
   try clear c3b2
   obtain ⟨x13_1, rfl, HA, HK1, ⟨m1, rfl⟩⟩ := hrel
   cases gk with
   | zero => exact absurd HA.out (by simp [slices_Equal_int_int.l0])
   | succ k1 =>
    have H := HA.out
    clear HA
    simp only [slices_Equal_int_int.l0] at H
    by_cases c4 : x13_1 < (l0.length : Int)
    ·rw [if_pos c4] at H
     have c4b0 : decide (x13_1 < (l0.length : Int)) = true := decide_eq_true c4
     clear c4
     by_cases c5 : 0 ≤ x13_1
     rotate_left
     ·rw [if_neg c5] at H
      exact absurd H (by simp)
     rw [if_pos c5] at H
     have c5b0 : decide (0 ≤ x13_1) = true := decide_eq_true c5
     clear c5
     by_cases c6 : x13_1 < (l0.length : Int)
     rotate_left
     ·rw [if_neg c6] at H
      exact absurd H (by simp)
     rw [if_pos c6] at H
     have c6b0 : decide (x13_1 < (l0.length : Int)) = true := decide_eq_true c6
     clear c6
     by_cases c7 : x13_1 < (l1.length : Int)
     rotate_left
     ·rw [if_neg c7] at H
      exact absurd H (by simp)
     rw [if_pos c7] at H
     have c7b0 : decide (x13_1 < (l1.length : Int)) = true := decide_eq_true c7
     clear c7
     by_cases c8 : (rd l0 x13_1) = (rd l1 x13_1)
     ·rw [if_pos c8] at H
      have c8b0 : ((rd l0 x13_1) == (rd l1 x13_1)) = true := beq_iff_eq.mpr c8
      have c8b1 : ((rd l0 x13_1) != (rd l1 x13_1)) = false := bne_eq_false_iff_eq.mpr c8
      clear c8
      have H' := Aside0.mk H
      clear H
      have p202 : 0 ≤ (x13_1 : Int) := of_decide_eq_true (by first | (with_reducible assumption) | assumption)
      have q202 : x13_1 < (l0.length : Int) := of_decide_eq_true (by first | (with_reducible assumption) | assumption)
      obtain ⟨ad202, e202, hx202_0⟩ := Kd.at_int HR0.out x13_1 p202 q202
      cases e202
      replace p202 := eq_true p202
      replace q202 := eq_true q202
      have p203 : 0 ≤ (x13_1 : Int) := of_decide_eq_true (by first | (with_reducible assumption) | assumption)
      have q203 : x13_1 < (l1.length : Int) := of_decide_eq_true (by first | (with_reducible assumption) | assumption)
      obtain ⟨ad203, e203, hx203_0⟩ := Kd.at_int HR1.out x13_1 p203 q203
      cases e203
      replace p203 := eq_true p203
      replace q203 := eq_true q203
      go_wp2
      repeat (go_quiet (fail); try go_wp2)
      go_roundg k1
      case measure => have := HK1.out; omega
      case rel => exact ⟨(wrap64 (x13_1 + 1)), (by first | rfl | (simp; done) | (simp [*]; done)), H', ⟨by have := HK1.out; omega⟩, by repeat (first | exact Drawn0.refl _ | apply Drawn0.step)⟩
     ·rw [if_neg c8] at H
      have c8b0 : ((rd l0 x13_1) == (rd l1 x13_1)) = false := beq_eq_false_iff_ne.mpr c8
      have c8b1 : ((rd l0 x13_1) != (rd l1 x13_1)) = true := bne_iff_ne.mpr c8
      obtain rfl := Option.some.inj H
      have p202 : 0 ≤ (x13_1 : Int) := of_decide_eq_true (by first | (with_reducible assumption) | assumption)
      have q202 : x13_1 < (l0.length : Int) := of_decide_eq_true (by first | (with_reducible assumption) | assumption)
      obtain ⟨ad202, e202, hx202_0⟩ := Kd.at_int HR0.out x13_1 p202 q202
      cases e202
      replace p202 := eq_true p202
      replace q202 := eq_true q202
      have p203 : 0 ≤ (x13_1 : Int) := of_decide_eq_true (by first | (with_reducible assumption) | assumption)
      have q203 : x13_1 < (l1.length : Int) := of_decide_eq_true (by first | (with_reducible assumption) | assumption)
      obtain ⟨ad203, e203, hx203_0⟩ := Kd.at_int HR1.out x13_1 p203 q203
      cases e203
      replace p203 := eq_true p203
      replace q203 := eq_true q203
      go_wp2
      repeat (go_quiet (fail); try go_wp2)
      go_ret
      exact ⟨by first | rfl | (simp; done) | (simp [*]; done), by repeat (first | exact Drawn0.refl _ | apply Drawn0.step)⟩
    ·rw [if_neg c4] at H
     have c4b0 : decide (x13_1 < (l0.length : Int)) = false := decide_eq_false c4
     clear c4
     obtain rfl := Option.some.inj H
     go_wp2
     repeat (go_quiet (fail); try go_wp2)
     go_ret
     exact ⟨by first | rfl | (simp; done) | (simp [*]; done), by repeat (first | exact Drawn0.refl _ | apply Drawn0.step)⟩
 ·rw [if_neg c3] at H
  have c3b0 : ((l0.length : Int) == (l1.length : Int)) = false := beq_eq_false_iff_ne.mpr c3
  have c3b1 : ((l0.length : Int) != (l1.length : Int)) = true := bne_iff_ne.mpr c3
  have c3b2 : (l0.length == l1.length) = false := by first | simpa using c3 | (simp at c3 ⊢; omega)
  obtain rfl := Option.some.inj H
  go_enter Tryz.func21, Tryz.ntmps21
  go_wp2
  repeat (go_quiet (fail); try go_wp2)
  go_ret
  exact ⟨by first | rfl | (simp; done) | (simp [*]; done), by repeat (first | exact Drawn0.refl _ | apply Drawn0.step)⟩

/-! ### masterdisclaw21_sign: function 10 -/
def masterdisclaw21_sign.f (a0 : Int) : Option (Int) := if a0 < 0 then (some (-1)) else (if a0 > 0 then (some 1) else (some 0))
-- NOT PRINTED: function 42 (api_DirRecord_42)

end Go.Proofs.YthblghfobnhoeaaGreat.A
namespace Go.Proofs.YthblghfobnhoeaaGreat.A
open Go.RowKit Go.Proofs.YthblghfobnhoeaaGreat.H Go.Proofs.YthblghfobnhoeaaGreatW.PrintWords Go.Proofs.YthblghfobnhoeaaGreatW.PrintLast Go.Proofs.YthblghfobnhoeaaGreatW.PrintMore
attribute [local go_sem] max2_int min2_int max_two min_two max_three min_three max_four min_four   -- for this text's walks alone
set_option linter.unusedVariables false
set_option linter.unusedSimpArgs false

/-! ### masterdiscref21_special: function 38 -/
def masterdiscref21_special.f (a0 : ByteArray) : Option (Int) := if a0.toList = ([0] : List UInt8) then (some 0) else (if a0.toList = ([1] : List UInt8) then (some 1) else (some 2))
/-! ### masterdiscref21_padded: function 39 -/
mutual
def masterdiscref21_padded.l0 : Nat → ByteArray → ByteArray → Int → Int → Option (Int)
  | 0, _, _, _, _ => none
  | k + 1, x0, x1, x2, x7 => if x7 < (x0.size : Int) then (masterdiscref21_padded.j1 k x0 x1 x2 x7 true) else (masterdiscref21_padded.j1 k x0 x1 x2 x7 (decide (x7 < (x1.size : Int))))
def masterdiscref21_padded.j1 : Nat → ByteArray → ByteArray → Int → Int → Bool → Option (Int)
  | 0, _, _, _, _, _ => none
  | k + 1, x0, x1, x2, x7, x19 => if x19 = true then (if x7 < (x0.size : Int) then (if 0 ≤ x7 then (masterdiscref21_padded.j2 k x0 x1 x2 x7 (bt x0 x7) x2) else (none)) else (masterdiscref21_padded.j2 k x0 x1 x2 x7 x2 x2)) else (some 0)
def masterdiscref21_padded.j2 : Nat → ByteArray → ByteArray → Int → Int → Int → Int → Option (Int)
  | 0, _, _, _, _, _, _ => none
  | k + 1, x0, x1, x2, x7, x8, x9 => if x7 < (x1.size : Int) then (if 0 ≤ x7 then (masterdiscref21_padded.j3 k x0 x1 x2 x7 x8 (bt x1 x7)) else (none)) else (masterdiscref21_padded.j3 k x0 x1 x2 x7 x8 x9)
def masterdiscref21_padded.j3 : Nat → ByteArray → ByteArray → Int → Int → Int → Int → Option (Int)
  | 0, _, _, _, _, _, _ => none
  | k + 1, x0, x1, x2, x7, x8, x9 => if x8 < x9 then (some (-1)) else (if x8 > x9 then (some 1) else (masterdiscref21_padded.l0 k x0 x1 x2 (wrap64 (x7 + 1))))
end
def masterdiscref21_padded.f (k : Nat) (a0 : ByteArray) (a1 : ByteArray) (a2 : Int) : Option (Int) := masterdiscref21_padded.l0 k a0 a1 a2 0
/-! ### masterdiscref21_find: function 64 -/
def masterdiscref21_find.l0 : Nat → ByteArray → Int → Int → Int → Option (Int)
  | 0, _, _, _, _ => none
  | k + 1, x0, x1, x2, x7 => if x7 < (x0.size : Int) then (if 0 ≤ x7 then (if (bt x0 x7) = x1 then (some x7) else (if (bt x0 x7) = x2 then (some x7) else (masterdiscref21_find.l0 k x0 x1 x2 (wrap64 (x7 + 1))))) else (none)) else (some (x0.size : Int))
def masterdiscref21_find.f (k : Nat) (a0 : ByteArray) (a1 : Int) (a2 : Int) : Option (Int) := masterdiscref21_find.l0 k a0 a1 a2 0
/-! ### masterdiscref21_Parts: function 40 -/
def masterdiscref21_Parts.j0 : Nat → ByteArray → Int → ByteArray → ByteArray → Bool → Option (ByteArray × ByteArray × ByteArray)
  | 0, _, _, _, _, _ => none
  | k + 1, x0, x5, x6, x7, x24 => if x24 = true then (if 0 ≤ (wrap64 (x5 + 1)) then (if (wrap64 (x5 + 1)) ≤ (x0.size : Int) then ((masterdiscref21_find.f k (x0.extract ((wrap64 (x5 + 1)) : Int).toNat x0.size) 59 59).bind fun t205 => (if 0 ≤ t205 then (if t205 ≤ ((x0.extract ((wrap64 (x5 + 1)) : Int).toNat x0.size).size : Int) then (if (wrap64 ((wrap64 (x5 + 1)) + t205)) < (x0.size : Int) then (if 0 ≤ (wrap64 ((wrap64 ((wrap64 (x5 + 1)) + t205)) + 1)) then (if (wrap64 ((wrap64 ((wrap64 (x5 + 1)) + t205)) + 1)) ≤ (x0.size : Int) then (some (x6, (x0.extract ((wrap64 (x5 + 1)) : Int).toNat x0.size).extract 0 (t205 : Int).toNat, x0.extract ((wrap64 ((wrap64 ((wrap64 (x5 + 1)) + t205)) + 1)) : Int).toNat x0.size)) else (none)) else (none)) else (some (x6, (x0.extract ((wrap64 (x5 + 1)) : Int).toNat x0.size).extract 0 (t205 : Int).toNat, (⟨#[]⟩ : ByteArray)))) else (none)) else (none))) else (none)) else (none)) else (if x5 < (x0.size : Int) then (if 0 ≤ (wrap64 (x5 + 1)) then (if (wrap64 (x5 + 1)) ≤ (x0.size : Int) then (some (x6, x7, x0.extract ((wrap64 (x5 + 1)) : Int).toNat x0.size)) else (none)) else (none)) else (some (x6, x7, (⟨#[]⟩ : ByteArray))))
def masterdiscref21_Parts.f (k : Nat) (a0 : ByteArray) : Option (ByteArray × ByteArray × ByteArray) := (masterdiscref21_find.f k a0 46 59).bind fun t204 => (if 0 ≤ t204 then (if t204 ≤ (a0.size : Int) then (if t204 < (a0.size : Int) then (masterdiscref21_Parts.j0 k a0 t204 (a0.extract 0 (t204 : Int).toNat) (⟨#[]⟩ : ByteArray) ((bt a0 t204) == 46)) else (masterdiscref21_Parts.j0 k a0 t204 (a0.extract 0 (t204 : Int).toNat) (⟨#[]⟩ : ByteArray) false)) else (none)) else (none))
/-! ### masterdiscref01_Repeat: function 41 -/
def masterdiscref01_Repeat.l0 : Nat → Int → Int → List Int → Int → Option (ByteArray)
  | 0, _, _, _, _ => none
  | k + 1, x0, x1, x5, x6 => if x6 < x1 then (if x5.length < 140737488355328 then (masterdiscref01_Repeat.l0 k x0 x1 (x5 ++ [x0]) (wrap64 (x6 + 1))) else (none)) else (some (strOfNums x5))
def masterdiscref01_Repeat.f (k : Nat) (a0 : Int) (a1 : Int) : Option (ByteArray) := masterdiscref01_Repeat.l0 k a0 a1 (([] : List Int)) 0
end Go.Proofs.YthblghfobnhoeaaGreat.A
namespace Go.Proofs.YthblghfobnhoeaaGreat.A
open Go.RowKit Go.Proofs.YthblghfobnhoeaaGreat.H Go.Proofs.YthblghfobnhoeaaGreatW.PrintWords Go.Proofs.YthblghfobnhoeaaGreatW.PrintLast Go.Proofs.YthblghfobnhoeaaGreatW.PrintMore
attribute [local go_sem] max2_int min2_int max_two min_two max_three min_three max_four min_four   -- for this text's walks alone
set_option linter.unusedVariables false
set_option linter.unusedSimpArgs false

/-! ### bits_Mul32: function 79 -/
/-! ### bits_Mul64: function 80 -/
def bits_Mul64.f (a0 : Int) (a1 : Int) : Option (Int × Int) := some (IntKind.u64.wrap ((IntKind.u64.wrap ((IntKind.u64.wrap ((a0 / 4294967296) * (a1 / 4294967296))) + ((IntKind.u64.wrap ((IntKind.u64.wrap ((a0 / 4294967296) * (Go.bits .and .u64 a1 4294967295))) + ((IntKind.u64.wrap ((Go.bits .and .u64 a0 4294967295) * (Go.bits .and .u64 a1 4294967295))) / 4294967296))) / 4294967296))) + ((IntKind.u64.wrap ((Go.bits .and .u64 (IntKind.u64.wrap ((IntKind.u64.wrap ((a0 / 4294967296) * (Go.bits .and .u64 a1 4294967295))) + ((IntKind.u64.wrap ((Go.bits .and .u64 a0 4294967295) * (Go.bits .and .u64 a1 4294967295))) / 4294967296))) 4294967295) + (IntKind.u64.wrap ((Go.bits .and .u64 a0 4294967295) * (a1 / 4294967296))))) / 4294967296)), IntKind.u64.wrap (a0 * a1))
set_option maxHeartbeats 8000000 in
set_option maxRecDepth 100000 in
theorem bits_Mul64.calls (a0 : Int) (a1 : Int) (r1 : Int) (r2 : Int) (w : World) (h : bits_Mul64.f a0 a1 = some (r1, r2)) :
    Calls Tryz.prog 80 #[.int .u64 a0, .int .u64 a1] w fun e w' => e = .returned (.tuple #[.int .u64 r1, .int .u64 r2]) ∧ Drawn0 w w' := by
  have H : (some (IntKind.u64.wrap ((IntKind.u64.wrap ((IntKind.u64.wrap ((a0 / 4294967296) * (a1 / 4294967296))) + ((IntKind.u64.wrap ((IntKind.u64.wrap ((a0 / 4294967296) * (Go.bits .and .u64 a1 4294967295))) + ((IntKind.u64.wrap ((Go.bits .and .u64 a0 4294967295) * (Go.bits .and .u64 a1 4294967295))) / 4294967296))) / 4294967296))) + ((IntKind.u64.wrap ((Go.bits .and .u64 (IntKind.u64.wrap ((IntKind.u64.wrap ((a0 / 4294967296) * (Go.bits .and .u64 a1 4294967295))) + ((IntKind.u64.wrap ((Go.bits .and .u64 a0 4294967295) * (Go.bits .and .u64 a1 4294967295))) / 4294967296))) 4294967295) + (IntKind.u64.wrap ((Go.bits .and .u64 a0 4294967295) * (a1 / 4294967296))))) / 4294967296)), IntKind.u64.wrap (a0 * a1))) = some (r1, r2) := h
  clear h
  simp only [Option.some.injEq, Prod.mk.injEq] at H
  obtain ⟨rfl, rfl⟩ := H
  go_enter Tryz.func80, Tryz.ntmps80
  go_wp2
  go_ret2
  exact ⟨by first | rfl | (simp; done) | (simp [*]; done), by repeat (first | exact Drawn0.refl _ | apply Drawn0.step)⟩

/-! ### bits_Mul: function 51 -/
def bits_Mul.f (a0 : Int) (a1 : Int) : Option (Int × Int) := (bits_Mul64.f a0 a1).bind fun bt101 => (some (bt101.1, bt101.2))
set_option maxHeartbeats 8000000 in
set_option maxRecDepth 100000 in
theorem bits_Mul.calls (a0 : Int) (a1 : Int) (r1 : Int) (r2 : Int) (w : World) (h : bits_Mul.f a0 a1 = some (r1, r2)) :
    Calls Tryz.prog 51 #[.int .u64 a0, .int .u64 a1] w fun e w' => e = .returned (.tuple #[.int .u64 r1, .int .u64 r2]) ∧ Drawn0 w w' := by
  have H : ((bits_Mul64.f a0 a1).bind fun bt101 => (some (bt101.1, bt101.2))) = some (r1, r2) := h
  clear h
  replace H := Option.bind_eq_some_iff.mp H
  obtain ⟨⟨t101, t102⟩, A30, H⟩ := H
  replace H : (some (t101, t102)) = some (r1, r2) := H
  have A3 := Aside0.mk A30
  clear A30
  simp only [Option.some.injEq, Prod.mk.injEq] at H
  obtain ⟨rfl, rfl⟩ := H
  go_enter Tryz.func51, Tryz.ntmps51
  go_wp2_with (first | ((with_reducible refine gate_callee (f := 80) rfl ?_); refine gL (some 25) Tryz.func80 #[.int .u64 a0, .int .u64 a1] ?_; (with_reducible refine (bits_Mul64.calls a0 a1 t101 t102 _ A3.out).mono ?_); rintro e w' ⟨rfl, ⟨nd, rfl⟩⟩; refine ⟨_, rfl, ?_⟩))
  go_ret2
  exact ⟨by first | rfl | (simp; done) | (simp [*]; done), by repeat (first | exact Drawn0.refl _ | apply Drawn0.step)⟩

/-! ### stringslite_HasPrefix: function 81 -/
/-! ### strings_HasPrefix: function 52 -/
-- NOT PRINTED: function 108 (abi_NoEscape)

-- NOT PRINTED: function 82 (strings_Builder_copyCheck)

-- NOT PRINTED: function 109 (bytealg_MakeNoZero)

-- NOT PRINTED: function 83 (strings_Builder_grow)

-- NOT PRINTED: function 53 (strings_Builder_Grow)

-- NOT PRINTED: function 54 (strings_Builder_WriteString)

-- NOT PRINTED: function 55 (strings_Builder_Len)

-- NOT PRINTED: function 56 (strings_Builder_String)

end Go.Proofs.YthblghfobnhoeaaGreat.A
namespace Go.Proofs.YthblghfobnhoeaaGreat.A
open Go.RowKit Go.Proofs.YthblghfobnhoeaaGreat.H Go.Proofs.YthblghfobnhoeaaGreatW.PrintWords Go.Proofs.YthblghfobnhoeaaGreatW.PrintLast Go.Proofs.YthblghfobnhoeaaGreatW.PrintMore
attribute [local go_sem] max2_int min2_int max_two min_two max_three min_three max_four min_four   -- for this text's walks alone
set_option linter.unusedVariables false
set_option linter.unusedSimpArgs false

/-! ### masterdiscref20_fits: function 73 -/
def masterdiscref20_fits.f (a0 : Int) (a1 : Int) : Option (Bool) := if a0 ≥ 0 then (some (decide (a0 ≤ a1))) else (some false)
/-! ### masterdiscref01_fits: function 135 -/
def masterdiscref01_fits.l0 : Nat → Int → Int → Int → Option (Bool)
 | 0, _, _, _ => none
 | k + 1, x0, x1, x5 => if x5 < x1 then (masterdiscref01_fits.l0 k (wrap64 (Int.tdiv x0 256)) x1 (wrap64 (x5 + 1))) else (some (x0 == 0))
def masterdiscref01_fits.f (k : Nat) (a0 : Int) (a1 : Int) : Option (Bool) := if a0 < 0 then (some false) else (masterdiscref01_fits.l0 k a0 a1 0)
theorem masterdiscref01_fits.mono_l : ∀ k, (∀ y0 y1 y2, LeO (masterdiscref01_fits.l0 k y0 y1 y2) (masterdiscref01_fits.l0 (k + 1) y0 y1 y2))
 | 0 => fun _ _ _ r h => by simp [masterdiscref01_fits.l0] at h
 | k + 1 => by
  have ih0 := masterdiscref01_fits.mono_l k
  ·intro y0 y1 y2
   unfold masterdiscref01_fits.l0
   repeat' first
   | (with_reducible exact ih0 _ _ _)
   | (with_reducible exact LeO.refl _)
   | (with_reducible exact LeO.none _)
   | (with_reducible refine LeO.ite ?_ ?_)
   | (with_reducible refine LeO.bind ?_ (fun _ => ?_))
   | exact ih0 _ _ _
   | exact LeO.none _
   | refine LeO.ite ?_ ?_
   | refine LeO.bind ?_ (fun _ => ?_)
theorem masterdiscref01_fits.mono : ∀ a0 a1 k, LeO (masterdiscref01_fits.f k a0 a1) (masterdiscref01_fits.f (k + 1) a0 a1) := by
 intro a0 a1 k
 have ih0 := masterdiscref01_fits.mono_l k
 unfold masterdiscref01_fits.f
 repeat' first
   | (with_reducible exact ih0 _ _ _)
   | (with_reducible exact LeO.refl _)
   | (with_reducible exact LeO.none _)
   | (with_reducible refine LeO.ite ?_ ?_)
   | (with_reducible refine LeO.bind ?_ (fun _ => ?_))
   | exact ih0 _ _ _
   | exact LeO.none _
   | refine LeO.ite ?_ ?_
   | refine LeO.bind ?_ (fun _ => ?_)
/-! ### masterdiscref01_Bytes: function 136 -/
def masterdiscref01_Bytes.l0 : Nat → Int → Int → List Int → Int → Option (ByteArray)
 | 0, _, _, _, _ => none
 | k + 1, x0, x1, x5, x6 => if x6 < x1 then (if x5.length < 140737488355328 then (masterdiscref01_Bytes.l0 k (wrap64 (Int.tdiv x0 256)) x1 (x5 ++ [(Int.tmod x0 256) % 256]) (wrap64 (x6 + 1))) else (none)) else (some (strOfNums x5))
def masterdiscref01_Bytes.f (k : Nat) (a0 : Int) (a1 : Int) : Option (ByteArray) := masterdiscref01_Bytes.l0 k a0 a1 (([] : List Int)) 0
theorem masterdiscref01_Bytes.mono_l : ∀ k, (∀ y0 y1 y2 y3, LeO (masterdiscref01_Bytes.l0 k y0 y1 y2 y3) (masterdiscref01_Bytes.l0 (k + 1) y0 y1 y2 y3))
 | 0 => fun _ _ _ _ r h => by simp [masterdiscref01_Bytes.l0] at h
 | k + 1 => by
  have ih0 := masterdiscref01_Bytes.mono_l k
  ·intro y0 y1 y2 y3
   unfold masterdiscref01_Bytes.l0
   repeat' first
   | (with_reducible exact ih0 _ _ _ _)
   | (with_reducible exact LeO.refl _)
   | (with_reducible exact LeO.none _)
   | (with_reducible refine LeO.ite ?_ ?_)
   | (with_reducible refine LeO.bind ?_ (fun _ => ?_))
   | exact ih0 _ _ _ _
   | exact LeO.none _
   | refine LeO.ite ?_ ?_
   | refine LeO.bind ?_ (fun _ => ?_)
theorem masterdiscref01_Bytes.mono : ∀ a0 a1 k, LeO (masterdiscref01_Bytes.f k a0 a1) (masterdiscref01_Bytes.f (k + 1) a0 a1) := by
 intro a0 a1 k
 have ih0 := masterdiscref01_Bytes.mono_l k
 unfold masterdiscref01_Bytes.f
 repeat' first
   | (with_reducible exact ih0 _ _ _ _)
   | (with_reducible exact LeO.refl _)
   | (with_reducible exact LeO.none _)
   | (with_reducible refine LeO.ite ?_ ?_)
   | (with_reducible refine LeO.bind ?_ (fun _ => ?_))
   | exact ih0 _ _ _ _
   | exact LeO.none _
   | refine LeO.ite ?_ ?_
   | refine LeO.bind ?_ (fun _ => ?_)
/-! ### masterdiscref01_Little: function 124 -/
def masterdiscref01_Little.j0 : Nat → Int → Int → Bool → Option (ByteArray × Int)
 | 0, _, _, _ => none
 | k + 1, x0, x1, x11 => if x11 = true then (some ((⟨#[]⟩ : ByteArray), 1)) else ((masterdiscref01_fits.f k x0 x1).bind fun t314 => (if t314 = true then ((masterdiscref01_Bytes.f k x0 x1).bind fun t315 => (some (t315, 0))) else (some ((⟨#[]⟩ : ByteArray), 2))))
def masterdiscref01_Little.f (k : Nat) (a0 : Int) (a1 : Int) : Option (ByteArray × Int) := if a1 < 1 then (masterdiscref01_Little.j0 k a0 a1 true) else (masterdiscref01_Little.j0 k a0 a1 (decide (a1 > 8)))
theorem masterdiscref01_Little.mono_l : ∀ k, (∀ y0 y1 y2, LeO (masterdiscref01_Little.j0 k y0 y1 y2) (masterdiscref01_Little.j0 (k + 1) y0 y1 y2))
 | 0 => fun _ _ _ r h => by simp [masterdiscref01_Little.j0] at h
 | k + 1 => by
  have ih0 := masterdiscref01_Little.mono_l k
  ·intro y0 y1 y2
   unfold masterdiscref01_Little.j0
   repeat' first
   | (with_reducible exact ih0 _ _ _)
   | (with_reducible exact masterdiscref01_Bytes.mono _ _ _)
   | (with_reducible exact masterdiscref01_fits.mono _ _ _)
   | (with_reducible exact LeO.refl _)
   | (with_reducible exact LeO.none _)
   | (with_reducible refine LeO.ite ?_ ?_)
   | (with_reducible refine LeO.bind ?_ (fun _ => ?_))
   | exact ih0 _ _ _
   | exact masterdiscref01_Bytes.mono _ _ _
   | exact masterdiscref01_fits.mono _ _ _
   | exact LeO.none _
   | refine LeO.ite ?_ ?_
   | refine LeO.bind ?_ (fun _ => ?_)
theorem masterdiscref01_Little.mono : ∀ a0 a1 k, LeO (masterdiscref01_Little.f k a0 a1) (masterdiscref01_Little.f (k + 1) a0 a1) := by
 intro a0 a1 k
 have ih0 := masterdiscref01_Little.mono_l k
 unfold masterdiscref01_Little.f
 repeat' first
   | (with_reducible exact ih0 _ _ _)
   | (with_reducible exact masterdiscref01_Bytes.mono _ _ _)
   | (with_reducible exact masterdiscref01_fits.mono _ _ _)
   | (with_reducible exact LeO.refl _)
   | (with_reducible exact LeO.none _)
   | (with_reducible refine LeO.ite ?_ ?_)
   | (with_reducible refine LeO.bind ?_ (fun _ => ?_))
   | exact ih0 _ _ _
   | exact masterdiscref01_Bytes.mono _ _ _
   | exact masterdiscref01_fits.mono _ _ _
   | exact LeO.none _
   | refine LeO.ite ?_ ?_
   | refine LeO.bind ?_ (fun _ => ?_)
/-! ### masterdiscref01_Reverse: function 125 -/
def masterdiscref01_Reverse.l0 : Nat → ByteArray → List Int → Int → Option (ByteArray)
 | 0, _, _, _ => none
 | k + 1, x0, x3, x4 => if x4 ≥ 0 then (if 0 ≤ x4 then (if x4 < (x0.size : Int) then (if x3.length < 140737488355328 then (masterdiscref01_Reverse.l0 k x0 (x3 ++ [bt x0 x4]) (wrap64 (x4 - 1))) else (none)) else (none)) else (none)) else (some (strOfNums x3))
def masterdiscref01_Reverse.f (k : Nat) (a0 : ByteArray) : Option (ByteArray) := masterdiscref01_Reverse.l0 k a0 (([] : List Int)) (wrap64 ((a0.size : Int) - 1))
theorem masterdiscref01_Reverse.mono_l : ∀ k, (∀ y0 y1 y2, LeO (masterdiscref01_Reverse.l0 k y0 y1 y2) (masterdiscref01_Reverse.l0 (k + 1) y0 y1 y2))
 | 0 => fun _ _ _ r h => by simp [masterdiscref01_Reverse.l0] at h
 | k + 1 => by
  have ih0 := masterdiscref01_Reverse.mono_l k
  ·intro y0 y1 y2
   unfold masterdiscref01_Reverse.l0
   repeat' first
   | (with_reducible exact ih0 _ _ _)
   | (with_reducible exact LeO.refl _)
   | (with_reducible exact LeO.none _)
   | (with_reducible refine LeO.ite ?_ ?_)
   | (with_reducible refine LeO.bind ?_ (fun _ => ?_))
   | exact ih0 _ _ _
   | exact LeO.none _
   | refine LeO.ite ?_ ?_
   | refine LeO.bind ?_ (fun _ => ?_)
theorem masterdiscref01_Reverse.mono : ∀ a0 k, LeO (masterdiscref01_Reverse.f k a0) (masterdiscref01_Reverse.f (k + 1) a0) := by
 intro a0 k
 have ih0 := masterdiscref01_Reverse.mono_l k
 unfold masterdiscref01_Reverse.f
 repeat' first
   | (with_reducible exact ih0 _ _ _)
   | (with_reducible exact LeO.refl _)
   | (with_reducible exact LeO.none _)
   | (with_reducible refine LeO.ite ?_ ?_)
   | (with_reducible refine LeO.bind ?_ (fun _ => ?_))
   | exact ih0 _ _ _
   | exact LeO.none _
   | refine LeO.ite ?_ ?_
   | refine LeO.bind ?_ (fun _ => ?_)
/-! ### masterdiscref01_Both: function 104 -/
def masterdiscref01_Both.j0 : Nat → Int → Int → Bool → Option (ByteArray × Int)
 | 0, _, _, _ => none
 | k + 1, x0, x1, x17 => if x17 = true then (some ((⟨#[]⟩ : ByteArray), 1)) else ((masterdiscref01_Little.f k x0 x1).bind fun bt322 => ((masterdiscref01_Reverse.f k bt322.1).bind fun t324 => (if bt322.1.size + t324.size ≤ 9223372036854775807 then (some (bt322.1 ++ t324, bt322.2)) else (none))))
def masterdiscref01_Both.f (k : Nat) (a0 : Int) (a1 : Int) : Option (ByteArray × Int) := if a1 = 1 then (masterdiscref01_Both.j0 k a0 a1 false) else (if a1 = 2 then (masterdiscref01_Both.j0 k a0 a1 false) else (masterdiscref01_Both.j0 k a0 a1 (a1 != 4)))
theorem masterdiscref01_Both.mono_l : ∀ k, (∀ y0 y1 y2, LeO (masterdiscref01_Both.j0 k y0 y1 y2) (masterdiscref01_Both.j0 (k + 1) y0 y1 y2))
 | 0 => fun _ _ _ r h => by simp [masterdiscref01_Both.j0] at h
 | k + 1 => by
  have ih0 := masterdiscref01_Both.mono_l k
  ·intro y0 y1 y2
   unfold masterdiscref01_Both.j0
   repeat' first
   | (with_reducible exact ih0 _ _ _)
   | (with_reducible exact masterdiscref01_Little.mono _ _ _)
   | (with_reducible exact masterdiscref01_Reverse.mono _ _)
   | (with_reducible exact LeO.refl _)
   | (with_reducible exact LeO.none _)
   | (with_reducible refine LeO.ite ?_ ?_)
   | (with_reducible refine LeO.bind ?_ (fun _ => ?_))
   | exact ih0 _ _ _
   | exact masterdiscref01_Little.mono _ _ _
   | exact masterdiscref01_Reverse.mono _ _
   | exact LeO.none _
   | refine LeO.ite ?_ ?_
   | refine LeO.bind ?_ (fun _ => ?_)
theorem masterdiscref01_Both.mono : ∀ a0 a1 k, LeO (masterdiscref01_Both.f k a0 a1) (masterdiscref01_Both.f (k + 1) a0 a1) := by
 intro a0 a1 k
 have ih0 := masterdiscref01_Both.mono_l k
 unfold masterdiscref01_Both.f
 repeat' first
   | (with_reducible exact ih0 _ _ _)
   | (with_reducible exact masterdiscref01_Little.mono _ _ _)
   | (with_reducible exact masterdiscref01_Reverse.mono _ _)
   | (with_reducible exact LeO.refl _)
   | (with_reducible exact LeO.none _)
   | (with_reducible refine LeO.ite ?_ ?_)
   | (with_reducible refine LeO.bind ?_ (fun _ => ?_))
   | exact ih0 _ _ _
   | exact masterdiscref01_Little.mono _ _ _
   | exact masterdiscref01_Reverse.mono _ _
   | exact LeO.none _
   | refine LeO.ite ?_ ?_
   | refine LeO.bind ?_ (fun _ => ?_)
/-! ### masterdiscref20_both: function 74 -/
def masterdiscref20_both.f (k : Nat) (a0 : Int) (a1 : Int) : Option (ByteArray) := (masterdiscref01_Both.f k a0 a1).bind fun bt325 => (some bt325.1)
theorem masterdiscref20_both.mono : ∀ a0 a1 k, LeO (masterdiscref20_both.f k a0 a1) (masterdiscref20_both.f (k + 1) a0 a1) := by
 intro a0 a1 k
 unfold masterdiscref20_both.f
 repeat' first
   | (with_reducible exact masterdiscref01_Both.mono _ _ _)
   | (with_reducible exact LeO.refl _)
   | (with_reducible exact LeO.none _)
   | (with_reducible refine LeO.ite ?_ ?_)
   | (with_reducible refine LeO.bind ?_ (fun _ => ?_))
   | exact masterdiscref01_Both.mono _ _ _
   | exact LeO.none _
   | refine LeO.ite ?_ ?_
   | refine LeO.bind ?_ (fun _ => ?_)
end Go.Proofs.YthblghfobnhoeaaGreat.A
namespace Go.Proofs.YthblghfobnhoeaaGreat.A
open Go.RowKit Go.Proofs.YthblghfobnhoeaaGreat.H Go.Proofs.YthblghfobnhoeaaGreatW.PrintWords Go.Proofs.YthblghfobnhoeaaGreatW.PrintLast Go.Proofs.YthblghfobnhoeaaGreatW.PrintMore
attribute [local go_sem] max2_int min2_int max_two min_two max_three min_three max_four min_four   -- for this text's walks alone
set_option linter.unusedVariables false
set_option linter.unusedSimpArgs false

/-! ### cmp_isNaN_int: function 58 -/
def cmp_isNaN_int.f (a0 : Int) : Option (Bool) := some (a0 != a0)
set_option maxHeartbeats 8000000 in
set_option maxRecDepth 100000 in
theorem cmp_isNaN_int.calls (a0 : Int) (r : Bool) (w : World) (h : cmp_isNaN_int.f a0 = some r) :
  Calls Tryz.prog 58 #[.int .i64 a0] w fun e w' => e = .returned (.bool r) ∧ Drawn0 w w' := by
 have H : (some (a0 != a0)) = some r := h
 clear h
 obtain rfl := Option.some.inj H
 go_enter Tryz.func58, Tryz.ntmps58
 go_wp2
 go_ret
 exact ⟨by first | rfl | (simp; done) | (simp [*]; done), by repeat (first | exact Drawn0.refl _ | apply Drawn0.step)⟩

/-! ### cmp_Compare_int: function 32 -/
def cmp_Compare_int.f (a0 : Int) (a1 : Int) : Option (Int) := (cmp_isNaN_int.f a0).bind fun t104 => ((cmp_isNaN_int.f a1).bind fun t105 => (if t104 = true then (if t105 = true then (some 0) else (some (-1))) else (if t105 = true then (some 1) else (if a0 < a1 then (some (-1)) else (if a0 > a1 then (some 1) else (some 0))))))
set_option maxHeartbeats 8000000 in
set_option maxRecDepth 100000 in
theorem cmp_Compare_int.calls (a0 : Int) (a1 : Int) (r : Int) (w : World) (h : cmp_Compare_int.f a0 a1 = some r) :
  Calls Tryz.prog 32 #[.int .i64 a0, .int .i64 a1] w fun e w' => e = .returned (.int .i64 r) ∧ Drawn0 w w' := by
 have H : ((cmp_isNaN_int.f a0).bind fun t104 => ((cmp_isNaN_int.f a1).bind fun t105 => (if t104 = true then (if t105 = true then (some 0) else (some (-1))) else (if t105 = true then (some 1) else (if a0 < a1 then (some (-1)) else (if a0 > a1 then (some 1) else (some 0))))))) = some r := h
 clear h
 replace H := Option.bind_eq_some_iff.mp H
 obtain ⟨t104, A30, H⟩ := H
 replace H : ((cmp_isNaN_int.f a1).bind fun t105 => (if t104 = true then (if t105 = true then (some 0) else (some (-1))) else (if t105 = true then (some 1) else (if a0 < a1 then (some (-1)) else (if a0 > a1 then (some 1) else (some 0)))))) = some r := H
 have A3 := Aside0.mk A30
 clear A30
 replace H := Option.bind_eq_some_iff.mp H
 obtain ⟨t105, A40, H⟩ := H
 replace H : (if t104 = true then (if t105 = true then (some 0) else (some (-1))) else (if t105 = true then (some 1) else (if a0 < a1 then (some (-1)) else (if a0 > a1 then (some 1) else (some 0))))) = some r := H
 have A4 := Aside0.mk A40
 clear A40
 by_cases c5 : t104 = true
 ·subst c5
  have H1 : (if t105 = true then (some 0) else (some (-1))) = some r := by rw [if_pos rfl] at H; exact H
  clear H
  have H := H1
  clear H1
  by_cases c6 : t105 = true
  ·subst c6
   have H1 : (some 0) = some r := by rw [if_pos rfl] at H; exact H
   clear H
   have H := H1
   clear H1
   obtain rfl := Option.some.inj H
   go_enter Tryz.func32, Tryz.ntmps32
   go_wp2_with (first | ((with_reducible refine gate_callee (f := 58) rfl ?_); refine gL (some 8) Tryz.func58 #[.int .i64 a0] ?_; (with_reducible refine (cmp_isNaN_int.calls a0 true _ A3.out).mono ?_); rintro e w' ⟨rfl, ⟨nd, rfl⟩⟩; refine ⟨_, rfl, ?_⟩) | ((with_reducible refine gate_callee (f := 58) rfl ?_); refine gL (some 10) Tryz.func58 #[.int .i64 a1] ?_; (with_reducible refine (cmp_isNaN_int.calls a1 true _ A4.out).mono ?_); rintro e w' ⟨rfl, ⟨nd, rfl⟩⟩; refine ⟨_, rfl, ?_⟩))
   go_ret
   exact ⟨by first | rfl | (simp; done) | (simp [*]; done), by repeat (first | exact Drawn0.refl _ | apply Drawn0.step)⟩
  ·replace c6 := Bool.eq_false_iff.mpr c6
   subst c6
   have H1 : (some (-1)) = some r := by rw [if_neg (show ¬ (false = true) by decide)] at H; exact H
   clear H
   have H := H1
   clear H1
   obtain rfl := Option.some.inj H
   go_enter Tryz.func32, Tryz.ntmps32
   go_wp2_with (first | ((with_reducible refine gate_callee (f := 58) rfl ?_); refine gL (some 8) Tryz.func58 #[.int .i64 a0] ?_; (with_reducible refine (cmp_isNaN_int.calls a0 true _ A3.out).mono ?_); rintro e w' ⟨rfl, ⟨nd, rfl⟩⟩; refine ⟨_, rfl, ?_⟩) | ((with_reducible refine gate_callee (f := 58) rfl ?_); refine gL (some 10) Tryz.func58 #[.int .i64 a1] ?_; (with_reducible refine (cmp_isNaN_int.calls a1 false _ A4.out).mono ?_); rintro e w' ⟨rfl, ⟨nd, rfl⟩⟩; refine ⟨_, rfl, ?_⟩))
   go_ret
   exact ⟨by first | rfl | (simp; done) | (simp [*]; done), by repeat (first | exact Drawn0.refl _ | apply Drawn0.step)⟩
 ·replace c5 := Bool.eq_false_iff.mpr c5
  subst c5
  have H1 : (if t105 = true then (some 1) else (if a0 < a1 then (some (-1)) else (if a0 > a1 then (some 1) else (some 0)))) = some r := by rw [if_neg (show ¬ (false = true) by decide)] at H; exact H
  clear H
  have H := H1
  clear H1
  by_cases c7 : t105 = true
  ·subst c7
   have H1 : (some 1) = some r := by rw [if_pos rfl] at H; exact H
   clear H
   have H := H1
   clear H1
   obtain rfl := Option.some.inj H
   go_enter Tryz.func32, Tryz.ntmps32
   go_wp2_with (first | ((with_reducible refine gate_callee (f := 58) rfl ?_); refine gL (some 8) Tryz.func58 #[.int .i64 a0] ?_; (with_reducible refine (cmp_isNaN_int.calls a0 false _ A3.out).mono ?_); rintro e w' ⟨rfl, ⟨nd, rfl⟩⟩; refine ⟨_, rfl, ?_⟩) | ((with_reducible refine gate_callee (f := 58) rfl ?_); refine gL (some 10) Tryz.func58 #[.int .i64 a1] ?_; (with_reducible refine (cmp_isNaN_int.calls a1 true _ A4.out).mono ?_); rintro e w' ⟨rfl, ⟨nd, rfl⟩⟩; refine ⟨_, rfl, ?_⟩))
   go_ret
   exact ⟨by first | rfl | (simp; done) | (simp [*]; done), by repeat (first | exact Drawn0.refl _ | apply Drawn0.step)⟩
  ·replace c7 := Bool.eq_false_iff.mpr c7
   subst c7
   have H1 : (if a0 < a1 then (some (-1)) else (if a0 > a1 then (some 1) else (some 0))) = some r := by rw [if_neg (show ¬ (false = true) by decide)] at H; exact H
   clear H
   have H := H1
   clear H1
   by_cases c8 : a0 < a1
   ·rw [if_pos c8] at H
    have c8b0 : decide (a0 < a1) = true := decide_eq_true c8
    clear c8
    obtain rfl := Option.some.inj H
    go_enter Tryz.func32, Tryz.ntmps32
    go_wp2_with (first | ((with_reducible refine gate_callee (f := 58) rfl ?_); refine gL (some 8) Tryz.func58 #[.int .i64 a0] ?_; (with_reducible refine (cmp_isNaN_int.calls a0 false _ A3.out).mono ?_); rintro e w' ⟨rfl, ⟨nd, rfl⟩⟩; refine ⟨_, rfl, ?_⟩) | ((with_reducible refine gate_callee (f := 58) rfl ?_); refine gL (some 10) Tryz.func58 #[.int .i64 a1] ?_; (with_reducible refine (cmp_isNaN_int.calls a1 false _ A4.out).mono ?_); rintro e w' ⟨rfl, ⟨nd, rfl⟩⟩; refine ⟨_, rfl, ?_⟩))
    go_ret
    exact ⟨by first | rfl | (simp; done) | (simp [*]; done), by repeat (first | exact Drawn0.refl _ | apply Drawn0.step)⟩
   ·rw [if_neg c8] at H
    have c8b0 : decide (a0 < a1) = false := decide_eq_false c8
    clear c8
    by_cases c9 : a0 > a1
    ·rw [if_pos c9] at H
     have c9b0 : decide (a1 < a0) = true := decide_eq_true c9
     clear c9
     obtain rfl := Option.some.inj H
     go_enter Tryz.func32, Tryz.ntmps32
     go_wp2_with (first | ((with_reducible refine gate_callee (f := 58) rfl ?_); refine gL (some 8) Tryz.func58 #[.int .i64 a0] ?_; (with_reducible refine (cmp_isNaN_int.calls a0 false _ A3.out).mono ?_); rintro e w' ⟨rfl, ⟨nd, rfl⟩⟩; refine ⟨_, rfl, ?_⟩) | ((with_reducible refine gate_callee (f := 58) rfl ?_); refine gL (some 10) Tryz.func58 #[.int .i64 a1] ?_; (with_reducible refine (cmp_isNaN_int.calls a1 false _ A4.out).mono ?_); rintro e w' ⟨rfl, ⟨nd, rfl⟩⟩; refine ⟨_, rfl, ?_⟩))
     go_ret
     exact ⟨by first | rfl | (simp; done) | (simp [*]; done), by repeat (first | exact Drawn0.refl _ | apply Drawn0.step)⟩
    ·rw [if_neg c9] at H
     have c9b0 : decide (a1 < a0) = false := decide_eq_false c9
     clear c9
     obtain rfl := Option.some.inj H
     go_enter Tryz.func32, Tryz.ntmps32
     go_wp2_with (first | ((with_reducible refine gate_callee (f := 58) rfl ?_); refine gL (some 8) Tryz.func58 #[.int .i64 a0] ?_; (with_reducible refine (cmp_isNaN_int.calls a0 false _ A3.out).mono ?_); rintro e w' ⟨rfl, ⟨nd, rfl⟩⟩; refine ⟨_, rfl, ?_⟩) | ((with_reducible refine gate_callee (f := 58) rfl ?_); refine gL (some 10) Tryz.func58 #[.int .i64 a1] ?_; (with_reducible refine (cmp_isNaN_int.calls a1 false _ A4.out).mono ?_); rintro e w' ⟨rfl, ⟨nd, rfl⟩⟩; refine ⟨_, rfl, ?_⟩))
     go_ret
     exact ⟨by first | rfl | (simp; done) | (simp [*]; done), by repeat (first | exact Drawn0.refl _ | apply Drawn0.step)⟩

/-! ### directory_rank: function 33 -/
def directory_rank.f (a0 : ByteArray) : Option (Int) := if a0.toList = ([0] : List UInt8) then (some 0) else (if a0.toList = ([1] : List UInt8) then (some 1) else (some 2))
set_option maxHeartbeats 8000000 in
set_option maxRecDepth 100000 in
theorem directory_rank.calls (a0 : ByteArray) (r : Int) (w : World) (h : directory_rank.f a0 = some r) :
  Calls Tryz.prog 33 #[.string a0] w fun e w' => e = .returned (.int .i64 r) ∧ Drawn0 w w' := by
 have H : (if a0.toList = ([0] : List UInt8) then (some 0) else (if a0.toList = ([1] : List UInt8) then (some 1) else (some 2))) = some r := h
 clear h
 by_cases c2 : a0.toList = ([0] : List UInt8)
 ·rw [if_pos c2] at H
  have c2b0 : (a0.toList == ([0] : List UInt8)) = true := beq_iff_eq.mpr c2
  have c2b1 : (a0.toList != ([0] : List UInt8)) = false := bne_eq_false_iff_eq.mpr c2
  clear c2
  obtain rfl := Option.some.inj H
  go_enter Tryz.func33, Tryz.ntmps33
  go_wp2
  go_ret
  exact ⟨by first | rfl | (simp; done) | (simp [*]; done), by repeat (first | exact Drawn0.refl _ | apply Drawn0.step)⟩
 ·rw [if_neg c2] at H
  have c2b0 : (a0.toList == ([0] : List UInt8)) = false := beq_eq_false_iff_ne.mpr c2
  have c2b1 : (a0.toList != ([0] : List UInt8)) = true := bne_iff_ne.mpr c2
  by_cases c3 : a0.toList = ([1] : List UInt8)
  ·rw [if_pos c3] at H
   have c3b0 : (a0.toList == ([1] : List UInt8)) = true := beq_iff_eq.mpr c3
   have c3b1 : (a0.toList != ([1] : List UInt8)) = false := bne_eq_false_iff_eq.mpr c3
   clear c3
   obtain rfl := Option.some.inj H
   go_enter Tryz.func33, Tryz.ntmps33
   go_wp2
   go_ret
   exact ⟨by first | rfl | (simp; done) | (simp [*]; done), by repeat (first | exact Drawn0.refl _ | apply Drawn0.step)⟩
  ·rw [if_neg c3] at H
   have c3b0 : (a0.toList == ([1] : List UInt8)) = false := beq_eq_false_iff_ne.mpr c3
   have c3b1 : (a0.toList != ([1] : List UInt8)) = true := bne_iff_ne.mpr c3
   obtain rfl := Option.some.inj H
   go_enter Tryz.func33, Tryz.ntmps33
   go_wp2
   go_ret
   exact ⟨by first | rfl | (simp; done) | (simp [*]; done), by repeat (first | exact Drawn0.refl _ | apply Drawn0.step)⟩

/-! ### cmp_isNaN_byte: function 84 -/
/-! ### cmp_Compare_byte: function 60 -/
end Go.Proofs.YthblghfobnhoeaaGreat.A
namespace Go.Proofs.YthblghfobnhoeaaGreat.A
open Go.RowKit Go.Proofs.YthblghfobnhoeaaGreat.H Go.Proofs.YthblghfobnhoeaaGreatW.PrintWords Go.Proofs.YthblghfobnhoeaaGreatW.PrintLast Go.Proofs.YthblghfobnhoeaaGreatW.PrintMore
attribute [local go_sem] max2_int min2_int max_two min_two max_three min_three max_four min_four   -- for this text's walks alone
set_option linter.unusedVariables false
set_option linter.unusedSimpArgs false

/-! ### datetime_isTime: function 116 -/
def datetime_isTime.f (a0 : Int) : Option (Bool) := if a0 ≥ 315532800 then (some (decide (a0 ≤ 4102444799))) else (some false)
set_option maxHeartbeats 8000000 in
set_option maxRecDepth 100000 in
theorem datetime_isTime.calls (a0 : Int) (r : Bool) (w : World) (h : datetime_isTime.f a0 = some r) :
  Calls Tryz.prog 116 #[.int .i64 a0] w fun e w' => e = .returned (.bool r) ∧ Drawn0 w w' := by
 have H : (if a0 ≥ 315532800 then (some (decide (a0 ≤ 4102444799))) else (some false)) = some r := h
 clear h
 by_cases c2 : a0 ≥ 315532800
 ·rw [if_pos c2] at H
  have c2b0 : decide (315532800 ≤ a0) = true := decide_eq_true c2
  clear c2
  obtain rfl := Option.some.inj H
  go_enter Tryz.func116, Tryz.ntmps116
  go_wp2
  go_ret
  exact ⟨by first | rfl | (simp; done) | (simp [*]; done), by repeat (first | exact Drawn0.refl _ | apply Drawn0.step)⟩
 ·rw [if_neg c2] at H
  have c2b0 : decide (315532800 ≤ a0) = false := decide_eq_false c2
  clear c2
  obtain rfl := Option.some.inj H
  go_enter Tryz.func116, Tryz.ntmps116
  go_wp2
  go_ret
  exact ⟨by first | rfl | (simp; done) | (simp [*]; done), by repeat (first | exact Drawn0.refl _ | apply Drawn0.step)⟩

/-! ### datetime_isZone: function 117 -/
def datetime_isZone.f (a0 : Int) : Option (Bool) := if a0 ≥ (-1440) then (some (decide (a0 ≤ 1440))) else (some false)
set_option maxHeartbeats 8000000 in
set_option maxRecDepth 100000 in
theorem datetime_isZone.calls (a0 : Int) (r : Bool) (w : World) (h : datetime_isZone.f a0 = some r) :
  Calls Tryz.prog 117 #[.int .i64 a0] w fun e w' => e = .returned (.bool r) ∧ Drawn0 w w' := by
 have H : (if a0 ≥ (-1440) then (some (decide (a0 ≤ 1440))) else (some false)) = some r := h
 clear h
 by_cases c2 : a0 ≥ (-1440)
 ·rw [if_pos c2] at H
  have c2b0 : decide ((-1440) ≤ a0) = true := decide_eq_true c2
  clear c2
  obtain rfl := Option.some.inj H
  go_enter Tryz.func117, Tryz.ntmps117
  go_wp2
  go_ret
  exact ⟨by first | rfl | (simp; done) | (simp [*]; done), by repeat (first | exact Drawn0.refl _ | apply Drawn0.step)⟩
 ·rw [if_neg c2] at H
  have c2b0 : decide ((-1440) ≤ a0) = false := decide_eq_false c2
  clear c2
  obtain rfl := Option.some.inj H
  go_enter Tryz.func117, Tryz.ntmps117
  go_wp2
  go_ret
  exact ⟨by first | rfl | (simp; done) | (simp [*]; done), by repeat (first | exact Drawn0.refl _ | apply Drawn0.step)⟩

/-! ### datetime_leap: function 132 -/
def datetime_leap.f (a0 : Int) : Option (Bool) := if (Int.tmod a0 400) = 0 then (some true) else (if (Int.tmod a0 4) = 0 then (some ((Int.tmod a0 100) != 0)) else (some false))
set_option maxHeartbeats 8000000 in
set_option maxRecDepth 100000 in
theorem datetime_leap.calls (a0 : Int) (r : Bool) (w : World) (h : datetime_leap.f a0 = some r) :
  Calls Tryz.prog 132 #[.int .i64 a0] w fun e w' => e = .returned (.bool r) ∧ Drawn0 w w' := by
 have H : (if (Int.tmod a0 400) = 0 then (some true) else (if (Int.tmod a0 4) = 0 then (some ((Int.tmod a0 100) != 0)) else (some false))) = some r := h
 clear h
 by_cases c2 : (Int.tmod a0 400) = 0
 ·rw [if_pos c2] at H
  have c2b0 : ((Int.tmod a0 400) == 0) = true := beq_iff_eq.mpr c2
  have c2b1 : ((Int.tmod a0 400) != 0) = false := bne_eq_false_iff_eq.mpr c2
  clear c2
  obtain rfl := Option.some.inj H
  go_enter Tryz.func132, Tryz.ntmps132
  go_wp2
  go_ret
  exact ⟨by first | rfl | (simp; done) | (simp [*]; done), by repeat (first | exact Drawn0.refl _ | apply Drawn0.step)⟩
 ·rw [if_neg c2] at H
  have c2b0 : ((Int.tmod a0 400) == 0) = false := beq_eq_false_iff_ne.mpr c2
  have c2b1 : ((Int.tmod a0 400) != 0) = true := bne_iff_ne.mpr c2
  by_cases c3 : (Int.tmod a0 4) = 0
  ·rw [if_pos c3] at H
   have c3b0 : ((Int.tmod a0 4) == 0) = true := beq_iff_eq.mpr c3
   have c3b1 : ((Int.tmod a0 4) != 0) = false := bne_eq_false_iff_eq.mpr c3
   clear c3
   obtain rfl := Option.some.inj H
   go_enter Tryz.func132, Tryz.ntmps132
   go_wp2
   go_ret
   exact ⟨by first | rfl | (simp; done) | (simp [*]; done), by repeat (first | exact Drawn0.refl _ | apply Drawn0.step)⟩
  ·rw [if_neg c3] at H
   have c3b0 : ((Int.tmod a0 4) == 0) = false := beq_eq_false_iff_ne.mpr c3
   have c3b1 : ((Int.tmod a0 4) != 0) = true := bne_iff_ne.mpr c3
   obtain rfl := Option.some.inj H
   go_enter Tryz.func132, Tryz.ntmps132
   go_wp2
   go_ret
   exact ⟨by first | rfl | (simp; done) | (simp [*]; done), by repeat (first | exact Drawn0.refl _ | apply Drawn0.step)⟩

/-! ### datetime_yearDays: function 118 -/
def datetime_yearDays.f (a0 : Int) : Option (Int) := (datetime_leap.f a0).bind fun t158 => (if t158 = true then (some 366) else (some 365))
set_option maxHeartbeats 8000000 in
set_option maxRecDepth 100000 in
theorem datetime_yearDays.calls0 (a0 : Int) (r : Int) (w : World) (h : datetime_yearDays.f a0 = some r) :
  Calls Tryz.prog 118 #[.int .i64 a0] w fun e w' => e = .returned (.int .i64 r) ∧ Drawn0 w w' := by
 have H : ((datetime_leap.f a0).bind fun t158 => (if t158 = true then (some 366) else (some 365))) = some r := h
 clear h
 replace H := Option.bind_eq_some_iff.mp H
 obtain ⟨t158, A20, H⟩ := H
 replace H : (if t158 = true then (some 366) else (some 365)) = some r := H
 have A2 := Aside0.mk A20
 clear A20
 by_cases c3 : t158 = true
 ·subst c3
  have H1 : (some 366) = some r := by rw [if_pos rfl] at H; exact H
  clear H
  have H := H1
  clear H1
  obtain rfl := Option.some.inj H
  go_enter Tryz.func118, Tryz.ntmps118
  go_wp2_with (first | ((with_reducible refine gate_callee (f := 132) rfl ?_); refine gL (some 4) Tryz.func132 #[.int .i64 a0] ?_; (with_reducible refine (datetime_leap.calls a0 true _ A2.out).mono ?_); rintro e w' ⟨rfl, ⟨nd, rfl⟩⟩; refine ⟨_, rfl, ?_⟩))
  go_ret
  exact ⟨by first | rfl | (simp; done) | (simp [*]; done), by repeat (first | exact Drawn0.refl _ | apply Drawn0.step)⟩
 ·replace c3 := Bool.eq_false_iff.mpr c3
  subst c3
  have H1 : (some 365) = some r := by rw [if_neg (show ¬ (false = true) by decide)] at H; exact H
  clear H
  have H := H1
  clear H1
  obtain rfl := Option.some.inj H
  go_enter Tryz.func118, Tryz.ntmps118
  go_wp2_with (first | ((with_reducible refine gate_callee (f := 132) rfl ?_); refine gL (some 4) Tryz.func132 #[.int .i64 a0] ?_; (with_reducible refine (datetime_leap.calls a0 false _ A2.out).mono ?_); rintro e w' ⟨rfl, ⟨nd, rfl⟩⟩; refine ⟨_, rfl, ?_⟩))
  go_ret
  exact ⟨by first | rfl | (simp; done) | (simp [*]; done), by repeat (first | exact Drawn0.refl _ | apply Drawn0.step)⟩

/-- The same, told as of a function that may make memory. -/
theorem datetime_yearDays.calls (a0 : Int) (r : Int) (w : World) (h : datetime_yearDays.f a0 = some r) :
  Calls Tryz.prog 118 #[.int .i64 a0] w fun e w' => e = .returned (.int .i64 r) ∧ Below w.heap.size w w' :=
 (datetime_yearDays.calls0 a0 r w h).mono fun _ _ h_ => ⟨h_.1, h_.2.below⟩

end Go.Proofs.YthblghfobnhoeaaGreat.A
namespace Go.Proofs.YthblghfobnhoeaaGreat.H
open Go.RowKit Go.Proofs.YthblghfobnhoeaaGreatW.PrintWords
set_option linter.unusedVariables false

def leapB (y : Int) : Bool := (Int.tmod y 400 == 0) || ((Int.tmod y 4 == 0) && (Int.tmod y 100 != 0))

theorem leap_any (y : Int) (w : World) : Calls Tryz.prog 132 #[.int .i64 y] w fun e w' => e = .returned (.bool (leapB y)) ∧ w = w' := by
 by_cases h1 : Int.tmod y 400 = 0
 ·have e1 : (Int.tmod y 400 == 0) = true := by simp [h1]
  go_enter Tryz.func132, Tryz.ntmps132
  go_wp2
  go_ret
  exact ⟨by simp [leapB, h1], rfl⟩
 ·have e1 : (Int.tmod y 400 == 0) = false := by simp [h1]
  by_cases h2 : Int.tmod y 4 = 0
  ·have e2 : (Int.tmod y 4 == 0) = true := by simp [h2]
   clear h1 h2
   go_enter Tryz.func132, Tryz.ntmps132
   go_wp2
   go_ret
   exact ⟨by simp [leapB, e1, e2], rfl⟩
  ·have e2 : (Int.tmod y 4 == 0) = false := by simp [h2]
   clear h1 h2
   go_enter Tryz.func132, Tryz.ntmps132
   go_wp2
   go_ret
   exact ⟨by simp [leapB, e1, e2], rfl⟩

end Go.Proofs.YthblghfobnhoeaaGreat.H
namespace Go.Proofs.YthblghfobnhoeaaGreat.H
open Go.RowKit Go.Proofs.YthblghfobnhoeaaGreatW.PrintWords
set_option linter.unusedVariables false

set_option maxHeartbeats 4000000 in
theorem month_at (y m : Int) (w : World) (h0 : 1 ≤ m) (h1 : m ≤ 12) (h2 : ¬ m = 2) :
  Calls Tryz.prog 119 #[.int .i64 y, .int .i64 m] w fun e w' => e = .returned (.int .i64 (mlen m)) ∧ Below w.heap.size w w' := by
 rcases (by omega : m = 1 ∨ m = 3 ∨ m = 4 ∨ m = 5 ∨ m = 6 ∨ m = 7 ∨ m = 8 ∨ m = 9 ∨ m = 10 ∨ m = 11 ∨ m = 12) with rfl | rfl | rfl | rfl | rfl | rfl | rfl | rfl | rfl | rfl | rfl
 all_goals
  go_enter Tryz.func119, Tryz.ntmps119
  go_wp2
  go_ret
  exact ⟨rfl, (Below.refl _ _).alloc (Nat.le_refl _) _⟩

theorem month_feb (y : Int) (w : World) :
  Calls Tryz.prog 119 #[.int .i64 y, .int .i64 2] w fun e w' => e = .returned (.int .i64 (if leapB y then 29 else 28)) ∧ Below w.heap.size w w' := by
 cases h : leapB y
 all_goals
  go_enter Tryz.func119, Tryz.ntmps119
  go_wp2_with (go_at_call 132; refine (leap_any _ _).mono ?_; rintro e w' ⟨rfl, rfl⟩)
  go_ret
  exact ⟨rfl, (Below.refl _ _).alloc (Nat.le_refl _) _⟩

/-- The days of a month, of whatever year. -/
def mdays (y m : Int) : Int := if m = 2 then (if leapB y then 29 else 28) else mlen m
theorem mdays_bd (y m : Int) : 28 ≤ mdays y m ∧ mdays y m ≤ 31 := by
 unfold mdays mlen
 repeat' split
 all_goals omega
theorem month_any (y m : Int) (w : World) (h0 : 1 ≤ m) (h1 : m ≤ 12) :
  Calls Tryz.prog 119 #[.int .i64 y, .int .i64 m] w fun e w' => e = .returned (.int .i64 (mdays y m)) ∧ Below w.heap.size w w' := by
 by_cases h2 : m = 2
 ·subst h2
  unfold mdays
  rw [if_pos rfl]
  exact month_feb y w
 ·unfold mdays
  rw [if_neg h2]
  exact month_at y m w h0 h1 h2

/-- datetime.monthDays. -/
def datetime_monthDays.f (a0 a1 : Int) : Option Int := if 1 ≤ a1 ∧ a1 ≤ 12 then some (mdays a0 a1) else none
theorem datetime_monthDays.calls (a0 : Int) (a1 : Int) (r : Int) (w : World) (h : datetime_monthDays.f a0 a1 = some r) :
  Calls Tryz.prog 119 #[.int .i64 a0, .int .i64 a1] w fun e w' => e = .returned (.int .i64 r) ∧ Below w.heap.size w w' := by
 unfold datetime_monthDays.f at h
 by_cases hc : 1 ≤ a1 ∧ a1 ≤ 12
 ·rw [if_pos hc] at h
  obtain rfl := Option.some.inj h
  exact month_any a0 a1 w hc.1 hc.2
 ·rw [if_neg hc] at h
  cases h

end Go.Proofs.YthblghfobnhoeaaGreat.H
namespace Go.Proofs.YthblghfobnhoeaaGreat.A
open Go.RowKit Go.Proofs.YthblghfobnhoeaaGreat.H Go.Proofs.YthblghfobnhoeaaGreatW.PrintWords Go.Proofs.YthblghfobnhoeaaGreatW.PrintLast Go.Proofs.YthblghfobnhoeaaGreatW.PrintMore
attribute [local go_sem] max2_int min2_int max_two min_two max_three min_three max_four min_four   -- for this text's walks alone
set_option linter.unusedVariables false
set_option linter.unusedSimpArgs false

/-! ### datetime_Split: function 93 -/
mutual
def datetime_Split.j0 : Nat → Int → Int → Bool → Option (Int × Int × Int × Int × Int × Int × Int)
 | 0, _, _, _ => none
 | k + 1, x0, x1, x17 => if x17 = true then (some (0, 0, 0, 0, 0, 0, 2)) else (datetime_Split.l0 k (wrap64 (Int.tdiv (wrap64 (x0 + (wrap64 (60 * x1)))) 86400)) 1970 1 0 (wrap64 (Int.tdiv (Int.tmod (wrap64 (x0 + (wrap64 (60 * x1)))) 86400) 3600)) (Int.tmod (wrap64 (Int.tdiv (Int.tmod (wrap64 (x0 + (wrap64 (60 * x1)))) 86400) 60)) 60) (Int.tmod (wrap64 (x0 + (wrap64 (60 * x1)))) 60))
def datetime_Split.l0 : Nat → Int → Int → Int → Int → Int → Int → Int → Option (Int × Int × Int × Int × Int × Int × Int)
 | 0, _, _, _, _, _, _, _ => none
 | k + 1, x7, x163000, x163001, x163002, x163003, x163004, x163005 => (datetime_yearDays.f x163000).bind fun t163 => (if x7 ≥ t163 then ((datetime_yearDays.f x163000).bind fun t164 => (datetime_Split.l0 k (wrap64 (x7 - t164)) (wrap64 (x163000 + 1)) x163001 x163002 x163003 x163004 x163005)) else (datetime_Split.l1 k x7 x163000 x163001 x163002 x163003 x163004 x163005))
def datetime_Split.l1 : Nat → Int → Int → Int → Int → Int → Int → Int → Option (Int × Int × Int × Int × Int × Int × Int)
 | 0, _, _, _, _, _, _, _ => none
 | k + 1, x7, x163000, x163001, x163002, x163003, x163004, x163005 => (datetime_monthDays.f x163000 x163001).bind fun t165 => (if x7 ≥ t165 then ((datetime_monthDays.f x163000 x163001).bind fun t166 => (datetime_Split.l1 k (wrap64 (x7 - t166)) x163000 (wrap64 (x163001 + 1)) x163002 x163003 x163004 x163005)) else (some (x163000, x163001, wrap64 (x7 + 1), x163003, x163004, x163005, 0)))
end
def datetime_Split.f (k : Nat) (a0 : Int) (a1 : Int) : Option (Int × Int × Int × Int × Int × Int × Int) := (datetime_isTime.f a0).bind fun t160 => (if t160 = true then ((datetime_isZone.f a1).bind fun t161 => (datetime_Split.j0 k a0 a1 (!t161))) else (datetime_Split.j0 k a0 a1 true))
theorem datetime_Split.mono_l : ∀ k, (∀ y0 y1 y2, LeO (datetime_Split.j0 k y0 y1 y2) (datetime_Split.j0 (k + 1) y0 y1 y2)) ∧ (∀ y0 y1 y2 y3 y4 y5 y6, LeO (datetime_Split.l0 k y0 y1 y2 y3 y4 y5 y6) (datetime_Split.l0 (k + 1) y0 y1 y2 y3 y4 y5 y6)) ∧ (∀ y0 y1 y2 y3 y4 y5 y6, LeO (datetime_Split.l1 k y0 y1 y2 y3 y4 y5 y6) (datetime_Split.l1 (k + 1) y0 y1 y2 y3 y4 y5 y6))
 | 0 => ⟨fun _ _ _ r h => by simp [datetime_Split.j0] at h, fun _ _ _ _ _ _ _ r h => by simp [datetime_Split.l0] at h, fun _ _ _ _ _ _ _ r h => by simp [datetime_Split.l1] at h⟩
 | k + 1 => by
  obtain ⟨ih0, ih1, ih2⟩ := datetime_Split.mono_l k
  refine ⟨?_, ?_, ?_⟩
  ·intro y0 y1 y2
   unfold datetime_Split.j0
   repeat' first
   | (with_reducible exact ih0 _ _ _)
   | (with_reducible exact ih1 _ _ _ _ _ _ _)
   | (with_reducible exact ih2 _ _ _ _ _ _ _)
   | (with_reducible exact LeO.refl _)
   | (with_reducible exact LeO.none _)
   | (with_reducible refine LeO.ite ?_ ?_)
   | (with_reducible refine LeO.bind ?_ (fun _ => ?_))
   | exact ih0 _ _ _
   | exact ih1 _ _ _ _ _ _ _
   | exact ih2 _ _ _ _ _ _ _
   | exact LeO.none _
   | refine LeO.ite ?_ ?_
   | refine LeO.bind ?_ (fun _ => ?_)
  ·intro y0 y1 y2 y3 y4 y5 y6
   unfold datetime_Split.l0
   repeat' first
   | (with_reducible exact ih0 _ _ _)
   | (with_reducible exact ih1 _ _ _ _ _ _ _)
   | (with_reducible exact ih2 _ _ _ _ _ _ _)
   | (with_reducible exact LeO.refl _)
   | (with_reducible exact LeO.none _)
   | (with_reducible refine LeO.ite ?_ ?_)
   | (with_reducible refine LeO.bind ?_ (fun _ => ?_))
   | exact ih0 _ _ _
   | exact ih1 _ _ _ _ _ _ _
   | exact ih2 _ _ _ _ _ _ _
   | exact LeO.none _
   | refine LeO.ite ?_ ?_
   | refine LeO.bind ?_ (fun _ => ?_)
  ·intro y0 y1 y2 y3 y4 y5 y6
   unfold datetime_Split.l1
   repeat' first
   | (with_reducible exact ih0 _ _ _)
   | (with_reducible exact ih1 _ _ _ _ _ _ _)
   | (with_reducible exact ih2 _ _ _ _ _ _ _)
   | (with_reducible exact LeO.refl _)
   | (with_reducible exact LeO.none _)
   | (with_reducible refine LeO.ite ?_ ?_)
   | (with_reducible refine LeO.bind ?_ (fun _ => ?_))
   | exact ih0 _ _ _
   | exact ih1 _ _ _ _ _ _ _
   | exact ih2 _ _ _ _ _ _ _
   | exact LeO.none _
   | refine LeO.ite ?_ ?_
   | refine LeO.bind ?_ (fun _ => ?_)
theorem datetime_Split.mono : ∀ a0 a1 k, LeO (datetime_Split.f k a0 a1) (datetime_Split.f (k + 1) a0 a1) := by
 intro a0 a1 k
 obtain ⟨ih0, ih1, ih2⟩ := datetime_Split.mono_l k
 unfold datetime_Split.f
 repeat' first
   | (with_reducible exact ih0 _ _ _)
   | (with_reducible exact ih1 _ _ _ _ _ _ _)
   | (with_reducible exact ih2 _ _ _ _ _ _ _)
   | (with_reducible exact LeO.refl _)
   | (with_reducible exact LeO.none _)
   | (with_reducible refine LeO.ite ?_ ?_)
   | (with_reducible refine LeO.bind ?_ (fun _ => ?_))
   | exact ih0 _ _ _
   | exact ih1 _ _ _ _ _ _ _
   | exact ih2 _ _ _ _ _ _ _
   | exact LeO.none _
   | refine LeO.ite ?_ ?_
   | refine LeO.bind ?_ (fun _ => ?_)
set_option maxHeartbeats 8000000 in
set_option maxRecDepth 100000 in
theorem datetime_Split.calls (k : Nat) (a0 : Int) (a1 : Int) (r1 : Int) (r2 : Int) (r3 : Int) (r4 : Int) (r5 : Int) (r6 : Int) (r7 : Int) (w : World) (h : datetime_Split.f k a0 a1 = some (r1, r2, r3, r4, r5, r6, r7)) :
  Calls Tryz.prog 93 #[.int .i64 a0, .int .i64 a1] w fun e w' => e = .returned (.tuple #[.agg #[.int .i64 r1, .int .i64 r2, .int .i64 r3, .int .i64 r4, .int .i64 r5, .int .i64 r6], .int .i64 r7]) ∧ Below w.heap.size w w' := by
 have hu119 := Tryz.underlying119
 have HB := Aside0.mk (Below.refl w.heap.size w)
 have H : ((datetime_isTime.f a0).bind fun t160 => (if t160 = true then ((datetime_isZone.f a1).bind fun t161 => (datetime_Split.j0 k a0 a1 (!t161))) else (datetime_Split.j0 k a0 a1 true))) = some (r1, r2, r3, r4, r5, r6, r7) := h
 clear h
 have HC3 := Aside0.mk H
 clear H
 go_enter Tryz.func93, Tryz.ntmps93
 go_upto_region 1 with (first | ((with_reducible refine gate_dst (N := 4) rfl ?_); refine box_event ?hg (N := 4) ?hd (cs := #[.int .i64 0, .int .i64 0, .int .i64 0, .int .i64 0, .int .i64 0, .int .i64 0]) (t := 119) ?hr ?_; (case hd => rfl); (case hg => rfl); (case hr => first | (go_simp; done) | (go_simp; rfl)); intro gb159 hg w4 hbox hb; have n0_ := Aside0.mk (below_step (uB HB.out) hb); have n1_ := Aside0.mk (hbox); have n2_ := Aside0.mk ((by rw [hg]; exact (below_size (uB HB.out)) : w.heap.size ≤ gb159)); have n3_ := Aside0.mk ((by rw [hg]; exact (below_size (uB HB.out)) : w.heap.size ≤ gb159)); clear HB; have HB := n0_; have BK159 := n1_; have GW159 := n2_; have GE159 := n3_; clear n0_ n1_ n2_ n3_; clear hb hbox hg))
 (try simp only [Act.put, List.setIfInBounds_toArray, List.set_cons_zero, List.set_cons_succ])
 go_cut [17] (fun v17 wc => ∃ (kq : Nat) (x17_2 : Bool), v17 = .bool x17_2 ∧ Aside0 (datetime_Split.j0 kq a0 a1 x17_2 = some (r1, r2, r3, r4, r5, r6, r7)) ∧ Aside0 (kq ≤ k) ∧ Aside0 (wc.heap[gb159]? = some (.cells #[.int .i64 0, .int .i64 0, .int .i64 0, .int .i64 0, .int .i64 0, .int .i64 0] 119 (0, 0))) ∧ Aside0 (Below w.heap.size w wc))
 case first =>
  have H := HC3.out
  clear HC3
  replace H := Option.bind_eq_some_iff.mp H
  obtain ⟨t160, A50, H⟩ := H
  replace H : (if t160 = true then ((datetime_isZone.f a1).bind fun t161 => (datetime_Split.j0 k a0 a1 (!t161))) else (datetime_Split.j0 k a0 a1 true)) = some (r1, r2, r3, r4, r5, r6, r7) := H
  have A5 := Aside0.mk A50
  clear A50
  by_cases c6 : t160 = true
  ·subst c6
   have H1 : ((datetime_isZone.f a1).bind fun t161 => (datetime_Split.j0 k a0 a1 (!t161))) = some (r1, r2, r3, r4, r5, r6, r7) := by rw [if_pos rfl] at H; exact H
   clear H
   have H := H1
   clear H1
   replace H := Option.bind_eq_some_iff.mp H
   obtain ⟨t161, A70, H⟩ := H
   replace H : (datetime_Split.j0 k a0 a1 (!t161)) = some (r1, r2, r3, r4, r5, r6, r7) := H
   have A7 := Aside0.mk A70
   clear A70
   have H' := Aside0.mk H
   clear H
   go_wp2_with (first | ((with_reducible refine gate_callee (f := 116) rfl ?_); refine gL (some 11) Tryz.func116 #[.int .i64 a0] ?_; (with_reducible refine (datetime_isTime.calls a0 true _ A5.out).mono ?_); rintro e w' ⟨rfl, ⟨nd, rfl⟩⟩; refine ⟨_, rfl, ?_⟩) | (go_at_call 117; (with_reducible refine (datetime_isZone.calls a1 t161 _ A7.out).mono ?_); rintro e w' ⟨rfl, ⟨nd, rfl⟩⟩))
   go_meet
   case rel => exact ⟨_, (!t161), (by first | rfl | (simp; done) | (simp [*]; done)), H', ⟨by first | omega | exact Nat.le_refl _⟩, ⟨by (with_reducible repeat (first | refine blk_drewN ?_ _ | refine blk_drew ?_ | refine blk_alloc ?_ _)); exact BK159.out⟩, ⟨by repeat (first | (with_reducible first | exact HB.out | apply below_alloc | apply pw_below_drewN | apply below_drew1 | refine below_set ?_ GE159.out) | exact HB.out)⟩⟩
  ·replace c6 := Bool.eq_false_iff.mpr c6
   subst c6
   have H1 : (datetime_Split.j0 k a0 a1 true) = some (r1, r2, r3, r4, r5, r6, r7) := by rw [if_neg (show ¬ (false = true) by decide)] at H; exact H
   clear H
   have H := H1
   clear H1
   have H' := Aside0.mk H
   clear H
   go_wp2_with (first | ((with_reducible refine gate_callee (f := 116) rfl ?_); refine gL (some 11) Tryz.func116 #[.int .i64 a0] ?_; (with_reducible refine (datetime_isTime.calls a0 false _ A5.out).mono ?_); rintro e w' ⟨rfl, ⟨nd, rfl⟩⟩; refine ⟨_, rfl, ?_⟩))
   go_meet
   case rel => exact ⟨_, (true), (by first | rfl | (simp; done) | (simp [*]; done)), H', ⟨by first | omega | exact Nat.le_refl _⟩, ⟨by (with_reducible repeat (first | refine blk_drewN ?_ _ | refine blk_drew ?_ | refine blk_alloc ?_ _)); exact BK159.out⟩, ⟨by repeat (first | (with_reducible first | exact HB.out | apply below_alloc | apply pw_below_drewN | apply below_drew1 | refine below_set ?_ GE159.out) | exact HB.out)⟩⟩
 case rest =>
  clear HC3
  try clear c1
  try clear p2
  try clear c6
  obtain ⟨kq, x17_2, rfl, HA, HJ2, BK159, HB⟩ := hcut
  cases kq with
  | zero => exact absurd HA.out (by simp [datetime_Split.j0])
  | succ kj2 =>
   have H := HA.out
   clear HA
   simp only [datetime_Split.j0] at H
   by_cases c8 : x17_2 = true
   ·subst c8
    have H1 : (some (0, 0, 0, 0, 0, 0, 2)) = some (r1, r2, r3, r4, r5, r6, r7) := by rw [if_pos rfl] at H; exact H
    clear H
    have H := H1
    clear H1
    simp only [Option.some.injEq, Prod.mk.injEq] at H
    obtain ⟨rfl, rfl, rfl, rfl, rfl, rfl, rfl⟩ := H
    have hcz9_0 : wc.cell? ⟨gb159, 0, none⟩ = some (.int .i64 0) := (blk_cell BK159.out 0).trans rfl
    have hcz9_1 : wc.cell? ⟨gb159, 1, none⟩ = some (.int .i64 0) := (blk_cell BK159.out 1).trans rfl
    have hcz9_2 : wc.cell? ⟨gb159, 2, none⟩ = some (.int .i64 0) := (blk_cell BK159.out 2).trans rfl
    have hcz9_3 : wc.cell? ⟨gb159, 3, none⟩ = some (.int .i64 0) := (blk_cell BK159.out 3).trans rfl
    have hcz9_4 : wc.cell? ⟨gb159, 4, none⟩ = some (.int .i64 0) := (blk_cell BK159.out 4).trans rfl
    have hcz9_5 : wc.cell? ⟨gb159, 5, none⟩ = some (.int .i64 0) := (blk_cell BK159.out 5).trans rfl
    have hfz9_0 := blk_frozen BK159.out 0
    have hfz9_1 := blk_frozen BK159.out 1
    have hfz9_2 := blk_frozen BK159.out 2
    have hfz9_3 := blk_frozen BK159.out 3
    have hfz9_4 := blk_frozen BK159.out 4
    have hfz9_5 := blk_frozen BK159.out 5
    go_wp2
    refine bodyPost_ret (results_ct rfl _ _ gb159 119 #[.int .i64 0, .int .i64 0, .int .i64 0, .int .i64 0, .int .i64 0, .int .i64 0] (0, 0) _ rfl (by (with_reducible repeat (first | refine blk_drewN ?_ _ | refine blk_drew ?_ | refine blk_alloc ?_ _)); refine blk_put (cs := #[.int .i64 0, .int .i64 0, .int .i64 0, .int .i64 0, .int .i64 0, .int .i64 0]) ?_ 5 _ rfl; (with_reducible repeat (first | refine blk_drewN ?_ _ | refine blk_drew ?_ | refine blk_alloc ?_ _)); refine blk_put (cs := #[.int .i64 0, .int .i64 0, .int .i64 0, .int .i64 0, .int .i64 0, .int .i64 0]) ?_ 4 _ rfl; (with_reducible repeat (first | refine blk_drewN ?_ _ | refine blk_drew ?_ | refine blk_alloc ?_ _)); refine blk_put (cs := #[.int .i64 0, .int .i64 0, .int .i64 0, .int .i64 0, .int .i64 0, .int .i64 0]) ?_ 3 _ rfl; (with_reducible repeat (first | refine blk_drewN ?_ _ | refine blk_drew ?_ | refine blk_alloc ?_ _)); refine blk_put (cs := #[.int .i64 0, .int .i64 0, .int .i64 0, .int .i64 0, .int .i64 0, .int .i64 0]) ?_ 2 _ rfl; (with_reducible repeat (first | refine blk_drewN ?_ _ | refine blk_drew ?_ | refine blk_alloc ?_ _)); refine blk_put (cs := #[.int .i64 0, .int .i64 0, .int .i64 0, .int .i64 0, .int .i64 0, .int .i64 0]) ?_ 1 _ rfl; (with_reducible repeat (first | refine blk_drewN ?_ _ | refine blk_drew ?_ | refine blk_alloc ?_ _)); refine blk_put (cs := #[.int .i64 0, .int .i64 0, .int .i64 0, .int .i64 0, .int .i64 0, .int .i64 0]) ?_ 0 _ rfl; (with_reducible repeat (first | refine blk_drewN ?_ _ | refine blk_drew ?_ | refine blk_alloc ?_ _)); exact BK159.out) Tryz.underlying119 rfl (by kernel_rfl)) rfl ?_
    exact ⟨by first | rfl | (simp [errW_none, errW_some] <;> rfl) | (simp [*, errW_none, errW_some] <;> rfl), by repeat (first | (with_reducible first | exact HB.out | apply below_alloc | apply pw_below_drewN | apply below_drew1 | refine below_set ?_ GE159.out) | exact HB.out)⟩
   ·replace c8 := Bool.eq_false_iff.mpr c8
    subst c8
    have H1 : (datetime_Split.l0 kj2 (wrap64 (Int.tdiv (wrap64 (a0 + (wrap64 (60 * a1)))) 86400)) 1970 1 0 (wrap64 (Int.tdiv (Int.tmod (wrap64 (a0 + (wrap64 (60 * a1)))) 86400) 3600)) (Int.tmod (wrap64 (Int.tdiv (Int.tmod (wrap64 (a0 + (wrap64 (60 * a1)))) 86400) 60)) 60) (Int.tmod (wrap64 (a0 + (wrap64 (60 * a1)))) 60)) = some (r1, r2, r3, r4, r5, r6, r7) := by rw [if_neg (show ¬ (false = true) by decide)] at H; exact H
    clear H
    have H := H1
    clear H1
    have H' := Aside0.mk H
    clear H
    go_wp2_with (first | ((with_reducible refine gate_dst (N := 9) rfl ?_); refine box_event ?hg (N := 9) ?hd (cs := #[.int .i64 0, .int .i64 0, .int .i64 0, .int .i64 0, .int .i64 0, .int .i64 0]) (t := 119) ?hr ?_; (case hd => rfl); (case hg => rfl); (case hr => first | (go_simp; done) | (go_simp; rfl)); intro gb162 hg w10 hbox hb; have n0_ := Aside0.mk (blk_below (g := gb159) (o := .cells #[.int .i64 0, .int .i64 0, .int .i64 0, .int .i64 0, .int .i64 0, .int .i64 0] 119 (0, 0)) (by (with_reducible repeat (first | refine blk_drewN ?_ _ | refine blk_drew ?_ | refine blk_alloc ?_ _)); exact BK159.out) hb); have n1_ := Aside0.mk (below_step (by repeat (first | (with_reducible first | exact HB.out | apply below_alloc | apply pw_below_drewN | apply below_drew1 | refine below_set ?_ GE159.out) | exact HB.out)) hb); have n2_ := Aside0.mk (hbox); have n3_ := Aside0.mk ((by rw [hg]; exact (below_size (by repeat (first | (with_reducible first | exact HB.out | apply below_alloc | apply pw_below_drewN | apply below_drew1 | refine below_set ?_ GE159.out) | exact HB.out))) : w.heap.size ≤ gb162)); have n4_ := Aside0.mk ((by rw [hg]; exact (below_size (by repeat (first | (with_reducible first | exact HB.out | apply below_alloc | apply pw_below_drewN | apply below_drew1 | refine below_set ?_ GE159.out) | exact HB.out))) : w.heap.size ≤ gb162)); have n5_ := Aside0.mk ((by rw [hg]; exact Nat.ne_of_lt (blk_lt (g := gb159) (o := .cells #[.int .i64 0, .int .i64 0, .int .i64 0, .int .i64 0, .int .i64 0, .int .i64 0] 119 (0, 0)) (by (with_reducible repeat (first | refine blk_drewN ?_ _ | refine blk_drew ?_ | refine blk_alloc ?_ _)); exact BK159.out)) : gb159 ≠ gb162)); have n6_ := Aside0.mk ((by rw [hg]; exact Nat.ne_of_gt (blk_lt (g := gb159) (o := .cells #[.int .i64 0, .int .i64 0, .int .i64 0, .int .i64 0, .int .i64 0, .int .i64 0] 119 (0, 0)) (by (with_reducible repeat (first | refine blk_drewN ?_ _ | refine blk_drew ?_ | refine blk_alloc ?_ _)); exact BK159.out)) : gb162 ≠ gb159)); clear BK159; clear HB; have BK159 := n0_; have HB := n1_; have BK162 := n2_; have GW162 := n3_; have GE162 := n4_; have NB159_162 := n5_; have NB162_159 := n6_; clear n0_ n1_ n2_ n3_ n4_ n5_ n6_; clear hb hbox hg; have hnb11 := NB162_159.out; have hnc11 := NB159_162.out; have hcz12_0 : w10.cell? ⟨gb162, 0, none⟩ = some (.int .i64 0) := (blk_cell BK162.out 0).trans rfl; have hcz12_1 : w10.cell? ⟨gb162, 1, none⟩ = some (.int .i64 0) := (blk_cell BK162.out 1).trans rfl; have hcz12_2 : w10.cell? ⟨gb162, 2, none⟩ = some (.int .i64 0) := (blk_cell BK162.out 2).trans rfl; have hcz12_3 : w10.cell? ⟨gb162, 3, none⟩ = some (.int .i64 0) := (blk_cell BK162.out 3).trans rfl; have hcz12_4 : w10.cell? ⟨gb162, 4, none⟩ = some (.int .i64 0) := (blk_cell BK162.out 4).trans rfl; have hcz12_5 : w10.cell? ⟨gb162, 5, none⟩ = some (.int .i64 0) := (blk_cell BK162.out 5).trans rfl; have hfz12_0 := blk_frozen BK162.out 0; have hfz12_1 := blk_frozen BK162.out 1; have hfz12_2 := blk_frozen BK162.out 2; have hfz12_3 := blk_frozen BK162.out 3; have hfz12_4 := blk_frozen BK162.out 4; have hfz12_5 := blk_frozen BK162.out 5))
    go_loopg [7] kj2 (fun kq v7 w' => ∃ (x7_2 : Int) (x163000_2 : Int), v7 = .int .i64 x7_2 ∧ Aside0 (datetime_Split.l0 kq x7_2 x163000_2 1 0 (wrap64 (Int.tdiv (Int.tmod (wrap64 (a0 + (wrap64 (60 * a1)))) 86400) 3600)) (Int.tmod (wrap64 (Int.tdiv (Int.tmod (wrap64 (a0 + (wrap64 (60 * a1)))) 86400) 60)) 60) (Int.tmod (wrap64 (a0 + (wrap64 (60 * a1)))) 60) = some (r1, r2, r3, r4, r5, r6, r7)) ∧ Aside0 (kq ≤ kj2) ∧ Aside0 (w'.heap[gb159]? = some (.cells #[.int .i64 0, .int .i64 0, .int .i64 0, .int .i64 0, .int .i64 0, .int .i64 0] 119 (0, 0))) ∧ Aside0 (w'.heap[gb162]? = some (.cells #[.int .i64 x163000_2, .int .i64 1, .int .i64 0, .int .i64 (wrap64 (Int.tdiv (Int.tmod (wrap64 (a0 + (wrap64 (60 * a1)))) 86400) 3600)), .int .i64 (Int.tmod (wrap64 (Int.tdiv (Int.tmod (wrap64 (a0 + (wrap64 (60 * a1)))) 86400) 60)) 60), .int .i64 (Int.tmod (wrap64 (a0 + (wrap64 (60 * a1)))) 60)] 119 (0, 0))) ∧ Aside0 (Below w.heap.size w w'))
    case atStart => exact ⟨(wrap64 (Int.tdiv (wrap64 (a0 + (wrap64 (60 * a1)))) 86400)), (1970), (by first | rfl | (simp; done) | (simp [*]; done)), H', ⟨Nat.le_refl _⟩, ⟨by (with_reducible repeat (first | refine blk_drewN ?_ _ | refine blk_drew ?_ | refine blk_alloc ?_ _)); refine blk_far ?_ NB159_162.out _; (with_reducible repeat (first | refine blk_drewN ?_ _ | refine blk_drew ?_ | refine blk_alloc ?_ _)); refine blk_far ?_ NB159_162.out _; (with_reducible repeat (first | refine blk_drewN ?_ _ | refine blk_drew ?_ | refine blk_alloc ?_ _)); refine blk_far ?_ NB159_162.out _; (with_reducible repeat (first | refine blk_drewN ?_ _ | refine blk_drew ?_ | refine blk_alloc ?_ _)); refine blk_far ?_ NB159_162.out _; (with_reducible repeat (first | refine blk_drewN ?_ _ | refine blk_drew ?_ | refine blk_alloc ?_ _)); refine blk_far ?_ NB159_162.out _; (with_reducible repeat (first | refine blk_drewN ?_ _ | refine blk_drew ?_ | refine blk_alloc ?_ _)); refine blk_far ?_ NB159_162.out _; (with_reducible repeat (first | refine blk_drewN ?_ _ | refine blk_drew ?_ | refine blk_alloc ?_ _)); exact BK159.out⟩, ⟨by (with_reducible repeat (first | refine blk_drewN ?_ _ | refine blk_drew ?_ | refine blk_alloc ?_ _)); refine blk_put (cs := #[.int .i64 1970, .int .i64 1, .int .i64 0, .int .i64 (wrap64 (Int.tdiv (Int.tmod (wrap64 (a0 + (wrap64 (60 * a1)))) 86400) 3600)), .int .i64 (Int.tmod (wrap64 (Int.tdiv (Int.tmod (wrap64 (a0 + (wrap64 (60 * a1)))) 86400) 60)) 60), .int .i64 0]) ?_ 5 _ rfl; (with_reducible repeat (first | refine blk_drewN ?_ _ | refine blk_drew ?_ | refine blk_alloc ?_ _)); refine blk_put (cs := #[.int .i64 1970, .int .i64 1, .int .i64 0, .int .i64 (wrap64 (Int.tdiv (Int.tmod (wrap64 (a0 + (wrap64 (60 * a1)))) 86400) 3600)), .int .i64 0, .int .i64 0]) ?_ 4 _ rfl; (with_reducible repeat (first | refine blk_drewN ?_ _ | refine blk_drew ?_ | refine blk_alloc ?_ _)); refine blk_put (cs := #[.int .i64 1970, .int .i64 1, .int .i64 0, .int .i64 0, .int .i64 0, .int .i64 0]) ?_ 3 _ rfl; (with_reducible repeat (first | refine blk_drewN ?_ _ | refine blk_drew ?_ | refine blk_alloc ?_ _)); refine blk_put (cs := #[.int .i64 1970, .int .i64 1, .int .i64 0, .int .i64 0, .int .i64 0, .int .i64 0]) ?_ 2 _ rfl; (with_reducible repeat (first | refine blk_drewN ?_ _ | refine blk_drew ?_ | refine blk_alloc ?_ _)); refine blk_put (cs := #[.int .i64 1970, .int .i64 0, .int .i64 0, .int .i64 0, .int .i64 0, .int .i64 0]) ?_ 1 _ rfl; (with_reducible repeat (first | refine blk_drewN ?_ _ | refine blk_drew ?_ | refine blk_alloc ?_ _)); refine blk_put (cs := #[.int .i64 0, .int .i64 0, .int .i64 0, .int .i64 0, .int .i64 0, .int .i64 0]) ?_ 0 _ rfl; (with_reducible repeat (first | refine blk_drewN ?_ _ | refine blk_drew ?_ | refine blk_alloc ?_ _)); exact BK162.out⟩, ⟨by repeat (first | (with_reducible first | exact HB.out | apply below_alloc | apply pw_below_drewN | apply below_drew1 | refine below_set ?_ GE159.out | refine below_set ?_ GE162.out) | exact HB.out)⟩⟩
    case round =>
     clear H'
     try clear c1
     try clear p2
     try clear c6
     try clear p6
     try clear c8
     try clear c9
     try clear c11
     try clear hcz12_0
     try clear hcz12_1
     try clear hcz12_2
     try clear hcz12_3
     try clear hcz12_4
     try clear hcz12_5
     try clear hcz9_0
     try clear hcz9_1
     try clear hcz9_2
     try clear hcz9_3
     try clear hcz9_4
     try clear hcz9_5
     try clear hfz12_0
     try clear hfz12_1
     try clear hfz12_2
     try clear hfz12_3
     try clear hfz12_4
     try clear hfz12_5
     try clear hfz9_0
     try clear hfz9_1
     try clear hfz9_2
     try clear hfz9_3
     try clear hfz9_4
     try clear hfz9_5
     try clear p2
     obtain ⟨x7_2, x163000_2, rfl, HA, HK2, BK159, BK162, HB⟩ := hrel
     cases gk with
     | zero => exact absurd HA.out (by simp [datetime_Split.l0])
     | succ k2 =>
      have H := HA.out
      clear HA
      simp only [datetime_Split.l0] at H
      replace H := Option.bind_eq_some_iff.mp H
      obtain ⟨t163, A130, H⟩ := H
      replace H : (if x7_2 ≥ t163 then ((datetime_yearDays.f x163000_2).bind fun t164 => (datetime_Split.l0 k2 (wrap64 (x7_2 - t164)) (wrap64 (x163000_2 + 1)) 1 0 (wrap64 (Int.tdiv (Int.tmod (wrap64 (a0 + (wrap64 (60 * a1)))) 86400) 3600)) (Int.tmod (wrap64 (Int.tdiv (Int.tmod (wrap64 (a0 + (wrap64 (60 * a1)))) 86400) 60)) 60) (Int.tmod (wrap64 (a0 + (wrap64 (60 * a1)))) 60))) else (datetime_Split.l1 k2 x7_2 x163000_2 1 0 (wrap64 (Int.tdiv (Int.tmod (wrap64 (a0 + (wrap64 (60 * a1)))) 86400) 3600)) (Int.tmod (wrap64 (Int.tdiv (Int.tmod (wrap64 (a0 + (wrap64 (60 * a1)))) 86400) 60)) 60) (Int.tmod (wrap64 (a0 + (wrap64 (60 * a1)))) 60))) = some (r1, r2, r3, r4, r5, r6, r7) := H
      have A13 := Aside0.mk A130
      clear A130
      by_cases c14 : x7_2 ≥ t163
      ·rw [if_pos c14] at H
       have c14b0 : decide (t163 ≤ x7_2) = true := decide_eq_true c14
       clear c14
       replace H := Option.bind_eq_some_iff.mp H
       obtain ⟨t164, A150, H⟩ := H
       replace H : (datetime_Split.l0 k2 (wrap64 (x7_2 - t164)) (wrap64 (x163000_2 + 1)) 1 0 (wrap64 (Int.tdiv (Int.tmod (wrap64 (a0 + (wrap64 (60 * a1)))) 86400) 3600)) (Int.tmod (wrap64 (Int.tdiv (Int.tmod (wrap64 (a0 + (wrap64 (60 * a1)))) 86400) 60)) 60) (Int.tmod (wrap64 (a0 + (wrap64 (60 * a1)))) 60)) = some (r1, r2, r3, r4, r5, r6, r7) := H
       have A15 := Aside0.mk A150
       clear A150
       have H' := Aside0.mk H
       clear H
       have hnb16 := NB162_159.out
       have hnc16 := NB159_162.out
       have hcz17_0 : wr.cell? ⟨gb162, 0, none⟩ = some (.int .i64 x163000_2) := (blk_cell BK162.out 0).trans rfl
       have hcz17_1 : wr.cell? ⟨gb162, 1, none⟩ = some (.int .i64 1) := (blk_cell BK162.out 1).trans rfl
       have hcz17_2 : wr.cell? ⟨gb162, 2, none⟩ = some (.int .i64 0) := (blk_cell BK162.out 2).trans rfl
       have hcz17_3 : wr.cell? ⟨gb162, 3, none⟩ = some (.int .i64 (wrap64 (Int.tdiv (Int.tmod (wrap64 (a0 + (wrap64 (60 * a1)))) 86400) 3600))) := (blk_cell BK162.out 3).trans rfl
       have hcz17_4 : wr.cell? ⟨gb162, 4, none⟩ = some (.int .i64 (Int.tmod (wrap64 (Int.tdiv (Int.tmod (wrap64 (a0 + (wrap64 (60 * a1)))) 86400) 60)) 60)) := (blk_cell BK162.out 4).trans rfl
       have hcz17_5 : wr.cell? ⟨gb162, 5, none⟩ = some (.int .i64 (Int.tmod (wrap64 (a0 + (wrap64 (60 * a1)))) 60)) := (blk_cell BK162.out 5).trans rfl
       have hfz17_0 := blk_frozen BK162.out 0
       have hfz17_1 := blk_frozen BK162.out 1
       have hfz17_2 := blk_frozen BK162.out 2
       have hfz17_3 := blk_frozen BK162.out 3
       have hfz17_4 := blk_frozen BK162.out 4
       have hfz17_5 := blk_frozen BK162.out 5
       go_wp2_with (first | ((with_reducible refine gate_callee (f := 118) rfl ?_); refine gL (some 38) Tryz.func118 #[.int .i64 x163000_2] ?_; (with_reducible refine (datetime_yearDays.calls x163000_2 t163 _ A13.out).mono ?_); rintro e w18 ⟨rfl, hb⟩; refine ⟨_, rfl, ?_⟩; have n0_ := Aside0.mk (blk_below (g := gb159) (o := .cells #[.int .i64 0, .int .i64 0, .int .i64 0, .int .i64 0, .int .i64 0, .int .i64 0] 119 (0, 0)) (by (with_reducible repeat (first | refine blk_drewN ?_ _ | refine blk_drew ?_ | refine blk_alloc ?_ _)); exact BK159.out) hb); have n1_ := Aside0.mk (blk_below (g := gb162) (o := .cells #[.int .i64 x163000_2, .int .i64 1, .int .i64 0, .int .i64 (wrap64 (Int.tdiv (Int.tmod (wrap64 (a0 + (wrap64 (60 * a1)))) 86400) 3600)), .int .i64 (Int.tmod (wrap64 (Int.tdiv (Int.tmod (wrap64 (a0 + (wrap64 (60 * a1)))) 86400) 60)) 60), .int .i64 (Int.tmod (wrap64 (a0 + (wrap64 (60 * a1)))) 60)] 119 (0, 0)) (by (with_reducible repeat (first | refine blk_drewN ?_ _ | refine blk_drew ?_ | refine blk_alloc ?_ _)); exact BK162.out) hb); have n2_ := Aside0.mk (below_step (by repeat (first | (with_reducible first | exact HB.out | apply below_alloc | apply pw_below_drewN | apply below_drew1 | refine below_set ?_ GE159.out | refine below_set ?_ GE162.out) | exact HB.out)) hb); clear BK159; clear BK162; clear HB; have BK159 := n0_; have BK162 := n1_; have HB := n2_; clear n0_ n1_ n2_; (try clear hb); (try clear hb2); (try clear hk); (try clear hi); have hcz19_0 : w18.cell? ⟨gb162, 0, none⟩ = some (.int .i64 x163000_2) := (blk_cell BK162.out 0).trans rfl; have hcz19_1 : w18.cell? ⟨gb162, 1, none⟩ = some (.int .i64 1) := (blk_cell BK162.out 1).trans rfl; have hcz19_2 : w18.cell? ⟨gb162, 2, none⟩ = some (.int .i64 0) := (blk_cell BK162.out 2).trans rfl; have hcz19_3 : w18.cell? ⟨gb162, 3, none⟩ = some (.int .i64 (wrap64 (Int.tdiv (Int.tmod (wrap64 (a0 + (wrap64 (60 * a1)))) 86400) 3600))) := (blk_cell BK162.out 3).trans rfl; have hcz19_4 : w18.cell? ⟨gb162, 4, none⟩ = some (.int .i64 (Int.tmod (wrap64 (Int.tdiv (Int.tmod (wrap64 (a0 + (wrap64 (60 * a1)))) 86400) 60)) 60)) := (blk_cell BK162.out 4).trans rfl; have hcz19_5 : w18.cell? ⟨gb162, 5, none⟩ = some (.int .i64 (Int.tmod (wrap64 (a0 + (wrap64 (60 * a1)))) 60)) := (blk_cell BK162.out 5).trans rfl; have hfz19_0 := blk_frozen BK162.out 0; have hfz19_1 := blk_frozen BK162.out 1; have hfz19_2 := blk_frozen BK162.out 2; have hfz19_3 := blk_frozen BK162.out 3; have hfz19_4 := blk_frozen BK162.out 4; have hfz19_5 := blk_frozen BK162.out 5) | ((with_reducible refine gate_callee (f := 118) rfl ?_); refine gL (some 43) Tryz.func118 #[.int .i64 x163000_2] ?_; (with_reducible refine (datetime_yearDays.calls x163000_2 t164 _ A15.out).mono ?_); rintro e w20 ⟨rfl, hb⟩; refine ⟨_, rfl, ?_⟩; have n0_ := Aside0.mk (blk_below (g := gb159) (o := .cells #[.int .i64 0, .int .i64 0, .int .i64 0, .int .i64 0, .int .i64 0, .int .i64 0] 119 (0, 0)) (by (with_reducible repeat (first | refine blk_drewN ?_ _ | refine blk_drew ?_ | refine blk_alloc ?_ _)); exact BK159.out) hb); have n1_ := Aside0.mk (blk_below (g := gb162) (o := .cells #[.int .i64 x163000_2, .int .i64 1, .int .i64 0, .int .i64 (wrap64 (Int.tdiv (Int.tmod (wrap64 (a0 + (wrap64 (60 * a1)))) 86400) 3600)), .int .i64 (Int.tmod (wrap64 (Int.tdiv (Int.tmod (wrap64 (a0 + (wrap64 (60 * a1)))) 86400) 60)) 60), .int .i64 (Int.tmod (wrap64 (a0 + (wrap64 (60 * a1)))) 60)] 119 (0, 0)) (by (with_reducible repeat (first | refine blk_drewN ?_ _ | refine blk_drew ?_ | refine blk_alloc ?_ _)); exact BK162.out) hb); have n2_ := Aside0.mk (below_step (by repeat (first | (with_reducible first | exact HB.out | apply below_alloc | apply pw_below_drewN | apply below_drew1 | refine below_set ?_ GE159.out | refine below_set ?_ GE162.out) | exact HB.out)) hb); clear BK159; clear BK162; clear HB; have BK159 := n0_; have BK162 := n1_; have HB := n2_; clear n0_ n1_ n2_; (try clear hb); (try clear hb2); (try clear hk); (try clear hi); have hcz21_0 : w20.cell? ⟨gb162, 0, none⟩ = some (.int .i64 x163000_2) := (blk_cell BK162.out 0).trans rfl; have hcz21_1 : w20.cell? ⟨gb162, 1, none⟩ = some (.int .i64 1) := (blk_cell BK162.out 1).trans rfl; have hcz21_2 : w20.cell? ⟨gb162, 2, none⟩ = some (.int .i64 0) := (blk_cell BK162.out 2).trans rfl; have hcz21_3 : w20.cell? ⟨gb162, 3, none⟩ = some (.int .i64 (wrap64 (Int.tdiv (Int.tmod (wrap64 (a0 + (wrap64 (60 * a1)))) 86400) 3600))) := (blk_cell BK162.out 3).trans rfl; have hcz21_4 : w20.cell? ⟨gb162, 4, none⟩ = some (.int .i64 (Int.tmod (wrap64 (Int.tdiv (Int.tmod (wrap64 (a0 + (wrap64 (60 * a1)))) 86400) 60)) 60)) := (blk_cell BK162.out 4).trans rfl; have hcz21_5 : w20.cell? ⟨gb162, 5, none⟩ = some (.int .i64 (Int.tmod (wrap64 (a0 + (wrap64 (60 * a1)))) 60)) := (blk_cell BK162.out 5).trans rfl; have hfz21_0 := blk_frozen BK162.out 0; have hfz21_1 := blk_frozen BK162.out 1; have hfz21_2 := blk_frozen BK162.out 2; have hfz21_3 := blk_frozen BK162.out 3; have hfz21_4 := blk_frozen BK162.out 4; have hfz21_5 := blk_frozen BK162.out 5))
       go_roundg k2
       case measure => have := HJ2.out; have := HK2.out; omega
       case rel => exact ⟨(wrap64 (x7_2 - t164)), (wrap64 (x163000_2 + 1)), (by first | rfl | (simp; done) | (simp [*]; done)), H', ⟨by have := HJ2.out; have := HK2.out; omega⟩, ⟨by (with_reducible repeat (first | refine blk_drewN ?_ _ | refine blk_drew ?_ | refine blk_alloc ?_ _)); refine blk_far ?_ NB159_162.out _; (with_reducible repeat (first | refine blk_drewN ?_ _ | refine blk_drew ?_ | refine blk_alloc ?_ _)); exact BK159.out⟩, ⟨by (with_reducible repeat (first | refine blk_drewN ?_ _ | refine blk_drew ?_ | refine blk_alloc ?_ _)); refine blk_put (cs := #[.int .i64 x163000_2, .int .i64 1, .int .i64 0, .int .i64 (wrap64 (Int.tdiv (Int.tmod (wrap64 (a0 + (wrap64 (60 * a1)))) 86400) 3600)), .int .i64 (Int.tmod (wrap64 (Int.tdiv (Int.tmod (wrap64 (a0 + (wrap64 (60 * a1)))) 86400) 60)) 60), .int .i64 (Int.tmod (wrap64 (a0 + (wrap64 (60 * a1)))) 60)]) ?_ 0 _ rfl; (with_reducible repeat (first | refine blk_drewN ?_ _ | refine blk_drew ?_ | refine blk_alloc ?_ _)); exact BK162.out⟩, ⟨by repeat (first | (with_reducible first | exact HB.out | apply below_alloc | apply pw_below_drewN | apply below_drew1 | refine below_set ?_ GE159.out | refine below_set ?_ GE162.out) | exact HB.out)⟩⟩
      ·rw [if_neg c14] at H
       have c14b0 : decide (t163 ≤ x7_2) = false := decide_eq_false c14
       clear c14
       have H' := Aside0.mk H
       clear H
       have hnb22 := NB162_159.out
       have hnc22 := NB159_162.out
       have hcz23_0 : wr.cell? ⟨gb162, 0, none⟩ = some (.int .i64 x163000_2) := (blk_cell BK162.out 0).trans rfl
       have hcz23_1 : wr.cell? ⟨gb162, 1, none⟩ = some (.int .i64 1) := (blk_cell BK162.out 1).trans rfl
       have hcz23_2 : wr.cell? ⟨gb162, 2, none⟩ = some (.int .i64 0) := (blk_cell BK162.out 2).trans rfl
       have hcz23_3 : wr.cell? ⟨gb162, 3, none⟩ = some (.int .i64 (wrap64 (Int.tdiv (Int.tmod (wrap64 (a0 + (wrap64 (60 * a1)))) 86400) 3600))) := (blk_cell BK162.out 3).trans rfl
       have hcz23_4 : wr.cell? ⟨gb162, 4, none⟩ = some (.int .i64 (Int.tmod (wrap64 (Int.tdiv (Int.tmod (wrap64 (a0 + (wrap64 (60 * a1)))) 86400) 60)) 60)) := (blk_cell BK162.out 4).trans rfl
       have hcz23_5 : wr.cell? ⟨gb162, 5, none⟩ = some (.int .i64 (Int.tmod (wrap64 (a0 + (wrap64 (60 * a1)))) 60)) := (blk_cell BK162.out 5).trans rfl
       have hfz23_0 := blk_frozen BK162.out 0
       have hfz23_1 := blk_frozen BK162.out 1
       have hfz23_2 := blk_frozen BK162.out 2
       have hfz23_3 := blk_frozen BK162.out 3
       have hfz23_4 := blk_frozen BK162.out 4
       have hfz23_5 := blk_frozen BK162.out 5
       go_wp2_with (first | ((with_reducible refine gate_callee (f := 118) rfl ?_); refine gL (some 38) Tryz.func118 #[.int .i64 x163000_2] ?_; (with_reducible refine (datetime_yearDays.calls x163000_2 t163 _ A13.out).mono ?_); rintro e w24 ⟨rfl, hb⟩; refine ⟨_, rfl, ?_⟩; have n0_ := Aside0.mk (blk_below (g := gb159) (o := .cells #[.int .i64 0, .int .i64 0, .int .i64 0, .int .i64 0, .int .i64 0, .int .i64 0] 119 (0, 0)) (by (with_reducible repeat (first | refine blk_drewN ?_ _ | refine blk_drew ?_ | refine blk_alloc ?_ _)); exact BK159.out) hb); have n1_ := Aside0.mk (blk_below (g := gb162) (o := .cells #[.int .i64 x163000_2, .int .i64 1, .int .i64 0, .int .i64 (wrap64 (Int.tdiv (Int.tmod (wrap64 (a0 + (wrap64 (60 * a1)))) 86400) 3600)), .int .i64 (Int.tmod (wrap64 (Int.tdiv (Int.tmod (wrap64 (a0 + (wrap64 (60 * a1)))) 86400) 60)) 60), .int .i64 (Int.tmod (wrap64 (a0 + (wrap64 (60 * a1)))) 60)] 119 (0, 0)) (by (with_reducible repeat (first | refine blk_drewN ?_ _ | refine blk_drew ?_ | refine blk_alloc ?_ _)); exact BK162.out) hb); have n2_ := Aside0.mk (below_step (by repeat (first | (with_reducible first | exact HB.out | apply below_alloc | apply pw_below_drewN | apply below_drew1 | refine below_set ?_ GE159.out | refine below_set ?_ GE162.out) | exact HB.out)) hb); clear BK159; clear BK162; clear HB; have BK159 := n0_; have BK162 := n1_; have HB := n2_; clear n0_ n1_ n2_; (try clear hb); (try clear hb2); (try clear hk); (try clear hi)))
       go_loopg [7] k2 (fun kq v7 w' => ∃ (x7_3 : Int) (x163001_3 : Int), v7 = .int .i64 x7_3 ∧ Aside0 (datetime_Split.l1 kq x7_3 x163000_2 x163001_3 0 (wrap64 (Int.tdiv (Int.tmod (wrap64 (a0 + (wrap64 (60 * a1)))) 86400) 3600)) (Int.tmod (wrap64 (Int.tdiv (Int.tmod (wrap64 (a0 + (wrap64 (60 * a1)))) 86400) 60)) 60) (Int.tmod (wrap64 (a0 + (wrap64 (60 * a1)))) 60) = some (r1, r2, r3, r4, r5, r6, r7)) ∧ Aside0 (kq ≤ k2) ∧ Aside0 (w'.heap[gb159]? = some (.cells #[.int .i64 0, .int .i64 0, .int .i64 0, .int .i64 0, .int .i64 0, .int .i64 0] 119 (0, 0))) ∧ Aside0 (w'.heap[gb162]? = some (.cells #[.int .i64 x163000_2, .int .i64 x163001_3, .int .i64 0, .int .i64 (wrap64 (Int.tdiv (Int.tmod (wrap64 (a0 + (wrap64 (60 * a1)))) 86400) 3600)), .int .i64 (Int.tmod (wrap64 (Int.tdiv (Int.tmod (wrap64 (a0 + (wrap64 (60 * a1)))) 86400) 60)) 60), .int .i64 (Int.tmod (wrap64 (a0 + (wrap64 (60 * a1)))) 60)] 119 (0, 0))) ∧ Aside0 (Below w.heap.size w w'))
       case atStart => exact ⟨(x7_2), (1), (by first | rfl | (simp; done) | (simp [*]; done)), H', ⟨Nat.le_refl _⟩, ⟨by (with_reducible repeat (first | refine blk_drewN ?_ _ | refine blk_drew ?_ | refine blk_alloc ?_ _)); exact BK159.out⟩, ⟨by (with_reducible repeat (first | refine blk_drewN ?_ _ | refine blk_drew ?_ | refine blk_alloc ?_ _)); exact BK162.out⟩, ⟨by repeat (first | (with_reducible first | exact HB.out | apply below_alloc | apply pw_below_drewN | apply below_drew1 | refine below_set ?_ GE159.out | refine below_set ?_ GE162.out) | exact HB.out)⟩⟩
       case round =>
        clear H'
        try clear c1
        try clear c2
        try clear p2
        try clear c6
        try clear p6
        try clear c8
        try clear c9
        try clear c11
        try clear c14
        try clear c14b0
        try clear c16
        try clear c22
        try clear hcz12_0
        try clear hcz12_1
        try clear hcz12_2
        try clear hcz12_3
        try clear hcz12_4
        try clear hcz12_5
        try clear hcz17_0
        try clear hcz17_1
        try clear hcz17_2
        try clear hcz17_3
        try clear hcz17_4
        try clear hcz17_5
        try clear hcz19_0
        try clear hcz19_1
        try clear hcz19_2
        try clear hcz19_3
        try clear hcz19_4
        try clear hcz19_5
        try clear hcz21_0
        try clear hcz21_1
        try clear hcz21_2
        try clear hcz21_3
        try clear hcz21_4
        try clear hcz21_5
        try clear hcz23_0
        try clear hcz23_1
        try clear hcz23_2
        try clear hcz23_3
        try clear hcz23_4
        try clear hcz23_5
        try clear hcz9_0
        try clear hcz9_1
        try clear hcz9_2
        try clear hcz9_3
        try clear hcz9_4
        try clear hcz9_5
        try clear hfz12_0
        try clear hfz12_1
        try clear hfz12_2
        try clear hfz12_3
        try clear hfz12_4
        try clear hfz12_5
        try clear hfz17_0
        try clear hfz17_1
        try clear hfz17_2
        try clear hfz17_3
        try clear hfz17_4
        try clear hfz17_5
        try clear hfz19_0
        try clear hfz19_1
        try clear hfz19_2
        try clear hfz19_3
        try clear hfz19_4
        try clear hfz19_5
        try clear hfz21_0
        try clear hfz21_1
        try clear hfz21_2
        try clear hfz21_3
        try clear hfz21_4
        try clear hfz21_5
        try clear hfz23_0
        try clear hfz23_1
        try clear hfz23_2
        try clear hfz23_3
        try clear hfz23_4
        try clear hfz23_5
        try clear hfz9_0
        try clear hfz9_1
        try clear hfz9_2
        try clear hfz9_3
        try clear hfz9_4
        try clear hfz9_5
        try clear p2
        try clear p6
        obtain ⟨x7_3, x163001_3, rfl, HA, HK3, BK159, BK162, HB⟩ := hrel
        cases gk with
        | zero => exact absurd HA.out (by simp [datetime_Split.l1])
        | succ k3 =>
         have H := HA.out
         clear HA
         simp only [datetime_Split.l1] at H
         replace H := Option.bind_eq_some_iff.mp H
         obtain ⟨t165, A250, H⟩ := H
         replace H : (if x7_3 ≥ t165 then ((datetime_monthDays.f x163000_2 x163001_3).bind fun t166 => (datetime_Split.l1 k3 (wrap64 (x7_3 - t166)) x163000_2 (wrap64 (x163001_3 + 1)) 0 (wrap64 (Int.tdiv (Int.tmod (wrap64 (a0 + (wrap64 (60 * a1)))) 86400) 3600)) (Int.tmod (wrap64 (Int.tdiv (Int.tmod (wrap64 (a0 + (wrap64 (60 * a1)))) 86400) 60)) 60) (Int.tmod (wrap64 (a0 + (wrap64 (60 * a1)))) 60))) else (some (x163000_2, x163001_3, wrap64 (x7_3 + 1), (wrap64 (Int.tdiv (Int.tmod (wrap64 (a0 + (wrap64 (60 * a1)))) 86400) 3600)), (Int.tmod (wrap64 (Int.tdiv (Int.tmod (wrap64 (a0 + (wrap64 (60 * a1)))) 86400) 60)) 60), (Int.tmod (wrap64 (a0 + (wrap64 (60 * a1)))) 60), 0))) = some (r1, r2, r3, r4, r5, r6, r7) := H
         have A25 := Aside0.mk A250
         clear A250
         by_cases c26 : x7_3 ≥ t165
         ·rw [if_pos c26] at H
          have c26b0 : decide (t165 ≤ x7_3) = true := decide_eq_true c26
          clear c26
          replace H := Option.bind_eq_some_iff.mp H
          obtain ⟨t166, A270, H⟩ := H
          replace H : (datetime_Split.l1 k3 (wrap64 (x7_3 - t166)) x163000_2 (wrap64 (x163001_3 + 1)) 0 (wrap64 (Int.tdiv (Int.tmod (wrap64 (a0 + (wrap64 (60 * a1)))) 86400) 3600)) (Int.tmod (wrap64 (Int.tdiv (Int.tmod (wrap64 (a0 + (wrap64 (60 * a1)))) 86400) 60)) 60) (Int.tmod (wrap64 (a0 + (wrap64 (60 * a1)))) 60)) = some (r1, r2, r3, r4, r5, r6, r7) := H
          have A27 := Aside0.mk A270
          clear A270
          have H' := Aside0.mk H
          clear H
          have hnb28 := NB162_159.out
          have hnc28 := NB159_162.out
          have hcz29_0 : wr.cell? ⟨gb162, 0, none⟩ = some (.int .i64 x163000_2) := (blk_cell BK162.out 0).trans rfl
          have hcz29_1 : wr.cell? ⟨gb162, 1, none⟩ = some (.int .i64 x163001_3) := (blk_cell BK162.out 1).trans rfl
          have hcz29_2 : wr.cell? ⟨gb162, 2, none⟩ = some (.int .i64 0) := (blk_cell BK162.out 2).trans rfl
          have hcz29_3 : wr.cell? ⟨gb162, 3, none⟩ = some (.int .i64 (wrap64 (Int.tdiv (Int.tmod (wrap64 (a0 + (wrap64 (60 * a1)))) 86400) 3600))) := (blk_cell BK162.out 3).trans rfl
          have hcz29_4 : wr.cell? ⟨gb162, 4, none⟩ = some (.int .i64 (Int.tmod (wrap64 (Int.tdiv (Int.tmod (wrap64 (a0 + (wrap64 (60 * a1)))) 86400) 60)) 60)) := (blk_cell BK162.out 4).trans rfl
          have hcz29_5 : wr.cell? ⟨gb162, 5, none⟩ = some (.int .i64 (Int.tmod (wrap64 (a0 + (wrap64 (60 * a1)))) 60)) := (blk_cell BK162.out 5).trans rfl
          have hfz29_0 := blk_frozen BK162.out 0
          have hfz29_1 := blk_frozen BK162.out 1
          have hfz29_2 := blk_frozen BK162.out 2
          have hfz29_3 := blk_frozen BK162.out 3
          have hfz29_4 := blk_frozen BK162.out 4
          have hfz29_5 := blk_frozen BK162.out 5
          go_wp2_with (first | ((with_reducible refine gate_callee (f := 119) rfl ?_); refine gL (some 54) Tryz.func119 #[.int .i64 x163000_2, .int .i64 x163001_3] ?_; (with_reducible refine (datetime_monthDays.calls x163000_2 x163001_3 t165 _ A25.out).mono ?_); rintro e w30 ⟨rfl, hb⟩; refine ⟨_, rfl, ?_⟩; have n0_ := Aside0.mk (blk_below (g := gb159) (o := .cells #[.int .i64 0, .int .i64 0, .int .i64 0, .int .i64 0, .int .i64 0, .int .i64 0] 119 (0, 0)) (by (with_reducible repeat (first | refine blk_drewN ?_ _ | refine blk_drew ?_ | refine blk_alloc ?_ _)); exact BK159.out) hb); have n1_ := Aside0.mk (blk_below (g := gb162) (o := .cells #[.int .i64 x163000_2, .int .i64 x163001_3, .int .i64 0, .int .i64 (wrap64 (Int.tdiv (Int.tmod (wrap64 (a0 + (wrap64 (60 * a1)))) 86400) 3600)), .int .i64 (Int.tmod (wrap64 (Int.tdiv (Int.tmod (wrap64 (a0 + (wrap64 (60 * a1)))) 86400) 60)) 60), .int .i64 (Int.tmod (wrap64 (a0 + (wrap64 (60 * a1)))) 60)] 119 (0, 0)) (by (with_reducible repeat (first | refine blk_drewN ?_ _ | refine blk_drew ?_ | refine blk_alloc ?_ _)); exact BK162.out) hb); have n2_ := Aside0.mk (below_step (by repeat (first | (with_reducible first | exact HB.out | apply below_alloc | apply pw_below_drewN | apply below_drew1 | refine below_set ?_ GE159.out | refine below_set ?_ GE162.out) | exact HB.out)) hb); clear BK159; clear BK162; clear HB; have BK159 := n0_; have BK162 := n1_; have HB := n2_; clear n0_ n1_ n2_; (try clear hb); (try clear hb2); (try clear hk); (try clear hi); have hcz31_0 : w30.cell? ⟨gb162, 0, none⟩ = some (.int .i64 x163000_2) := (blk_cell BK162.out 0).trans rfl; have hcz31_1 : w30.cell? ⟨gb162, 1, none⟩ = some (.int .i64 x163001_3) := (blk_cell BK162.out 1).trans rfl; have hcz31_2 : w30.cell? ⟨gb162, 2, none⟩ = some (.int .i64 0) := (blk_cell BK162.out 2).trans rfl; have hcz31_3 : w30.cell? ⟨gb162, 3, none⟩ = some (.int .i64 (wrap64 (Int.tdiv (Int.tmod (wrap64 (a0 + (wrap64 (60 * a1)))) 86400) 3600))) := (blk_cell BK162.out 3).trans rfl; have hcz31_4 : w30.cell? ⟨gb162, 4, none⟩ = some (.int .i64 (Int.tmod (wrap64 (Int.tdiv (Int.tmod (wrap64 (a0 + (wrap64 (60 * a1)))) 86400) 60)) 60)) := (blk_cell BK162.out 4).trans rfl; have hcz31_5 : w30.cell? ⟨gb162, 5, none⟩ = some (.int .i64 (Int.tmod (wrap64 (a0 + (wrap64 (60 * a1)))) 60)) := (blk_cell BK162.out 5).trans rfl; have hfz31_0 := blk_frozen BK162.out 0; have hfz31_1 := blk_frozen BK162.out 1; have hfz31_2 := blk_frozen BK162.out 2; have hfz31_3 := blk_frozen BK162.out 3; have hfz31_4 := blk_frozen BK162.out 4; have hfz31_5 := blk_frozen BK162.out 5) | ((with_reducible refine gate_callee (f := 119) rfl ?_); refine gL (some 61) Tryz.func119 #[.int .i64 x163000_2, .int .i64 x163001_3] ?_; (with_reducible refine (datetime_monthDays.calls x163000_2 x163001_3 t166 _ A27.out).mono ?_); rintro e w32 ⟨rfl, hb⟩; refine ⟨_, rfl, ?_⟩; have n0_ := Aside0.mk (blk_below (g := gb159) (o := .cells #[.int .i64 0, .int .i64 0, .int .i64 0, .int .i64 0, .int .i64 0, .int .i64 0] 119 (0, 0)) (by (with_reducible repeat (first | refine blk_drewN ?_ _ | refine blk_drew ?_ | refine blk_alloc ?_ _)); exact BK159.out) hb); have n1_ := Aside0.mk (blk_below (g := gb162) (o := .cells #[.int .i64 x163000_2, .int .i64 x163001_3, .int .i64 0, .int .i64 (wrap64 (Int.tdiv (Int.tmod (wrap64 (a0 + (wrap64 (60 * a1)))) 86400) 3600)), .int .i64 (Int.tmod (wrap64 (Int.tdiv (Int.tmod (wrap64 (a0 + (wrap64 (60 * a1)))) 86400) 60)) 60), .int .i64 (Int.tmod (wrap64 (a0 + (wrap64 (60 * a1)))) 60)] 119 (0, 0)) (by (with_reducible repeat (first | refine blk_drewN ?_ _ | refine blk_drew ?_ | refine blk_alloc ?_ _)); exact BK162.out) hb); have n2_ := Aside0.mk (below_step (by repeat (first | (with_reducible first | exact HB.out | apply below_alloc | apply pw_below_drewN | apply below_drew1 | refine below_set ?_ GE159.out | refine below_set ?_ GE162.out) | exact HB.out)) hb); clear BK159; clear BK162; clear HB; have BK159 := n0_; have BK162 := n1_; have HB := n2_; clear n0_ n1_ n2_; (try clear hb); (try clear hb2); (try clear hk); (try clear hi); have hcz33_0 : w32.cell? ⟨gb162, 0, none⟩ = some (.int .i64 x163000_2) := (blk_cell BK162.out 0).trans rfl; have hcz33_1 : w32.cell? ⟨gb162, 1, none⟩ = some (.int .i64 x163001_3) := (blk_cell BK162.out 1).trans rfl; have hcz33_2 : w32.cell? ⟨gb162, 2, none⟩ = some (.int .i64 0) := (blk_cell BK162.out 2).trans rfl; have hcz33_3 : w32.cell? ⟨gb162, 3, none⟩ = some (.int .i64 (wrap64 (Int.tdiv (Int.tmod (wrap64 (a0 + (wrap64 (60 * a1)))) 86400) 3600))) := (blk_cell BK162.out 3).trans rfl; have hcz33_4 : w32.cell? ⟨gb162, 4, none⟩ = some (.int .i64 (Int.tmod (wrap64 (Int.tdiv (Int.tmod (wrap64 (a0 + (wrap64 (60 * a1)))) 86400) 60)) 60)) := (blk_cell BK162.out 4).trans rfl; have hcz33_5 : w32.cell? ⟨gb162, 5, none⟩ = some (.int .i64 (Int.tmod (wrap64 (a0 + (wrap64 (60 * a1)))) 60)) := (blk_cell BK162.out 5).trans rfl; have hfz33_0 := blk_frozen BK162.out 0; have hfz33_1 := blk_frozen BK162.out 1; have hfz33_2 := blk_frozen BK162.out 2; have hfz33_3 := blk_frozen BK162.out 3; have hfz33_4 := blk_frozen BK162.out 4; have hfz33_5 := blk_frozen BK162.out 5))
          go_roundg k3
          case measure => have := HJ2.out; have := HK2.out; have := HK3.out; omega
          case rel => exact ⟨(wrap64 (x7_3 - t166)), (wrap64 (x163001_3 + 1)), (by first | rfl | (simp; done) | (simp [*]; done)), H', ⟨by have := HJ2.out; have := HK2.out; have := HK3.out; omega⟩, ⟨by (with_reducible repeat (first | refine blk_drewN ?_ _ | refine blk_drew ?_ | refine blk_alloc ?_ _)); refine blk_far ?_ NB159_162.out _; (with_reducible repeat (first | refine blk_drewN ?_ _ | refine blk_drew ?_ | refine blk_alloc ?_ _)); exact BK159.out⟩, ⟨by (with_reducible repeat (first | refine blk_drewN ?_ _ | refine blk_drew ?_ | refine blk_alloc ?_ _)); refine blk_put (cs := #[.int .i64 x163000_2, .int .i64 x163001_3, .int .i64 0, .int .i64 (wrap64 (Int.tdiv (Int.tmod (wrap64 (a0 + (wrap64 (60 * a1)))) 86400) 3600)), .int .i64 (Int.tmod (wrap64 (Int.tdiv (Int.tmod (wrap64 (a0 + (wrap64 (60 * a1)))) 86400) 60)) 60), .int .i64 (Int.tmod (wrap64 (a0 + (wrap64 (60 * a1)))) 60)]) ?_ 1 _ rfl; (with_reducible repeat (first | refine blk_drewN ?_ _ | refine blk_drew ?_ | refine blk_alloc ?_ _)); exact BK162.out⟩, ⟨by repeat (first | (with_reducible first | exact HB.out | apply below_alloc | apply pw_below_drewN | apply below_drew1 | refine below_set ?_ GE159.out | refine below_set ?_ GE162.out) | exact HB.out)⟩⟩
         ·rw [if_neg c26] at H
          have c26b0 : decide (t165 ≤ x7_3) = false := decide_eq_false c26
          clear c26
          simp only [Option.some.injEq, Prod.mk.injEq] at H
          obtain ⟨rfl, rfl, rfl, rfl, rfl, rfl, rfl⟩ := H
          have hnb34 := NB162_159.out
          have hnc34 := NB159_162.out
          have hcz35_0 : wr.cell? ⟨gb162, 0, none⟩ = some (.int .i64 x163000_2) := (blk_cell BK162.out 0).trans rfl
          have hcz35_1 : wr.cell? ⟨gb162, 1, none⟩ = some (.int .i64 x163001_3) := (blk_cell BK162.out 1).trans rfl
          have hcz35_2 : wr.cell? ⟨gb162, 2, none⟩ = some (.int .i64 0) := (blk_cell BK162.out 2).trans rfl
          have hcz35_3 : wr.cell? ⟨gb162, 3, none⟩ = some (.int .i64 (wrap64 (Int.tdiv (Int.tmod (wrap64 (a0 + (wrap64 (60 * a1)))) 86400) 3600))) := (blk_cell BK162.out 3).trans rfl
          have hcz35_4 : wr.cell? ⟨gb162, 4, none⟩ = some (.int .i64 (Int.tmod (wrap64 (Int.tdiv (Int.tmod (wrap64 (a0 + (wrap64 (60 * a1)))) 86400) 60)) 60)) := (blk_cell BK162.out 4).trans rfl
          have hcz35_5 : wr.cell? ⟨gb162, 5, none⟩ = some (.int .i64 (Int.tmod (wrap64 (a0 + (wrap64 (60 * a1)))) 60)) := (blk_cell BK162.out 5).trans rfl
          have hfz35_0 := blk_frozen BK162.out 0
          have hfz35_1 := blk_frozen BK162.out 1
          have hfz35_2 := blk_frozen BK162.out 2
          have hfz35_3 := blk_frozen BK162.out 3
          have hfz35_4 := blk_frozen BK162.out 4
          have hfz35_5 := blk_frozen BK162.out 5
          go_wp2_with (first | ((with_reducible refine gate_callee (f := 119) rfl ?_); refine gL (some 54) Tryz.func119 #[.int .i64 x163000_2, .int .i64 x163001_3] ?_; (with_reducible refine (datetime_monthDays.calls x163000_2 x163001_3 t165 _ A25.out).mono ?_); rintro e w36 ⟨rfl, hb⟩; refine ⟨_, rfl, ?_⟩; have n0_ := Aside0.mk (blk_below (g := gb159) (o := .cells #[.int .i64 0, .int .i64 0, .int .i64 0, .int .i64 0, .int .i64 0, .int .i64 0] 119 (0, 0)) (by (with_reducible repeat (first | refine blk_drewN ?_ _ | refine blk_drew ?_ | refine blk_alloc ?_ _)); exact BK159.out) hb); have n1_ := Aside0.mk (blk_below (g := gb162) (o := .cells #[.int .i64 x163000_2, .int .i64 x163001_3, .int .i64 0, .int .i64 (wrap64 (Int.tdiv (Int.tmod (wrap64 (a0 + (wrap64 (60 * a1)))) 86400) 3600)), .int .i64 (Int.tmod (wrap64 (Int.tdiv (Int.tmod (wrap64 (a0 + (wrap64 (60 * a1)))) 86400) 60)) 60), .int .i64 (Int.tmod (wrap64 (a0 + (wrap64 (60 * a1)))) 60)] 119 (0, 0)) (by (with_reducible repeat (first | refine blk_drewN ?_ _ | refine blk_drew ?_ | refine blk_alloc ?_ _)); exact BK162.out) hb); have n2_ := Aside0.mk (below_step (by repeat (first | (with_reducible first | exact HB.out | apply below_alloc | apply pw_below_drewN | apply below_drew1 | refine below_set ?_ GE159.out | refine below_set ?_ GE162.out) | exact HB.out)) hb); clear BK159; clear BK162; clear HB; have BK159 := n0_; have BK162 := n1_; have HB := n2_; clear n0_ n1_ n2_; (try clear hb); (try clear hb2); (try clear hk); (try clear hi); have hcz37_0 : w36.cell? ⟨gb162, 0, none⟩ = some (.int .i64 x163000_2) := (blk_cell BK162.out 0).trans rfl; have hcz37_1 : w36.cell? ⟨gb162, 1, none⟩ = some (.int .i64 x163001_3) := (blk_cell BK162.out 1).trans rfl; have hcz37_2 : w36.cell? ⟨gb162, 2, none⟩ = some (.int .i64 0) := (blk_cell BK162.out 2).trans rfl; have hcz37_3 : w36.cell? ⟨gb162, 3, none⟩ = some (.int .i64 (wrap64 (Int.tdiv (Int.tmod (wrap64 (a0 + (wrap64 (60 * a1)))) 86400) 3600))) := (blk_cell BK162.out 3).trans rfl; have hcz37_4 : w36.cell? ⟨gb162, 4, none⟩ = some (.int .i64 (Int.tmod (wrap64 (Int.tdiv (Int.tmod (wrap64 (a0 + (wrap64 (60 * a1)))) 86400) 60)) 60)) := (blk_cell BK162.out 4).trans rfl; have hcz37_5 : w36.cell? ⟨gb162, 5, none⟩ = some (.int .i64 (Int.tmod (wrap64 (a0 + (wrap64 (60 * a1)))) 60)) := (blk_cell BK162.out 5).trans rfl; have hfz37_0 := blk_frozen BK162.out 0; have hfz37_1 := blk_frozen BK162.out 1; have hfz37_2 := blk_frozen BK162.out 2; have hfz37_3 := blk_frozen BK162.out 3; have hfz37_4 := blk_frozen BK162.out 4; have hfz37_5 := blk_frozen BK162.out 5; have hcz38_0 : w36.cell? ⟨gb159, 0, none⟩ = some (.int .i64 0) := (blk_cell BK159.out 0).trans rfl; have hcz38_1 : w36.cell? ⟨gb159, 1, none⟩ = some (.int .i64 0) := (blk_cell BK159.out 1).trans rfl; have hcz38_2 : w36.cell? ⟨gb159, 2, none⟩ = some (.int .i64 0) := (blk_cell BK159.out 2).trans rfl; have hcz38_3 : w36.cell? ⟨gb159, 3, none⟩ = some (.int .i64 0) := (blk_cell BK159.out 3).trans rfl; have hcz38_4 : w36.cell? ⟨gb159, 4, none⟩ = some (.int .i64 0) := (blk_cell BK159.out 4).trans rfl; have hcz38_5 : w36.cell? ⟨gb159, 5, none⟩ = some (.int .i64 0) := (blk_cell BK159.out 5).trans rfl; have hfz38_0 := blk_frozen BK159.out 0; have hfz38_1 := blk_frozen BK159.out 1; have hfz38_2 := blk_frozen BK159.out 2; have hfz38_3 := blk_frozen BK159.out 3; have hfz38_4 := blk_frozen BK159.out 4; have hfz38_5 := blk_frozen BK159.out 5))
          refine bodyPost_ret (results_ct rfl _ _ gb159 119 #[.int .i64 x163000_2, .int .i64 x163001_3, .int .i64 (wrap64 (x7_3 + 1)), .int .i64 (wrap64 (Int.tdiv (Int.tmod (wrap64 (a0 + (wrap64 (60 * a1)))) 86400) 3600)), .int .i64 (Int.tmod (wrap64 (Int.tdiv (Int.tmod (wrap64 (a0 + (wrap64 (60 * a1)))) 86400) 60)) 60), .int .i64 (Int.tmod (wrap64 (a0 + (wrap64 (60 * a1)))) 60)] (0, 0) _ rfl (by (with_reducible repeat (first | refine blk_drewN ?_ _ | refine blk_drew ?_ | refine blk_alloc ?_ _)); refine blk_put (cs := #[.int .i64 x163000_2, .int .i64 x163001_3, .int .i64 (wrap64 (x7_3 + 1)), .int .i64 (wrap64 (Int.tdiv (Int.tmod (wrap64 (a0 + (wrap64 (60 * a1)))) 86400) 3600)), .int .i64 (Int.tmod (wrap64 (Int.tdiv (Int.tmod (wrap64 (a0 + (wrap64 (60 * a1)))) 86400) 60)) 60), .int .i64 0]) ?_ 5 _ rfl; (with_reducible repeat (first | refine blk_drewN ?_ _ | refine blk_drew ?_ | refine blk_alloc ?_ _)); refine blk_put (cs := #[.int .i64 x163000_2, .int .i64 x163001_3, .int .i64 (wrap64 (x7_3 + 1)), .int .i64 (wrap64 (Int.tdiv (Int.tmod (wrap64 (a0 + (wrap64 (60 * a1)))) 86400) 3600)), .int .i64 0, .int .i64 0]) ?_ 4 _ rfl; (with_reducible repeat (first | refine blk_drewN ?_ _ | refine blk_drew ?_ | refine blk_alloc ?_ _)); refine blk_put (cs := #[.int .i64 x163000_2, .int .i64 x163001_3, .int .i64 (wrap64 (x7_3 + 1)), .int .i64 0, .int .i64 0, .int .i64 0]) ?_ 3 _ rfl; (with_reducible repeat (first | refine blk_drewN ?_ _ | refine blk_drew ?_ | refine blk_alloc ?_ _)); refine blk_put (cs := #[.int .i64 x163000_2, .int .i64 x163001_3, .int .i64 0, .int .i64 0, .int .i64 0, .int .i64 0]) ?_ 2 _ rfl; (with_reducible repeat (first | refine blk_drewN ?_ _ | refine blk_drew ?_ | refine blk_alloc ?_ _)); refine blk_put (cs := #[.int .i64 x163000_2, .int .i64 0, .int .i64 0, .int .i64 0, .int .i64 0, .int .i64 0]) ?_ 1 _ rfl; (with_reducible repeat (first | refine blk_drewN ?_ _ | refine blk_drew ?_ | refine blk_alloc ?_ _)); refine blk_put (cs := #[.int .i64 0, .int .i64 0, .int .i64 0, .int .i64 0, .int .i64 0, .int .i64 0]) ?_ 0 _ rfl; (with_reducible repeat (first | refine blk_drewN ?_ _ | refine blk_drew ?_ | refine blk_alloc ?_ _)); refine blk_far ?_ NB159_162.out _; (with_reducible repeat (first | refine blk_drewN ?_ _ | refine blk_drew ?_ | refine blk_alloc ?_ _)); exact BK159.out) Tryz.underlying119 rfl (by kernel_rfl)) rfl ?_
          exact ⟨by first | rfl | (simp [errW_none, errW_some] <;> rfl) | (simp [*, errW_none, errW_some] <;> rfl), by repeat (first | (with_reducible first | exact HB.out | apply below_alloc | apply pw_below_drewN | apply below_drew1 | refine below_set ?_ GE159.out | refine below_set ?_ GE162.out) | exact HB.out)⟩

/-! ### datetime_isQuarter: function 94 -/
def datetime_isQuarter.f (a0 : Int) : Option (Bool) := if (Int.tmod a0 15) = 0 then (if a0 ≥ (-720) then (some (decide (a0 ≤ 780))) else (some false)) else (some false)
set_option maxHeartbeats 8000000 in
set_option maxRecDepth 100000 in
theorem datetime_isQuarter.calls (a0 : Int) (r : Bool) (w : World) (h : datetime_isQuarter.f a0 = some r) :
  Calls Tryz.prog 94 #[.int .i64 a0] w fun e w' => e = .returned (.bool r) ∧ Drawn0 w w' := by
 have H : (if (Int.tmod a0 15) = 0 then (if a0 ≥ (-720) then (some (decide (a0 ≤ 780))) else (some false)) else (some false)) = some r := h
 clear h
 by_cases c2 : (Int.tmod a0 15) = 0
 ·rw [if_pos c2] at H
  have c2b0 : ((Int.tmod a0 15) == 0) = true := beq_iff_eq.mpr c2
  have c2b1 : ((Int.tmod a0 15) != 0) = false := bne_eq_false_iff_eq.mpr c2
  clear c2
  by_cases c3 : a0 ≥ (-720)
  ·rw [if_pos c3] at H
   have c3b0 : decide ((-720) ≤ a0) = true := decide_eq_true c3
   clear c3
   obtain rfl := Option.some.inj H
   go_enter Tryz.func94, Tryz.ntmps94
   go_wp2
   go_ret
   exact ⟨by first | rfl | (simp; done) | (simp [*]; done), by repeat (first | exact Drawn0.refl _ | apply Drawn0.step)⟩
  ·rw [if_neg c3] at H
   have c3b0 : decide ((-720) ≤ a0) = false := decide_eq_false c3
   clear c3
   obtain rfl := Option.some.inj H
   go_enter Tryz.func94, Tryz.ntmps94
   go_wp2
   go_ret
   exact ⟨by first | rfl | (simp; done) | (simp [*]; done), by repeat (first | exact Drawn0.refl _ | apply Drawn0.step)⟩
 ·rw [if_neg c2] at H
  have c2b0 : ((Int.tmod a0 15) == 0) = false := beq_eq_false_iff_ne.mpr c2
  have c2b1 : ((Int.tmod a0 15) != 0) = true := bne_iff_ne.mpr c2
  obtain rfl := Option.some.inj H
  go_enter Tryz.func94, Tryz.ntmps94
  go_wp2
  go_ret
  exact ⟨by first | rfl | (simp; done) | (simp [*]; done), by repeat (first | exact Drawn0.refl _ | apply Drawn0.step)⟩

/-! ### datetime_Record: function 67 -/
def datetime_Record.f (k : Nat) (a0 : Int) (a1 : Int) : Option (ByteArray × Int) := (datetime_Split.f k a0 a1).bind fun bt167 => (if bt167.2.2.2.2.2.2 = 0 then ((datetime_isQuarter.f a1).bind fun t175 => (if t175 = true then (some (strOfNums (([(wrap64 (bt167.1 - 1900)) % 256, (bt167.2.1) % 256, (bt167.2.2.1) % 256, (bt167.2.2.2.1) % 256, (bt167.2.2.2.2.1) % 256, (bt167.2.2.2.2.2.1) % 256, (IntKind.i8.wrap (wrap64 (Int.tdiv a1 15))) % 256] : List Int)), 0)) else (some ((⟨#[]⟩ : ByteArray), 2)))) else (some ((⟨#[]⟩ : ByteArray), 2)))
theorem datetime_Record.mono : ∀ a0 a1 k, LeO (datetime_Record.f k a0 a1) (datetime_Record.f (k + 1) a0 a1) := by
 intro a0 a1 k
 unfold datetime_Record.f
 repeat' first
   | (with_reducible exact datetime_Split.mono _ _ _)
   | (with_reducible exact LeO.refl _)
   | (with_reducible exact LeO.none _)
   | (with_reducible refine LeO.ite ?_ ?_)
   | (with_reducible refine LeO.bind ?_ (fun _ => ?_))
   | exact datetime_Split.mono _ _ _
   | exact LeO.none _
   | refine LeO.ite ?_ ?_
   | refine LeO.bind ?_ (fun _ => ?_)
set_option maxHeartbeats 8000000 in
set_option maxRecDepth 100000 in
theorem datetime_Record.calls (k : Nat) (a0 : Int) (a1 : Int) (r1 : ByteArray) (r2 : Int) (w : World) (h : datetime_Record.f k a0 a1 = some (r1, r2)) :
  Calls Tryz.prog 67 #[.int .i64 a0, .int .i64 a1] w fun e w' => e = .returned (.tuple #[.string r1, .int .i64 r2]) ∧ Below w.heap.size w w' := by
 have hu119 := Tryz.underlying119
 have HB := Aside0.mk (Below.refl w.heap.size w)
 have H : ((datetime_Split.f k a0 a1).bind fun bt167 => (if bt167.2.2.2.2.2.2 = 0 then ((datetime_isQuarter.f a1).bind fun t175 => (if t175 = true then (some (strOfNums (([(wrap64 (bt167.1 - 1900)) % 256, (bt167.2.1) % 256, (bt167.2.2.1) % 256, (bt167.2.2.2.1) % 256, (bt167.2.2.2.2.1) % 256, (bt167.2.2.2.2.2.1) % 256, (IntKind.i8.wrap (wrap64 (Int.tdiv a1 15))) % 256] : List Int)), 0)) else (some ((⟨#[]⟩ : ByteArray), 2)))) else (some ((⟨#[]⟩ : ByteArray), 2)))) = some (r1, r2) := h
 clear h
 replace H := Option.bind_eq_some_iff.mp H
 obtain ⟨⟨t167, t168, t169, t170, t171, t172, t173⟩, A30, H⟩ := H
 replace H : (if t173 = 0 then ((datetime_isQuarter.f a1).bind fun t175 => (if t175 = true then (some (strOfNums (([(wrap64 (t167 - 1900)) % 256, (t168) % 256, (t169) % 256, (t170) % 256, (t171) % 256, (t172) % 256, (IntKind.i8.wrap (wrap64 (Int.tdiv a1 15))) % 256] : List Int)), 0)) else (some ((⟨#[]⟩ : ByteArray), 2)))) else (some ((⟨#[]⟩ : ByteArray), 2))) = some (r1, r2) := H
 have A3 := Aside0.mk A30
 clear A30
 by_cases c4 : t173 = 0
 ·rw [if_pos c4] at H
  have c4b0 : (t173 == 0) = true := beq_iff_eq.mpr c4
  have c4b1 : (t173 != 0) = false := bne_eq_false_iff_eq.mpr c4
  clear c4
  replace H := Option.bind_eq_some_iff.mp H
  obtain ⟨t175, A50, H⟩ := H
  replace H : (if t175 = true then (some (strOfNums (([(wrap64 (t167 - 1900)) % 256, (t168) % 256, (t169) % 256, (t170) % 256, (t171) % 256, (t172) % 256, (IntKind.i8.wrap (wrap64 (Int.tdiv a1 15))) % 256] : List Int)), 0)) else (some ((⟨#[]⟩ : ByteArray), 2))) = some (r1, r2) := H
  have A5 := Aside0.mk A50
  clear A50
  by_cases c6 : t175 = true
  ·subst c6
   have H1 : (some (strOfNums (([(wrap64 (t167 - 1900)) % 256, (t168) % 256, (t169) % 256, (t170) % 256, (t171) % 256, (t172) % 256, (IntKind.i8.wrap (wrap64 (Int.tdiv a1 15))) % 256] : List Int)), 0)) = some (r1, r2) := by rw [if_pos rfl] at H; exact H
   clear H
   have H := H1
   clear H1
   obtain ⟨y176, hy176⟩ : ∃ y_ : List Int, y_ = (([(wrap64 (t167 - 1900)) % 256, (t168) % 256, (t169) % 256, (t170) % 256, (t171) % 256, (t172) % 256, (IntKind.i8.wrap (wrap64 (Int.tdiv a1 15))) % 256] : List Int)) := ⟨_, rfl⟩
   replace H : (some (strOfNums y176, 0)) = some (r1, r2) := by first | (rw [hy176]; with_reducible exact H) | (have H2_ := (Option.bind_some _ _).symm.trans H; rw [hy176]; with_reducible exact H2_) | (have H2_ := (Option.bind_some _ _).symm.trans H; with_reducible exact H2_) | with_reducible exact H | (rw [hy176]; exact H) | exact H
   have Ny176 := Aside0.mk hy176
   clear hy176
   simp only [Option.some.injEq, Prod.mk.injEq] at H
   obtain ⟨rfl, rfl⟩ := H
   go_enter Tryz.func67, Tryz.ntmps67
   go_wp2_with (first | ((with_reducible refine gate_callee (f := 93) rfl ?_); refine gL (some 11) Tryz.func93 #[.int .i64 a0, .int .i64 a1] ?_; (with_reducible refine (datetime_Split.calls k a0 a1 t167 t168 t169 t170 t171 t172 t173 _ A3.out).mono ?_); rintro e w7 ⟨rfl, hb⟩; refine ⟨_, rfl, ?_⟩; have n0_ := Aside0.mk (below_step (uB HB.out) hb); clear HB; have HB := n0_; clear n0_; (try clear hb); (try clear hb2); (try clear hk); (try clear hi)) | ((with_reducible refine gate_dst (N := 6) rfl ?_); refine box_event ?hg (N := 6) ?hd (cs := #[.int .i64 0, .int .i64 0, .int .i64 0, .int .i64 0, .int .i64 0, .int .i64 0]) (t := 119) ?hr ?_; (case hd => rfl); (case hg => rfl); (case hr => first | (go_simp; done) | (go_simp; rfl)); intro gb174 hg w8 hbox hb; have n0_ := Aside0.mk (below_step (uB HB.out) hb); have n1_ := Aside0.mk (hbox); have n2_ := Aside0.mk ((by rw [hg]; exact (below_size (uB HB.out)) : w.heap.size ≤ gb174)); have n3_ := Aside0.mk ((by rw [hg]; exact (below_size (uB HB.out)) : w.heap.size ≤ gb174)); clear HB; have HB := n0_; have BK174 := n1_; have GW174 := n2_; have GE174 := n3_; clear n0_ n1_ n2_ n3_; clear hb hbox hg; have hcz9_0 : w8.cell? ⟨gb174, 0, none⟩ = some (.int .i64 0) := (blk_cell BK174.out 0).trans rfl; have hcz9_1 : w8.cell? ⟨gb174, 1, none⟩ = some (.int .i64 0) := (blk_cell BK174.out 1).trans rfl; have hcz9_2 : w8.cell? ⟨gb174, 2, none⟩ = some (.int .i64 0) := (blk_cell BK174.out 2).trans rfl; have hcz9_3 : w8.cell? ⟨gb174, 3, none⟩ = some (.int .i64 0) := (blk_cell BK174.out 3).trans rfl; have hcz9_4 : w8.cell? ⟨gb174, 4, none⟩ = some (.int .i64 0) := (blk_cell BK174.out 4).trans rfl; have hcz9_5 : w8.cell? ⟨gb174, 5, none⟩ = some (.int .i64 0) := (blk_cell BK174.out 5).trans rfl; have hfz9_0 := blk_frozen BK174.out 0; have hfz9_1 := blk_frozen BK174.out 1; have hfz9_2 := blk_frozen BK174.out 2; have hfz9_3 := blk_frozen BK174.out 3; have hfz9_4 := blk_frozen BK174.out 4; have hfz9_5 := blk_frozen BK174.out 5) | (go_at_call 94; (with_reducible refine (datetime_isQuarter.calls a1 true _ A5.out).mono ?_); rintro e w' ⟨rfl, ⟨nd, rfl⟩⟩) | ((with_reducible refine gate_dst (N := 44) rfl ?_); refine Kd.R_lit (Kd.int .u8) _ 5 ?hg (N := 44) ?hd (xs := ([(wrap64 (t167 - 1900)) % 256, (t168) % 256, (t169) % 256, (t170) % 256, (t171) % 256, (t172) % 256, (IntKind.i8.wrap (wrap64 (Int.tdiv a1 15))) % 256] : List Int)) (inner := [.int .u8 ((wrap64 (t167 - 1900)) % 256), .int .u8 ((t168) % 256), .int .u8 ((t169) % 256), .int .u8 ((t170) % 256), .int .u8 ((t171) % 256), .int .u8 ((t172) % 256), .int .u8 ((IntKind.i8.wrap (wrap64 (Int.tdiv a1 15))) % 256)]) (ok := fun _ => True) (okp := fun _ => True) ?hr ?hp (fun _ hk => hk) trivial (Below.refl _ _) (Nat.le_refl _) (by simp) ?_; (case hd => rfl); (case hg => rfl); (case hr => first | (go_simp; done) | (go_simp; rfl)); (case hp => exact (Reps.one (show Kd.M (Kd.int .u8) _ _ _ ((wrap64 (t167 - 1900)) % 256) [.int .u8 ((wrap64 (t167 - 1900)) % 256)] from rfl) (Reps.one (show Kd.M (Kd.int .u8) _ _ _ ((t168) % 256) [.int .u8 ((t168) % 256)] from rfl) (Reps.one (show Kd.M (Kd.int .u8) _ _ _ ((t169) % 256) [.int .u8 ((t169) % 256)] from rfl) (Reps.one (show Kd.M (Kd.int .u8) _ _ _ ((t170) % 256) [.int .u8 ((t170) % 256)] from rfl) (Reps.one (show Kd.M (Kd.int .u8) _ _ _ ((t171) % 256) [.int .u8 ((t171) % 256)] from rfl) (Reps.one (show Kd.M (Kd.int .u8) _ _ _ ((t172) % 256) [.int .u8 ((t172) % 256)] from rfl) (Reps.one (show Kd.M (Kd.int .u8) _ _ _ ((IntKind.i8.wrap (wrap64 (Int.tdiv a1 15))) % 256) [.int .u8 ((IntKind.i8.wrap (wrap64 (Int.tdiv a1 15))) % 256)] from rfl) (Reps.none _ _))))))))); intro v177 w10 ho11 hb hg_ hnew_; clear hg_ hnew_; (first | rw [← Ny176.out] at ho11 | (simp only [Int.reduceToNat] at ho11; rw [← Ny176.out] at ho11)); have n0_ := Aside0.mk (Kd.R_lower ho11 (below_size (by repeat (first | (with_reducible first | exact HB.out | apply below_alloc | apply pw_below_drewN | apply below_drew1 | refine below_set ?_ GE174.out) | exact HB.out)))); have n1_ := Aside0.mk (blk_below (g := gb174) (o := .cells #[.int .i64 t167, .int .i64 t168, .int .i64 t169, .int .i64 t170, .int .i64 t171, .int .i64 t172] 119 (0, 0)) (by (with_reducible repeat (first | refine blk_drewN ?_ _ | refine blk_drew ?_ | refine blk_alloc ?_ _)); refine blk_put (cs := #[.int .i64 t167, .int .i64 t168, .int .i64 t169, .int .i64 t170, .int .i64 t171, .int .i64 0]) ?_ 5 _ rfl; (with_reducible repeat (first | refine blk_drewN ?_ _ | refine blk_drew ?_ | refine blk_alloc ?_ _)); refine blk_put (cs := #[.int .i64 t167, .int .i64 t168, .int .i64 t169, .int .i64 t170, .int .i64 0, .int .i64 0]) ?_ 4 _ rfl; (with_reducible repeat (first | refine blk_drewN ?_ _ | refine blk_drew ?_ | refine blk_alloc ?_ _)); refine blk_put (cs := #[.int .i64 t167, .int .i64 t168, .int .i64 t169, .int .i64 0, .int .i64 0, .int .i64 0]) ?_ 3 _ rfl; (with_reducible repeat (first | refine blk_drewN ?_ _ | refine blk_drew ?_ | refine blk_alloc ?_ _)); refine blk_put (cs := #[.int .i64 t167, .int .i64 t168, .int .i64 0, .int .i64 0, .int .i64 0, .int .i64 0]) ?_ 2 _ rfl; (with_reducible repeat (first | refine blk_drewN ?_ _ | refine blk_drew ?_ | refine blk_alloc ?_ _)); refine blk_put (cs := #[.int .i64 t167, .int .i64 0, .int .i64 0, .int .i64 0, .int .i64 0, .int .i64 0]) ?_ 1 _ rfl; (with_reducible repeat (first | refine blk_drewN ?_ _ | refine blk_drew ?_ | refine blk_alloc ?_ _)); refine blk_put (cs := #[.int .i64 0, .int .i64 0, .int .i64 0, .int .i64 0, .int .i64 0, .int .i64 0]) ?_ 0 _ rfl; (with_reducible repeat (first | refine blk_drewN ?_ _ | refine blk_drew ?_ | refine blk_alloc ?_ _)); exact BK174.out) hb); have n2_ := Aside0.mk (below_step (by repeat (first | (with_reducible first | exact HB.out | apply below_alloc | apply pw_below_drewN | apply below_drew1 | refine below_set ?_ GE174.out) | exact HB.out)) hb); clear BK174; clear HB; have HO178 := n0_; have BK174 := n1_; have HB := n2_; clear n0_ n1_ n2_; clear hb ho11; have hcv12 := own_string (P := Tryz.prog) Tryz.underlying69 Tryz.underlying5 Tryz.underlying9 (Kd.own_of_R HO178.out)))
   go_ret2
   exact ⟨by first | rfl | (simp [errW_none, errW_some] <;> rfl) | (simp [*, errW_none, errW_some] <;> rfl), by repeat (first | (with_reducible first | exact HB.out | apply below_alloc | apply pw_below_drewN | apply below_drew1 | refine below_set ?_ GE174.out) | exact HB.out)⟩
  ·replace c6 := Bool.eq_false_iff.mpr c6
   subst c6
   have H1 : (some ((⟨#[]⟩ : ByteArray), 2)) = some (r1, r2) := by rw [if_neg (show ¬ (false = true) by decide)] at H; exact H
   clear H
   have H := H1
   clear H1
   simp only [Option.some.injEq, Prod.mk.injEq] at H
   obtain ⟨rfl, rfl⟩ := H
   go_enter Tryz.func67, Tryz.ntmps67
   go_wp2_with (first | ((with_reducible refine gate_callee (f := 93) rfl ?_); refine gL (some 11) Tryz.func93 #[.int .i64 a0, .int .i64 a1] ?_; (with_reducible refine (datetime_Split.calls k a0 a1 t167 t168 t169 t170 t171 t172 t173 _ A3.out).mono ?_); rintro e w13 ⟨rfl, hb⟩; refine ⟨_, rfl, ?_⟩; have n0_ := Aside0.mk (below_step (uB HB.out) hb); clear HB; have HB := n0_; clear n0_; (try clear hb); (try clear hb2); (try clear hk); (try clear hi)) | ((with_reducible refine gate_dst (N := 6) rfl ?_); refine box_event ?hg (N := 6) ?hd (cs := #[.int .i64 0, .int .i64 0, .int .i64 0, .int .i64 0, .int .i64 0, .int .i64 0]) (t := 119) ?hr ?_; (case hd => rfl); (case hg => rfl); (case hr => first | (go_simp; done) | (go_simp; rfl)); intro gb174 hg w14 hbox hb; have n0_ := Aside0.mk (below_step (uB HB.out) hb); have n1_ := Aside0.mk (hbox); have n2_ := Aside0.mk ((by rw [hg]; exact (below_size (uB HB.out)) : w.heap.size ≤ gb174)); have n3_ := Aside0.mk ((by rw [hg]; exact (below_size (uB HB.out)) : w.heap.size ≤ gb174)); clear HB; have HB := n0_; have BK174 := n1_; have GW174 := n2_; have GE174 := n3_; clear n0_ n1_ n2_ n3_; clear hb hbox hg; have hcz15_0 : w14.cell? ⟨gb174, 0, none⟩ = some (.int .i64 0) := (blk_cell BK174.out 0).trans rfl; have hcz15_1 : w14.cell? ⟨gb174, 1, none⟩ = some (.int .i64 0) := (blk_cell BK174.out 1).trans rfl; have hcz15_2 : w14.cell? ⟨gb174, 2, none⟩ = some (.int .i64 0) := (blk_cell BK174.out 2).trans rfl; have hcz15_3 : w14.cell? ⟨gb174, 3, none⟩ = some (.int .i64 0) := (blk_cell BK174.out 3).trans rfl; have hcz15_4 : w14.cell? ⟨gb174, 4, none⟩ = some (.int .i64 0) := (blk_cell BK174.out 4).trans rfl; have hcz15_5 : w14.cell? ⟨gb174, 5, none⟩ = some (.int .i64 0) := (blk_cell BK174.out 5).trans rfl; have hfz15_0 := blk_frozen BK174.out 0; have hfz15_1 := blk_frozen BK174.out 1; have hfz15_2 := blk_frozen BK174.out 2; have hfz15_3 := blk_frozen BK174.out 3; have hfz15_4 := blk_frozen BK174.out 4; have hfz15_5 := blk_frozen BK174.out 5) | (go_at_call 94; (with_reducible refine (datetime_isQuarter.calls a1 false _ A5.out).mono ?_); rintro e w' ⟨rfl, ⟨nd, rfl⟩⟩))
   go_ret2
   exact ⟨by first | rfl | (simp [errW_none, errW_some] <;> rfl) | (simp [*, errW_none, errW_some] <;> rfl), by repeat (first | (with_reducible first | exact HB.out | apply below_alloc | apply pw_below_drewN | apply below_drew1 | refine below_set ?_ GE174.out) | exact HB.out)⟩
 ·rw [if_neg c4] at H
  have c4b0 : (t173 == 0) = false := beq_eq_false_iff_ne.mpr c4
  have c4b1 : (t173 != 0) = true := bne_iff_ne.mpr c4
  simp only [Option.some.injEq, Prod.mk.injEq] at H
  obtain ⟨rfl, rfl⟩ := H
  go_enter Tryz.func67, Tryz.ntmps67
  go_wp2_with (first | ((with_reducible refine gate_callee (f := 93) rfl ?_); refine gL (some 11) Tryz.func93 #[.int .i64 a0, .int .i64 a1] ?_; (with_reducible refine (datetime_Split.calls k a0 a1 t167 t168 t169 t170 t171 t172 t173 _ A3.out).mono ?_); rintro e w16 ⟨rfl, hb⟩; refine ⟨_, rfl, ?_⟩; have n0_ := Aside0.mk (below_step (uB HB.out) hb); clear HB; have HB := n0_; clear n0_; (try clear hb); (try clear hb2); (try clear hk); (try clear hi)) | ((with_reducible refine gate_dst (N := 6) rfl ?_); refine box_event ?hg (N := 6) ?hd (cs := #[.int .i64 0, .int .i64 0, .int .i64 0, .int .i64 0, .int .i64 0, .int .i64 0]) (t := 119) ?hr ?_; (case hd => rfl); (case hg => rfl); (case hr => first | (go_simp; done) | (go_simp; rfl)); intro gb174 hg w17 hbox hb; have n0_ := Aside0.mk (below_step (uB HB.out) hb); have n1_ := Aside0.mk (hbox); have n2_ := Aside0.mk ((by rw [hg]; exact (below_size (uB HB.out)) : w.heap.size ≤ gb174)); have n3_ := Aside0.mk ((by rw [hg]; exact (below_size (uB HB.out)) : w.heap.size ≤ gb174)); clear HB; have HB := n0_; have BK174 := n1_; have GW174 := n2_; have GE174 := n3_; clear n0_ n1_ n2_ n3_; clear hb hbox hg; have hcz18_0 : w17.cell? ⟨gb174, 0, none⟩ = some (.int .i64 0) := (blk_cell BK174.out 0).trans rfl; have hcz18_1 : w17.cell? ⟨gb174, 1, none⟩ = some (.int .i64 0) := (blk_cell BK174.out 1).trans rfl; have hcz18_2 : w17.cell? ⟨gb174, 2, none⟩ = some (.int .i64 0) := (blk_cell BK174.out 2).trans rfl; have hcz18_3 : w17.cell? ⟨gb174, 3, none⟩ = some (.int .i64 0) := (blk_cell BK174.out 3).trans rfl; have hcz18_4 : w17.cell? ⟨gb174, 4, none⟩ = some (.int .i64 0) := (blk_cell BK174.out 4).trans rfl; have hcz18_5 : w17.cell? ⟨gb174, 5, none⟩ = some (.int .i64 0) := (blk_cell BK174.out 5).trans rfl; have hfz18_0 := blk_frozen BK174.out 0; have hfz18_1 := blk_frozen BK174.out 1; have hfz18_2 := blk_frozen BK174.out 2; have hfz18_3 := blk_frozen BK174.out 3; have hfz18_4 := blk_frozen BK174.out 4; have hfz18_5 := blk_frozen BK174.out 5))
  go_ret2
  exact ⟨by first | rfl | (simp [errW_none, errW_some] <;> rfl) | (simp [*, errW_none, errW_some] <;> rfl), by repeat (first | (with_reducible first | exact HB.out | apply below_alloc | apply pw_below_drewN | apply below_drew1 | refine below_set ?_ GE174.out) | exact HB.out)⟩

-- NOT PRINTED: function 70 (strings_Builder_Write)

-- NOT PRINTED: function 71 (strings_Builder_WriteByte)

end Go.Proofs.YthblghfobnhoeaaGreat.A
namespace Go.Proofs.YthblghfobnhoeaaGreat.H
open Go.RowKit Go.Proofs.YthblghfobnhoeaaGreatW.PrintWords
set_option linter.unusedVariables false

theorem up_any (i : Int) (w : World) : Calls Tryz.prog 120 #[.int .i64 i] w fun e w' => e = .returned (.int .i64 i) ∧ w = w' := by
  go_enter Tryz.func120, Tryz.ntmps120
  go_wp2
  go_ret
  exact ⟨rfl, rfl⟩

theorem conv_any (w : World) (xs : List Int) (n : Nat) (c : Array Value) (hl : xs.length = n) (hm : n ≤ 255) (hc : c = (xs.map (Value.int .u8)).toArray) (m : Nat) :
    (convert 69 9 (.slice (some ⟨w.heap.size, 0, none⟩) n n)).run Tryz.prog ((w.alloc (.cells c 5)).drewN m) = .ok (.string (strOfNums xs)) ((w.alloc (.cells c 5)).drewN m) := by
  subst hc
  refine string_of_reads Tryz.underlying69 Tryz.underlying5 Tryz.underlying9 ⟨hl, by omega, fun h => ⟨_, rfl, fun j hj => ?_⟩⟩
  have : (⟨w.heap.size, 0, none⟩ : Addr).add j = ⟨w.heap.size, j, none⟩ := by unfold Addr.add; split <;> simp_all
  rw [this]
  show (match (w.heap.push (Obj.cells ((xs.map (Value.int .u8)).toArray) 5 (0, 0)))[w.heap.size]? with
    | some (.cells c _ _) => if (none : Option Nat).isSome then none else c[j]?
    | _ => none) = _
  rw [Array.getElem?_push, if_pos rfl]
  simp [List.getD_eq_getElem?_getD, List.getElem?_eq_getElem (show j < xs.length by omega)]
theorem conv4 (w : World) (x0 x1 x2 x3 : Int) : (convert 69 9 (.slice (some ⟨w.heap.size, 0, none⟩) 4 4)).run Tryz.prog (w.alloc (.cells #[.int .u8 x0, .int .u8 x1, .int .u8 x2, .int .u8 x3] 5)).drew.drew.drew.drew =
    .ok (.string (strOfNums [x0, x1, x2, x3])) (w.alloc (.cells #[.int .u8 x0, .int .u8 x1, .int .u8 x2, .int .u8 x3] 5)).drew.drew.drew.drew :=
  conv_any w [x0, x1, x2, x3] 4 _ rfl (by omega) rfl 4
theorem conv2 (w : World) (x0 x1 : Int) : (convert 69 9 (.slice (some ⟨w.heap.size, 0, none⟩) 2 2)).run Tryz.prog (w.alloc (.cells #[.int .u8 x0, .int .u8 x1] 5)).drew.drew =
    .ok (.string (strOfNums [x0, x1])) (w.alloc (.cells #[.int .u8 x0, .int .u8 x1] 5)).drew.drew :=
  conv_any w [x0, x1] 2 _ rfl (by omega) rfl 2

theorem down_any (i : Int) (k : Int) (a : Addr) (w : World) (hc : w.cell? a = some (.int .i64 k)) (h0 : 0 ≤ i) (h1 : i < k) (h2 : k ≤ 8) : Calls Tryz.prog 121 #[.int .i64 i, .pointer (some a)] w fun e w' => e = .returned (.int .i64 (k - 1 - i)) ∧ w = w' := by
  go_enter Tryz.func121, Tryz.ntmps121
  go_wp2
  go_ret
  exact ⟨rfl, rfl⟩

set_option maxRecDepth 100000 in
set_option maxHeartbeats 4000000 in
theorem write_up4 (n : Int) (w : World) :
    Calls Tryz.prog 97 #[.int .i64 n, .int .i64 4, (.func (.func 120) #[] #[])] w fun e w' => e = .returned (.string (strOfNums [n % 256, n / 256 % 256, n / 65536 % 256, n / 16777216 % 256])) ∧ Below w.heap.size w w' := by
  have hmk : ∀ w, (Instr.makeSlice 69 (.int .i64 4) (.int .i64 4)).run Tryz.prog w = .ok (.slice (some ⟨w.heap.size, 0, none⟩) 4 4) (w.alloc (.cells #[.int .u8 0, .int .u8 0, .int .u8 0, .int .u8 0] 5)) := fun _ => by kernel_rfl
  have hcv := conv4
  have w0 : IntKind.i64.wrap 0 = 0 := by decide
  have w8 : IntKind.i64.wrap 8 = 8 := by decide
  have w16 : IntKind.i64.wrap 16 = 16 := by decide
  have w24 : IntKind.i64.wrap 24 = 24 := by decide
  go_enter Tryz.func97, Tryz.ntmps97
  go_wp2
  refine wp_loop_rounds 5 ?_
  iterate 4
    rw [rounds_succ]
    go_wp2
    go_region_with (go_at_call 120; refine (up_any _ _).mono ?_; rintro e w' ⟨rfl, rfl⟩)
    go_wp2
  rw [rounds_succ]
  go_wp2
  go_ret
  exact ⟨rfl, (Below.drew (Below.drew (Below.drew (Below.drew ((Below.refl _ _).alloc (Nat.le_refl _) _)))))⟩

set_option maxRecDepth 100000 in
set_option maxHeartbeats 4000000 in
theorem write_up2 (n : Int) (w : World) :
    Calls Tryz.prog 97 #[.int .i64 n, .int .i64 2, (.func (.func 120) #[] #[])] w fun e w' => e = .returned (.string (strOfNums [n % 256, n / 256 % 256])) ∧ Below w.heap.size w w' := by
  have hmk : ∀ w, (Instr.makeSlice 69 (.int .i64 2) (.int .i64 2)).run Tryz.prog w = .ok (.slice (some ⟨w.heap.size, 0, none⟩) 2 2) (w.alloc (.cells #[.int .u8 0, .int .u8 0] 5)) := fun _ => by kernel_rfl
  have hcv := conv2
  have w0 : IntKind.i64.wrap 0 = 0 := by decide
  have w8 : IntKind.i64.wrap 8 = 8 := by decide
  go_enter Tryz.func97, Tryz.ntmps97
  go_wp2
  refine wp_loop_rounds 3 ?_
  iterate 2
    rw [rounds_succ]
    go_wp2
    go_region_with (go_at_call 120; refine (up_any _ _).mono ?_; rintro e w' ⟨rfl, rfl⟩)
    go_wp2
  rw [rounds_succ]
  go_wp2
  go_ret
  exact ⟨rfl, (Below.drew (Below.drew ((Below.refl _ _).alloc (Nat.le_refl _) _)))⟩

set_option maxRecDepth 100000 in
set_option maxHeartbeats 4000000 in
theorem write_down2 (n : Int) (w : World) (b : Nat) (hb : b < w.heap.size) (hc : w.cell? ⟨b, 0, none⟩ = some (.int .i64 2)) :
    Calls Tryz.prog 97 #[.int .i64 n, .int .i64 2, (.func (.func 121) #[] #[.pointer (some ⟨b, 0, none⟩)])] w fun e w' => e = .returned (.string (strOfNums [n / 256 % 256, n % 256])) ∧ Below w.heap.size w w' := by
  have hmk : ∀ w, (Instr.makeSlice 69 (.int .i64 2) (.int .i64 2)).run Tryz.prog w = .ok (.slice (some ⟨w.heap.size, 0, none⟩) 2 2) (w.alloc (.cells #[.int .u8 0, .int .u8 0] 5)) := fun _ => by kernel_rfl
  have hcv := conv2
  have w0 : IntKind.i64.wrap 0 = 0 := by decide
  have w8 : IntKind.i64.wrap 8 = 8 := by decide
  have v1 : IntKind.i64.wrap 1 = 1 := by decide
  have v2 : IntKind.i64.wrap 2 = 2 := by decide
  have v3 : IntKind.i64.wrap 3 = 3 := by decide
  have hne : b ≠ w.heap.size := by omega
  go_enter Tryz.func97, Tryz.ntmps97
  go_wp2
  refine wp_loop_rounds 3 ?_
  iterate 2
    rw [rounds_succ]
    go_wp2
    go_region_with (go_at_call 121; refine (down_any _ 2 _ _ (by go_simp) (by omega) (by omega) (by omega)).mono ?_; rintro e w' ⟨rfl, rfl⟩)
    go_wp2
  rw [rounds_succ]
  go_wp2
  go_ret
  exact ⟨rfl, (Below.drew (Below.drew ((Below.refl _ _).alloc (Nat.le_refl _) _)))⟩

set_option maxRecDepth 100000 in
set_option maxHeartbeats 4000000 in
theorem write_down4 (n : Int) (w : World) (b : Nat) (hb : b < w.heap.size) (hc : w.cell? ⟨b, 0, none⟩ = some (.int .i64 4)) :
    Calls Tryz.prog 97 #[.int .i64 n, .int .i64 4, (.func (.func 121) #[] #[.pointer (some ⟨b, 0, none⟩)])] w fun e w' => e = .returned (.string (strOfNums [n / 16777216 % 256, n / 65536 % 256, n / 256 % 256, n % 256])) ∧ Below w.heap.size w w' := by
  have hmk : ∀ w, (Instr.makeSlice 69 (.int .i64 4) (.int .i64 4)).run Tryz.prog w = .ok (.slice (some ⟨w.heap.size, 0, none⟩) 4 4) (w.alloc (.cells #[.int .u8 0, .int .u8 0, .int .u8 0, .int .u8 0] 5)) := fun _ => by kernel_rfl
  have hcv := conv4
  have w0 : IntKind.i64.wrap 0 = 0 := by decide
  have w8 : IntKind.i64.wrap 8 = 8 := by decide
  have w16 : IntKind.i64.wrap 16 = 16 := by decide
  have w24 : IntKind.i64.wrap 24 = 24 := by decide
  have v1 : IntKind.i64.wrap 1 = 1 := by decide
  have v2 : IntKind.i64.wrap 2 = 2 := by decide
  have v3 : IntKind.i64.wrap 3 = 3 := by decide
  have hne : b ≠ w.heap.size := by omega
  go_enter Tryz.func97, Tryz.ntmps97
  go_wp2
  refine wp_loop_rounds 5 ?_
  iterate 4
    rw [rounds_succ]
    go_wp2
    go_region_with (go_at_call 121; refine (down_any _ 4 _ _ (by go_simp) (by omega) (by omega) (by omega)).mono ?_; rintro e w' ⟨rfl, rfl⟩)
    go_wp2
  rw [rounds_succ]
  go_wp2
  go_ret
  exact ⟨rfl, (Below.drew (Below.drew (Below.drew (Below.drew ((Below.refl _ _).alloc (Nat.le_refl _) _)))))⟩


end Go.Proofs.YthblghfobnhoeaaGreat.H
namespace Go.Proofs.YthblghfobnhoeaaGreat.H
open Go.RowKit Go.Proofs.YthblghfobnhoeaaGreatW.PrintWords
set_option linter.unusedVariables false

/-- The bytes of a number, as the program writes them. -/
def le4 (n : Int) : ByteArray := strOfNums [n % 256, n / 256 % 256, n / 65536 % 256, n / 16777216 % 256]
def be4 (n : Int) : ByteArray := strOfNums [n / 16777216 % 256, n / 65536 % 256, n / 256 % 256, n % 256]
def le2 (n : Int) : ByteArray := strOfNums [n % 256, n / 256 % 256]
def be2 (n : Int) : ByteArray := strOfNums [n / 256 % 256, n % 256]
theorem le4_size (n : Int) : (le4 n).size ≤ 1000 := by simp [le4, strOfNums, ByteArray.size]
theorem be4_size (n : Int) : (be4 n).size ≤ 1000 := by simp [be4, strOfNums, ByteArray.size]
theorem le2_size (n : Int) : (le2 n).size ≤ 1000 := by simp [le2, strOfNums, ByteArray.size]
theorem be2_size (n : Int) : (be2 n).size ≤ 1000 := by simp [be2, strOfNums, ByteArray.size]

theorem wr_le4 (n : Int) (w : World) : Calls Tryz.prog 97 #[.int .i64 n, .int .i64 4, .func (.func 120) #[] #[]] w fun e w' => e = .returned (.string (le4 n)) ∧ Below w.heap.size w w' := write_up4 n w
theorem wr_le2 (n : Int) (w : World) : Calls Tryz.prog 97 #[.int .i64 n, .int .i64 2, .func (.func 120) #[] #[]] w fun e w' => e = .returned (.string (le2 n)) ∧ Below w.heap.size w w' := write_up2 n w
theorem wr_be4 (n : Int) (w : World) (b : Nat) (hb : b < w.heap.size) (hc : w.cell? ⟨b, 0, none⟩ = some (.int .i64 4)) : Calls Tryz.prog 97 #[.int .i64 n, .int .i64 4, .func (.func 121) #[] #[.pointer (some ⟨b, 0, none⟩)]] w fun e w' => e = .returned (.string (be4 n)) ∧ Below w.heap.size w w' := write_down4 n w b hb hc
theorem wr_be2 (n : Int) (w : World) (b : Nat) (hb : b < w.heap.size) (hc : w.cell? ⟨b, 0, none⟩ = some (.int .i64 2)) : Calls Tryz.prog 97 #[.int .i64 n, .int .i64 2, .func (.func 121) #[] #[.pointer (some ⟨b, 0, none⟩)]] w fun e w' => e = .returned (.string (be2 n)) ∧ Below w.heap.size w w' := write_down2 n w b hb hc

theorem dbl4 (w : World) : Calls Tryz.prog 95 #[.int .i64 4] w fun e w' => e = .returned (.bool true) ∧ w = w' := by
  go_enter Tryz.func95, Tryz.ntmps95
  go_wp2
  go_ret
  exact ⟨rfl, rfl⟩
theorem dbl2 (w : World) : Calls Tryz.prog 95 #[.int .i64 2] w fun e w' => e = .returned (.bool true) ∧ w = w' := by
  go_enter Tryz.func95, Tryz.ntmps95
  go_wp2
  go_ret
  exact ⟨rfl, rfl⟩

theorem fits_neg (n k : Int) (w : World) (h : n < 0) : Calls Tryz.prog 96 #[.int .i64 n, .int .i64 k] w fun e w' => e = .returned (.bool false) ∧ w = w' := by
  have h1 : decide (0 ≤ n) = false := decide_eq_false (by omega)
  go_enter Tryz.func96, Tryz.ntmps96
  go_wp2
  go_ret
  exact ⟨rfl, rfl⟩
theorem fits4 (n : Int) (w : World) (h : 0 ≤ n) : Calls Tryz.prog 96 #[.int .i64 n, .int .i64 4] w fun e w' => e = .returned (.bool (decide (n < 4294967296))) ∧ w = w' := by
  have h1 : decide (0 ≤ n) = true := decide_eq_true (by omega)
  have w32 : IntKind.i64.wrap 32 = 32 := by decide
  go_enter Tryz.func96, Tryz.ntmps96
  go_wp2
  go_ret
  exact ⟨rfl, rfl⟩
theorem fits2 (n : Int) (w : World) (h : 0 ≤ n) : Calls Tryz.prog 96 #[.int .i64 n, .int .i64 2] w fun e w' => e = .returned (.bool (decide (n < 65536))) ∧ w = w' := by
  have h1 : decide (0 ≤ n) = true := decide_eq_true (by omega)
  have w16 : IntKind.i64.wrap 16 = 16 := by decide
  go_enter Tryz.func96, Tryz.ntmps96
  go_wp2
  go_ret
  exact ⟨rfl, rfl⟩

end Go.Proofs.YthblghfobnhoeaaGreat.H
namespace Go.Proofs.YthblghfobnhoeaaGreat.H
open Go.RowKit Go.Proofs.YthblghfobnhoeaaGreatW.PrintWords
set_option linter.unusedVariables false

theorem up_mk (k : Int) (w : World) : Calls Tryz.prog 98 #[.int .i64 k] w fun e w' => e = .returned (.func (.func 120) #[] #[]) ∧ w = w' := by
 go_enter Tryz.func98, Tryz.ntmps98
 go_wp2
 go_ret
 exact ⟨rfl, rfl⟩
theorem down_mk (k : Int) (w : World) : Calls Tryz.prog 99 #[.int .i64 k] w fun e w' => e = .returned (.func (.func 121) #[] #[.pointer (some ⟨w.heap.size, 0, none⟩)]) ∧ w.alloc (.cells #[.int .i64 k] 3) = w' := by
 go_enter Tryz.func99, Tryz.ntmps99
 go_wp2
 go_ret
 exact ⟨rfl, rfl⟩

theorem new_cell (w W : World) (v : Value) (e : TypeId) (h : Below w.heap.size w W) :
  (W.alloc (.cells #[v] e)).cell? ⟨W.heap.size, 0, none⟩ = some v := by
 show (match (W.heap.push (Obj.cells #[v] e (0, 0)))[W.heap.size]? with
  | some (.cells c _ _) => if (none : Option Nat).isSome then none else c[0]?
  | _ => none) = _
 rw [Array.getElem?_push, if_pos rfl]
 rfl

set_option maxRecDepth 100000 in
set_option maxHeartbeats 1000000 in
theorem both4 (n : Int) (w : World) (h0 : 0 ≤ n) (h1 : n < 4294967296) :
  Calls Tryz.prog 69 #[.int .i64 n, .int .i64 4] w fun e w' => e = .returned (.tuple #[.string (le4 n ++ be4 n), .int .i64 0]) ∧ Below w.heap.size w w' := by
 have d1 : decide (n < 4294967296) = true := decide_eq_true h1
 have s1 := le4_size n
 have s2 := be4_size n
 go_enter Tryz.func69, Tryz.ntmps69
 go_wp2_with (first | (go_at_call 95; refine (dbl4 _).mono ?_; rintro e w' ⟨rfl, rfl⟩) | (go_at_call 96; refine (fits4 _ _ (by omega)).mono ?_; rintro e w' ⟨rfl, rfl⟩) | (go_at_call 98; refine (up_mk _ _).mono ?_; rintro e w' ⟨rfl, rfl⟩) | (go_at_call 99; refine (down_mk _ _).mono ?_; rintro e w' ⟨rfl, rfl⟩))
 refine (wr_le4 _ _).mono ?_
 rintro e w1 ⟨rfl, hb1⟩
 go_wp2_with (first | (go_at_call 95; refine (dbl4 _).mono ?_; rintro e w' ⟨rfl, rfl⟩) | (go_at_call 96; refine (fits4 _ _ (by omega)).mono ?_; rintro e w' ⟨rfl, rfl⟩) | (go_at_call 98; refine (up_mk _ _).mono ?_; rintro e w' ⟨rfl, rfl⟩) | (go_at_call 99; refine (down_mk _ _).mono ?_; rintro e w' ⟨rfl, rfl⟩))
 refine (wr_be4 _ _ _ (by simp) (new_cell w w1 _ _ hb1)).mono ?_
 rintro e w2 ⟨rfl, hb2⟩
 go_wp2
 go_ret2
 exact ⟨rfl, (hb1.alloc hb1.size _).trans (hb2.mono (by have := hb1.size; simp; omega))⟩

set_option maxRecDepth 100000 in
set_option maxHeartbeats 1000000 in
theorem both2 (n : Int) (w : World) (h0 : 0 ≤ n) (h1 : n < 65536) :
  Calls Tryz.prog 69 #[.int .i64 n, .int .i64 2] w fun e w' => e = .returned (.tuple #[.string (le2 n ++ be2 n), .int .i64 0]) ∧ Below w.heap.size w w' := by
 have d1 : decide (n < 65536) = true := decide_eq_true h1
 have s1 := le2_size n
 have s2 := be2_size n
 go_enter Tryz.func69, Tryz.ntmps69
 go_wp2_with (first | (go_at_call 95; refine (dbl2 _).mono ?_; rintro e w' ⟨rfl, rfl⟩) | (go_at_call 96; refine (fits2 _ _ (by omega)).mono ?_; rintro e w' ⟨rfl, rfl⟩) | (go_at_call 98; refine (up_mk _ _).mono ?_; rintro e w' ⟨rfl, rfl⟩) | (go_at_call 99; refine (down_mk _ _).mono ?_; rintro e w' ⟨rfl, rfl⟩))
 refine (wr_le2 _ _).mono ?_
 rintro e w1 ⟨rfl, hb1⟩
 go_wp2_with (first | (go_at_call 95; refine (dbl2 _).mono ?_; rintro e w' ⟨rfl, rfl⟩) | (go_at_call 96; refine (fits2 _ _ (by omega)).mono ?_; rintro e w' ⟨rfl, rfl⟩) | (go_at_call 98; refine (up_mk _ _).mono ?_; rintro e w' ⟨rfl, rfl⟩) | (go_at_call 99; refine (down_mk _ _).mono ?_; rintro e w' ⟨rfl, rfl⟩))
 refine (wr_be2 _ _ _ (by simp) (new_cell w w1 _ _ hb1)).mono ?_
 rintro e w2 ⟨rfl, hb2⟩
 go_wp2
 go_ret2
 exact ⟨rfl, (hb1.alloc hb1.size _).trans (hb2.mono (by have := hb1.size; simp; omega))⟩

theorem both4_neg (n : Int) (w : World) (h : n < 0) :
  Calls Tryz.prog 69 #[.int .i64 n, .int .i64 4] w fun e w' => e = .returned (.tuple #[.string ⟨#[]⟩, .int .i64 2]) ∧ Below w.heap.size w w' := by
 go_enter Tryz.func69, Tryz.ntmps69
 go_wp2_with (first | (go_at_call 95; refine (dbl4 _).mono ?_; rintro e w' ⟨rfl, rfl⟩) | (go_at_call 96; refine (fits_neg _ _ _ (by omega)).mono ?_; rintro e w' ⟨rfl, rfl⟩))
 go_ret2
 exact ⟨rfl, Below.refl _ _⟩
theorem both4_big (n : Int) (w : World) (h : 4294967296 ≤ n) :
  Calls Tryz.prog 69 #[.int .i64 n, .int .i64 4] w fun e w' => e = .returned (.tuple #[.string ⟨#[]⟩, .int .i64 2]) ∧ Below w.heap.size w w' := by
 have d1 : decide (n < 4294967296) = false := decide_eq_false (by omega)
 go_enter Tryz.func69, Tryz.ntmps69
 go_wp2_with (first | (go_at_call 95; refine (dbl4 _).mono ?_; rintro e w' ⟨rfl, rfl⟩) | (go_at_call 96; refine (fits4 _ _ (by omega)).mono ?_; rintro e w' ⟨rfl, rfl⟩))
 go_ret2
 exact ⟨rfl, Below.refl _ _⟩

theorem both2_neg (n : Int) (w : World) (h : n < 0) :
  Calls Tryz.prog 69 #[.int .i64 n, .int .i64 2] w fun e w' => e = .returned (.tuple #[.string ⟨#[]⟩, .int .i64 2]) ∧ Below w.heap.size w w' := by
 go_enter Tryz.func69, Tryz.ntmps69
 go_wp2_with (first | (go_at_call 95; refine (dbl2 _).mono ?_; rintro e w' ⟨rfl, rfl⟩) | (go_at_call 96; refine (fits_neg _ _ _ (by omega)).mono ?_; rintro e w' ⟨rfl, rfl⟩))
 go_ret2
 exact ⟨rfl, Below.refl _ _⟩
theorem both2_big (n : Int) (w : World) (h : 65536 ≤ n) :
  Calls Tryz.prog 69 #[.int .i64 n, .int .i64 2] w fun e w' => e = .returned (.tuple #[.string ⟨#[]⟩, .int .i64 2]) ∧ Below w.heap.size w w' := by
 have d1 : decide (n < 65536) = false := decide_eq_false (by omega)
 go_enter Tryz.func69, Tryz.ntmps69
 go_wp2_with (first | (go_at_call 95; refine (dbl2 _).mono ?_; rintro e w' ⟨rfl, rfl⟩) | (go_at_call 96; refine (fits2 _ _ (by omega)).mono ?_; rintro e w' ⟨rfl, rfl⟩))
 go_ret2
 exact ⟨rfl, Below.refl _ _⟩

/-- endian.Both at the sizes 4 and 2. -/
def endian_Both.f (a0 a1 : Int) : Option (ByteArray × Int) :=
 if a1 = 4 then (if 0 ≤ a0 ∧ a0 < 4294967296 then some (le4 a0 ++ be4 a0, 0) else some ((⟨#[]⟩ : ByteArray), 2))
 else if a1 = 2 then (if 0 ≤ a0 ∧ a0 < 65536 then some (le2 a0 ++ be2 a0, 0) else some ((⟨#[]⟩ : ByteArray), 2))
 else none
theorem endian_Both.calls (a0 : Int) (a1 : Int) (r1 : ByteArray) (r2 : Int) (w : World) (h : endian_Both.f a0 a1 = some (r1, r2)) :
  Calls Tryz.prog 69 #[.int .i64 a0, .int .i64 a1] w fun e w' => e = .returned (.tuple #[.string r1, .int .i64 r2]) ∧ Below w.heap.size w w' := by
 unfold endian_Both.f at h
 by_cases h4 : a1 = 4
 ·subst h4
  rw [if_pos rfl] at h
  by_cases hn : 0 ≤ a0 ∧ a0 < 4294967296
  ·rw [if_pos hn] at h
   obtain ⟨rfl, rfl⟩ := Prod.mk.inj (Option.some.inj h)
   exact both4 a0 w hn.1 hn.2
  ·rw [if_neg hn] at h
   obtain ⟨rfl, rfl⟩ := Prod.mk.inj (Option.some.inj h)
   rcases (by omega : a0 < 0 ∨ 4294967296 ≤ a0) with h0 | h0
   ·exact both4_neg a0 w h0
   ·exact both4_big a0 w h0
 ·rw [if_neg h4] at h
  by_cases h2 : a1 = 2
  ·subst h2
   rw [if_pos rfl] at h
   by_cases hn : 0 ≤ a0 ∧ a0 < 65536
   ·rw [if_pos hn] at h
    obtain ⟨rfl, rfl⟩ := Prod.mk.inj (Option.some.inj h)
    exact both2 a0 w hn.1 hn.2
   ·rw [if_neg hn] at h
    obtain ⟨rfl, rfl⟩ := Prod.mk.inj (Option.some.inj h)
    rcases (by omega : a0 < 0 ∨ 65536 ≤ a0) with h0 | h0
    ·exact both2_neg a0 w h0
    ·exact both2_big a0 w h0
  ·rw [if_neg h2] at h
   cases h

end Go.Proofs.YthblghfobnhoeaaGreat.H
namespace Go.Proofs.YthblghfobnhoeaaGreat.H
open Go.RowKit Go.Proofs.YthblghfobnhoeaaGreatW.PrintWords
set_option linter.unusedVariables false

theorem or_comm_u64 (x y : Int) : bits .or .u64 x y = bits .or .u64 y x := by
 simp only [bits, BitVec.or_comm]
theorem wraps_u64 (n : Int) (h₀ : 0 ≤ n) (h₁ : n < 2 ^ 40) : IntKind.u64.wrap n = n := by rw [IntKind.wrap_u64]; omega
theorem or_u64 (i : Nat) (lo hi : Int) (h0 : 0 ≤ lo) (h1 : lo < 2 ^ i) (h2 : lo < 2 ^ 40) (h3 : 0 ≤ hi) (h4 : hi < 2 ^ 40) (h5 : hi % 2 ^ i = 0) : bits .or .u64 lo hi = lo + hi := by
 rw [or_comm_u64, bits_join .u64 40 (by decide) wraps_u64 i hi lo h3 h5 h4 h0 h1 h2]; omega
theorem or_u64_0 (x : UInt8) : bits .or .u64 0 (IntKind.u64.wrap (IntKind.u64.wrap (x.toNat : Int))) = x.toNat := by
 have hx := x.toNat_lt
 rw [IntKind.wrap_u64, IntKind.wrap_u64, or_u64 0 _ _ (by omega) (by omega) (by omega) (by omega) (by omega) (by omega)]; omega
theorem or_u64_1 (x y : UInt8) : bits .or .u64 (x.toNat : Int) (IntKind.u64.wrap (IntKind.u64.wrap (y.toNat : Int) * 256)) = x.toNat + y.toNat * 256 := by
 have hx := x.toNat_lt
 have hy := y.toNat_lt
 rw [IntKind.wrap_u64, IntKind.wrap_u64, or_u64 8 _ _ (by omega) (by omega) (by omega) (by omega) (by omega) (by omega)]; omega
theorem or_u64_2 (x y z : UInt8) : bits .or .u64 ((x.toNat : Int) + y.toNat * 256) (IntKind.u64.wrap (IntKind.u64.wrap (z.toNat : Int) * 65536)) = x.toNat + y.toNat * 256 + z.toNat * 65536 := by
 have hx := x.toNat_lt
 have hy := y.toNat_lt
 have hz := z.toNat_lt
 rw [IntKind.wrap_u64, IntKind.wrap_u64, or_u64 16 _ _ (by omega) (by omega) (by omega) (by omega) (by omega) (by omega)]; omega
theorem or_u64_3 (x y z u : UInt8) : bits .or .u64 ((x.toNat : Int) + y.toNat * 256 + z.toNat * 65536) (IntKind.u64.wrap (IntKind.u64.wrap (u.toNat : Int) * 16777216)) = x.toNat + y.toNat * 256 + z.toNat * 65536 + u.toNat * 16777216 := by
 have hx := x.toNat_lt
 have hy := y.toNat_lt
 have hz := z.toNat_lt
 have hu := u.toNat_lt
 rw [IntKind.wrap_u64, IntKind.wrap_u64, or_u64 24 _ _ (by omega) (by omega) (by omega) (by omega) (by omega) (by omega)]; omega
theorem gt2 (x y : UInt8) : decide ((9223372036854775807 : Int) < x.toNat + y.toNat * 256) = false := by
 have hx := x.toNat_lt
 have hy := y.toNat_lt
 exact decide_eq_false (by omega)
theorem gt4 (x y z u : UInt8) : decide ((9223372036854775807 : Int) < x.toNat + y.toNat * 256 + z.toNat * 65536 + u.toNat * 16777216) = false := by
 have hx := x.toNat_lt
 have hy := y.toNat_lt
 have hz := z.toNat_lt
 have hu := u.toNat_lt
 exact decide_eq_false (by omega)
theorem inside_any (s : ByteArray) (a k : Int) (w : World) (hs : s.size ≤ 9223372036854775000) (hk0 : 0 ≤ k) (hk : k ≤ 100) :
  Calls Tryz.prog 128 #[.string s, .int .i64 a, .int .i64 k] w fun e w' => e = .returned (.bool (decide (0 ≤ a ∧ a + k ≤ s.size))) ∧ w = w' := by
 by_cases h0 : 0 ≤ a
 ·have d0 : decide (0 ≤ a) = true := decide_eq_true h0
  go_enter Tryz.func128, Tryz.ntmps128
  go_wp2
  go_ret
  have e : decide (a ≤ (s.size : Int) - k) = decide (0 ≤ a ∧ a + k ≤ s.size) := by rw [decide_eq_decide]; omega
  exact ⟨congrArg (fun z => Ending.returned (.bool z)) e, rfl⟩
 ·have d0 : decide (0 ≤ a) = false := decide_eq_false h0
  go_enter Tryz.func128, Tryz.ntmps128
  go_wp2
  go_ret
  exact ⟨by simp, rfl⟩

set_option maxRecDepth 100000 in
set_option maxHeartbeats 4000000 in
theorem read_up2 (s : ByteArray) (a : Int) (w : World) (hs : s.size ≤ 9223372036854775000) (h0 : 0 ≤ a) (h1 : a + 2 ≤ s.size) :
  Calls Tryz.prog 107 #[.string s, .int .i64 a, .int .i64 2, (.func (.func 120) #[] #[])] w fun e w' => e = .returned (.tuple #[.int .i64 (bt s a + bt s (a + 1) * 256), .int .i64 0]) ∧ w = w' := by
 have d : decide (0 ≤ a ∧ a + 2 ≤ s.size) = true := decide_eq_true ⟨h0, h1⟩
 have r0 := or_u64_0
 have r1 := or_u64_1
 have g := gt2
 go_enter Tryz.func107, Tryz.ntmps107
 go_wp2_with (go_at_call 128; refine (inside_any _ _ _ _ (by omega) (by omega) (by omega)).mono ?_; rintro e w' ⟨rfl, rfl⟩)
 refine wp_loop_rounds 3 ?_
 iterate 2
  rw [rounds_succ]
  go_wp2_with (go_at_call 120; refine (up_any _ _).mono ?_; rintro e w' ⟨rfl, rfl⟩)
 rw [rounds_succ]
 go_wp2
 go_ret2
 refine ⟨?_, rfl⟩
 simp only [bt_at]
 have q0 := bt_range s a
 have q1 := bt_range s (a + 1)
 have e : wrap64 (bt s a + bt s (a + 1) * 256) = bt s a + bt s (a + 1) * 256 := by unfold wrap64; omega
 exact congrArg (fun z => Ending.returned (.tuple #[.int .i64 z, .int .i64 0])) e

set_option maxRecDepth 100000 in
set_option maxHeartbeats 4000000 in
theorem read_up4 (s : ByteArray) (a : Int) (w : World) (hs : s.size ≤ 9223372036854775000) (h0 : 0 ≤ a) (h1 : a + 4 ≤ s.size) :
  Calls Tryz.prog 107 #[.string s, .int .i64 a, .int .i64 4, (.func (.func 120) #[] #[])] w fun e w' => e = .returned (.tuple #[.int .i64 (bt s a + bt s (a + 1) * 256 + bt s (a + 2) * 65536 + bt s (a + 3) * 16777216), .int .i64 0]) ∧ w = w' := by
 have d : decide (0 ≤ a ∧ a + 4 ≤ s.size) = true := decide_eq_true ⟨h0, h1⟩
 have r0 := or_u64_0
 have r1 := or_u64_1
 have r2 := or_u64_2
 have r3 := or_u64_3
 have g := gt4
 go_enter Tryz.func107, Tryz.ntmps107
 go_wp2_with (go_at_call 128; refine (inside_any _ _ _ _ (by omega) (by omega) (by omega)).mono ?_; rintro e w' ⟨rfl, rfl⟩)
 refine wp_loop_rounds 5 ?_
 iterate 4
  rw [rounds_succ]
  go_wp2_with (go_at_call 120; refine (up_any _ _).mono ?_; rintro e w' ⟨rfl, rfl⟩)
 rw [rounds_succ]
 go_wp2
 go_ret2
 refine ⟨?_, rfl⟩
 simp only [bt_at]
 have q0 := bt_range s a
 have q1 := bt_range s (a + 1)
 have q2 := bt_range s (a + 2)
 have q3 := bt_range s (a + 3)
 have e : wrap64 (bt s a + bt s (a + 1) * 256 + bt s (a + 2) * 65536 + bt s (a + 3) * 16777216) = bt s a + bt s (a + 1) * 256 + bt s (a + 2) * 65536 + bt s (a + 3) * 16777216 := by unfold wrap64; omega
 exact congrArg (fun z => Ending.returned (.tuple #[.int .i64 z, .int .i64 0])) e

set_option maxRecDepth 100000 in
set_option maxHeartbeats 4000000 in
theorem read_down2 (s : ByteArray) (a : Int) (w : World) (hs : s.size ≤ 9223372036854775000) (h0 : 0 ≤ a) (h1 : a + 2 ≤ s.size) (c : Addr) (hc : w.cell? c = some (.int .i64 2)) :
  Calls Tryz.prog 107 #[.string s, .int .i64 a, .int .i64 2, (.func (.func 121) #[] #[.pointer (some c)])] w fun e w' => e = .returned (.tuple #[.int .i64 (bt s (a + 1) + bt s a * 256), .int .i64 0]) ∧ w = w' := by
 have d : decide (0 ≤ a ∧ a + 2 ≤ s.size) = true := decide_eq_true ⟨h0, h1⟩
 have r0 := or_u64_0
 have r1 := or_u64_1
 have g := gt2
 go_enter Tryz.func107, Tryz.ntmps107
 go_wp2_with (go_at_call 128; refine (inside_any _ _ _ _ (by omega) (by omega) (by omega)).mono ?_; rintro e w' ⟨rfl, rfl⟩)
 refine wp_loop_rounds 3 ?_
 iterate 2
  rw [rounds_succ]
  go_wp2_with (go_at_call 121; refine (down_any _ 2 _ _ hc (by omega) (by omega) (by omega)).mono ?_; rintro e w' ⟨rfl, rfl⟩)
 rw [rounds_succ]
 go_wp2
 go_ret2
 refine ⟨?_, rfl⟩
 simp only [bt_at]
 have q1 := bt_range s (a + 1)
 have q0 := bt_range s a
 have e : wrap64 (bt s (a + 1) + bt s a * 256) = bt s (a + 1) + bt s a * 256 := by unfold wrap64; omega
 exact congrArg (fun z => Ending.returned (.tuple #[.int .i64 z, .int .i64 0])) e

set_option maxRecDepth 100000 in
set_option maxHeartbeats 4000000 in
theorem read_down4 (s : ByteArray) (a : Int) (w : World) (hs : s.size ≤ 9223372036854775000) (h0 : 0 ≤ a) (h1 : a + 4 ≤ s.size) (c : Addr) (hc : w.cell? c = some (.int .i64 4)) :
  Calls Tryz.prog 107 #[.string s, .int .i64 a, .int .i64 4, (.func (.func 121) #[] #[.pointer (some c)])] w fun e w' => e = .returned (.tuple #[.int .i64 (bt s (a + 3) + bt s (a + 2) * 256 + bt s (a + 1) * 65536 + bt s a * 16777216), .int .i64 0]) ∧ w = w' := by
 have d : decide (0 ≤ a ∧ a + 4 ≤ s.size) = true := decide_eq_true ⟨h0, h1⟩
 have r0 := or_u64_0
 have r1 := or_u64_1
 have r2 := or_u64_2
 have r3 := or_u64_3
 have g := gt4
 go_enter Tryz.func107, Tryz.ntmps107
 go_wp2_with (go_at_call 128; refine (inside_any _ _ _ _ (by omega) (by omega) (by omega)).mono ?_; rintro e w' ⟨rfl, rfl⟩)
 refine wp_loop_rounds 5 ?_
 iterate 4
  rw [rounds_succ]
  go_wp2_with (go_at_call 121; refine (down_any _ 4 _ _ hc (by omega) (by omega) (by omega)).mono ?_; rintro e w' ⟨rfl, rfl⟩)
 rw [rounds_succ]
 go_wp2
 go_ret2
 refine ⟨?_, rfl⟩
 simp only [bt_at]
 have q3 := bt_range s (a + 3)
 have q2 := bt_range s (a + 2)
 have q1 := bt_range s (a + 1)
 have q0 := bt_range s a
 have e : wrap64 (bt s (a + 3) + bt s (a + 2) * 256 + bt s (a + 1) * 65536 + bt s a * 16777216) = bt s (a + 3) + bt s (a + 2) * 256 + bt s (a + 1) * 65536 + bt s a * 16777216 := by unfold wrap64; omega
 exact congrArg (fun z => Ending.returned (.tuple #[.int .i64 z, .int .i64 0])) e

set_option maxRecDepth 100000 in
set_option maxHeartbeats 1000000 in
theorem ReadLittle4 (s : ByteArray) (a : Int) (w : World) (hs : s.size ≤ 9223372036854775000) (h0 : 0 ≤ a) (h1 : a + 4 ≤ s.size) :
  Calls Tryz.prog 78 #[.string s, .int .i64 a, .int .i64 4] w fun e w' => e = .returned (.tuple #[.int .i64 (bt s a + bt s (a + 1) * 256 + bt s (a + 2) * 65536 + bt s (a + 3) * 16777216), .int .i64 0]) ∧ Below w.heap.size w w' := by
 go_enter Tryz.func78, Tryz.ntmps78
 go_wp2_with (go_at_call 98; refine (up_mk _ _).mono ?_; rintro e w' ⟨rfl, rfl⟩)
 refine (read_up4 _ _ _ hs h0 h1).mono ?_
 rintro e w1 ⟨rfl, rfl⟩
 go_wp2
 go_ret2
 exact ⟨rfl, Below.refl _ _⟩

set_option maxRecDepth 100000 in
set_option maxHeartbeats 1000000 in
theorem ReadLittle2 (s : ByteArray) (a : Int) (w : World) (hs : s.size ≤ 9223372036854775000) (h0 : 0 ≤ a) (h1 : a + 2 ≤ s.size) :
  Calls Tryz.prog 78 #[.string s, .int .i64 a, .int .i64 2] w fun e w' => e = .returned (.tuple #[.int .i64 (bt s a + bt s (a + 1) * 256), .int .i64 0]) ∧ Below w.heap.size w w' := by
 go_enter Tryz.func78, Tryz.ntmps78
 go_wp2_with (go_at_call 98; refine (up_mk _ _).mono ?_; rintro e w' ⟨rfl, rfl⟩)
 refine (read_up2 _ _ _ hs h0 h1).mono ?_
 rintro e w1 ⟨rfl, rfl⟩
 go_wp2
 go_ret2
 exact ⟨rfl, Below.refl _ _⟩

/-- endian.ReadLittle at the sizes 4 and 2, inside of the string. -/
def endian_ReadLittle.f (a0 : ByteArray) (a1 a2 : Int) : Option (Int × Int) :=
 if a0.size ≤ 9223372036854775000 ∧ 0 ≤ a1 ∧ a1 + a2 ≤ a0.size then (if a2 = 4 then some (bt a0 a1 + bt a0 (a1 + 1) * 256 + bt a0 (a1 + 2) * 65536 + bt a0 (a1 + 3) * 16777216, 0) else if a2 = 2 then some (bt a0 a1 + bt a0 (a1 + 1) * 256, 0) else none) else none
theorem endian_ReadLittle.calls (a0 : ByteArray) (a1 : Int) (a2 : Int) (r1 : Int) (r2 : Int) (w : World) (h : endian_ReadLittle.f a0 a1 a2 = some (r1, r2)) :
  Calls Tryz.prog 78 #[.string a0, .int .i64 a1, .int .i64 a2] w fun e w' => e = .returned (.tuple #[.int .i64 r1, .int .i64 r2]) ∧ Below w.heap.size w w' := by
 unfold endian_ReadLittle.f at h
 by_cases hc : a0.size ≤ 9223372036854775000 ∧ 0 ≤ a1 ∧ a1 + a2 ≤ a0.size
 ·rw [if_pos hc] at h
  obtain ⟨hs, h0, h1⟩ := hc
  by_cases h4 : a2 = 4
  ·subst h4
   rw [if_pos rfl] at h
   obtain ⟨rfl, rfl⟩ := Prod.mk.inj (Option.some.inj h)
   exact ReadLittle4 a0 a1 w hs h0 h1
  ·rw [if_neg h4] at h
   by_cases h2 : a2 = 2
   ·subst h2
    rw [if_pos rfl] at h
    obtain ⟨rfl, rfl⟩ := Prod.mk.inj (Option.some.inj h)
    exact ReadLittle2 a0 a1 w hs h0 h1
   ·rw [if_neg h2] at h
    cases h
 ·rw [if_neg hc] at h
  cases h

end Go.Proofs.YthblghfobnhoeaaGreat.H
namespace Go.Proofs.YthblghfobnhoeaaGreat.H
open Go.RowKit Go.Proofs.YthblghfobnhoeaaGreatW.PrintWords
set_option linter.unusedVariables false

/-- Is a number between 0 and a greatest one? -/
def inB (n m : Int) : Bool := decide (0 ≤ n ∧ n ≤ m)
theorem in_any (n m : Int) (w : World) : Calls Tryz.prog 137 #[.int .i64 n, .int .i64 m] w fun e w' => e = .returned (.bool (inB n m)) ∧ w = w' := by
 by_cases h : 0 ≤ n
 ·have d : decide (0 ≤ n) = true := decide_eq_true h
  go_enter Tryz.func137, Tryz.ntmps137
  go_wp2
  go_ret
  exact ⟨congrArg (fun z => Ending.returned (.bool z)) (by unfold inB; rw [decide_eq_decide]; omega), rfl⟩
 ·have d : decide (0 ≤ n) = false := decide_eq_false h
  go_enter Tryz.func137, Tryz.ntmps137
  go_wp2
  go_ret
  exact ⟨congrArg (fun z => Ending.returned (.bool z)) (by unfold inB; rw [eq_comm, decide_eq_false_iff_not]; omega), rfl⟩

/-- The function in datetime.valid. -/
def datetime_valid_1.f (a0 a1 : Int) : Option Bool := some (inB a0 a1)
theorem datetime_valid_1.calls (a0 : Int) (a1 : Int) (r : Bool) (w : World) (h : datetime_valid_1.f a0 a1 = some r) :
  Calls Tryz.prog 137 #[.int .i64 a0, .int .i64 a1] w fun e w' => e = .returned (.bool r) ∧ Drawn0 w w' := by
 obtain rfl := Option.some.inj h
 exact (in_any a0 a1 w).mono fun e w' ⟨he, hw⟩ => ⟨he, hw ▸ Drawn0.refl w⟩

end Go.Proofs.YthblghfobnhoeaaGreat.H
