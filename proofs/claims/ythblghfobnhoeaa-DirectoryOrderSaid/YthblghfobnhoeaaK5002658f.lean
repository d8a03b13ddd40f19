import Derived.Test.YthblghfobnhoeaaProg
import Derived.WalkKit
import Derived.WalkSpells
import Derived.WalkLawsBesides
import Derived.Outline
import Derived.Lib.Hide
import Derived.Deep.DeepFit
import Derived.Below
import Derived.Deep.QuietTactic
import Derived.BigQuiet
import Derived.Test.YthblghfobnhoeaaKe78bc4b0
import Derived.Deep.RegionHeld3
import Derived.Deep.Draws
import Derived.Deep.AppendLies
import Derived.Maps.AppendAt
import Derived.OwnWalk
import Derived.Laws.BytesArg
import Derived.Laws.MakeOwn
import Derived.Laws.OwnMore
import Derived.Deep.OwnRows
import Derived.Tactics
import Derived.Lib.ConvBytes
import Derived.Laws.Slices
import Derived.KernelRfl
import Derived.RowKit3
import Derived.Deep.LoopGhost
import Derived.WideLaws
import Derived.Deep.DeepCutAuto
import Derived.Deep.CutBlock
import Derived.Laws.Rows
import Derived.Lib.AppendStr
import Derived.ArgAppend
import Derived.Laws.IdiomCopy
import Derived.OrdersHeld
import Derived.Laws.BitsLemmas
import Derived.RowKit
import Derived.LoopN
import Derived.Deep.RegionWith
import Derived.Laws.Bits64
import Derived.Shelf.Strings.Builder1
import Derived.Shelf.Strings.BuilderK
import Derived.WalkSmall
import Derived.Test.YthblghfobnhoeaaK24e61f3e
import Derived.Laws.RangeAny
import Derived.Laws.Runes
import Derived.Deep.Cut
import Derived.Lib.OthersKept
import Derived.Deep.WholeRow
import Derived.Laws.CopyOwn
import Derived.Laws.CopyRow
import Derived.Deep.RegionLaw
namespace Go.Proofs.Ythblghfobnhoeaa.H
open Go.RowKit Go.Proofs.YthblghfobnhoeaaW.PrintWords
set_option linter.unusedVariables false

section
variable {P : Program} {ops : Array Oper} {Q : Exit → Act → World → Prop}
/-- A call of a function value that is known and has captured nothing. -/
theorem goesV_ {oi : Oper} {N : Option Tmp} {a : Act} {w : World} {K : Act → World → Prop} {f : FuncId} {fn : Func} {av : Array Operand} {ts : Array TypeId} {t : Tmp} (hf : P.funcs[f]? = some fn) (hname : (fn.name == "runtime.NumGoroutine") = false) (hb : fn.body.isSome = true) (args : Array Value)
    (hw : Region.wanted oi (yielded ops a.tmps) = true) (hN : oi.dst = N) (hop : oi.op = .call { callee := .value (.tmp t), args := av, argTypes := ts }) (hfn : a.eval (.tmp t) = .func (.func f) #[] #[]) (hargs : av.map a.eval = args)
    (h : Calls P f args w fun e w' => ∃ v, e = .returned v ∧ K (a.put N v) w') : if Region.wanted oi (yielded ops a.tmps) = true then Oper.wp P oi a w K Q else K (a.put N undef) w := by
  refine Go.Proofs.YthblghfobnhoeaaW.PrintLast.call_ f args hw hN ?_ h
  have he := Go.Proofs.YthblghfobnhoeaaW.PrintLast.enters_ hf hname hb args w
  unfold execOp
  simp [hop, resolve, Deferred.ofValue, invoke, hfn, hargs, he]
theorem goesVL_ {rest : List Oper} {oi : Oper} {a : Act} {w : World} (N : Option Tmp) (hd : oi.dst = N) (hg : oi.guard = none) {f : FuncId} {fn : Func} {av : Array Operand} {ts : Array TypeId} {t : Tmp} (hf : P.funcs[f]? = some fn) (hname : (fn.name == "runtime.NumGoroutine") = false) (hb : fn.body.isSome = true) (args : Array Value)
    (hop : oi.op = .call { callee := .value (.tmp t), args := av, argTypes := ts }) (hfn : a.eval (.tmp t) = .func (.func f) #[] #[]) (hargs : av.map a.eval = args)
    (h : Calls P f args w fun e w' => ∃ v, e = .returned v ∧ wpList P ops Q rest (a.put N v) w') : wpList P ops Q (oi :: rest) a w := by
  refine wpList_plain hg fun K hK => ?_
  have he := Go.Proofs.YthblghfobnhoeaaW.PrintLast.enters_ hf hname hb args w
  have hrun : (execOp a.eval oi).run P w = .ok (.enter f args) w := by
    unfold execOp
    simp [hop, resolve, Deferred.ofValue, invoke, hfn, hargs, he]
  unfold Oper.wp
  rw [hrun, Oper.upon_enter]
  refine h.mono fun e w'' hh => ?_
  obtain ⟨v, rfl, hk⟩ := hh
  subst hd
  exact hK _ _ hk
/-- The operation calls this function value. -/
theorem gateV_ {f : FuncId} {rest : List Oper} {o : Oper} {a : Act} {W : World} {t : Tmp} {av : Array Operand} {ts : Array TypeId} (_ho : o.op = .call { callee := .value (.tmp t), args := av, argTypes := ts }) (_hfn : a.eval (.tmp t) = .func (.func f) #[] #[]) (h : wpList P ops Q (o :: rest) a W) : wpList P ops Q (o :: rest) a W := h
end

/-- The length of a month as the program's table has it, other than a leap year's second. -/
def mlen (m : Int) : Int := if m = 2 then 28 else if m = 4 then 30 else if m = 6 then 30 else if m = 9 then 30 else if m = 11 then 30 else 31

end Go.Proofs.Ythblghfobnhoeaa.H
namespace Go.Proofs.Ythblghfobnhoeaa.A
open Go.RowKit Go.Proofs.Ythblghfobnhoeaa.H Go.Proofs.YthblghfobnhoeaaW.PrintWords Go.Proofs.YthblghfobnhoeaaW.PrintLast Go.Proofs.YthblghfobnhoeaaW.PrintMore
attribute [local go_sem] max2_int min2_int max_two min_two max_three min_three max_four min_four   -- for this text's walks alone
set_option linter.unusedVariables false
set_option linter.unusedSimpArgs false



def errW : Option Int → Value
  | none => .nilIface
  | some c => .iface 0 (.int .i64 c)
theorem errW_none : errW none = .nilIface := rfl
theorem errW_some (c : Int) : errW (some c) = .iface 0 (.int .i64 c) := rfl

theorem info3 : (Try.prog.info? 3).map (fun i => (i.zero, i.size, i.bytes)) = some (some (.int .i64 0), 1, 8) := by kernel_rfl
theorem info5 : (Try.prog.info? 5).map (fun i => (i.zero, i.size, i.bytes)) = some (some (.int .u8 0), 1, 1) := by kernel_rfl
-- the values' own types
/-! #### struct type 31 -/
structure S31 where
  f0 : ByteArray
  f1 : Int
  f2 : Int
  f3 : Int
  f4 : Int
  f5 : Int
  f6 : Int
  f7 : ByteArray
def z31 : S31 := ⟨(⟨#[]⟩ : ByteArray), (0 : Int), (0 : Int), (0 : Int), (0 : Int), (0 : Int), (0 : Int), (⟨#[]⟩ : ByteArray)⟩
def k31 : Kd S31 := Kd.iso (Kd.pair Kd.string (Kd.pair (Kd.int .i64) (Kd.pair (Kd.int .i64) (Kd.pair (Kd.int .i64) (Kd.pair (Kd.int .i64) (Kd.pair (Kd.int .i64) (Kd.pair (Kd.int .i64) Kd.string))))))) (fun x : S31 => (x.f0, x.f1, x.f2, x.f3, x.f4, x.f5, x.f6, x.f7))
theorem k31_open {w : World} {x : S31} {cs : List Value} (h : k31.K w x cs) : cs = [.string x.f0, .int .i64 x.f1, .int .i64 x.f2, .int .i64 x.f3, .int .i64 x.f4, .int .i64 x.f5, .int .i64 x.f6, .string x.f7] := by
  obtain ⟨_, _, rfl, rfl, ⟨_, _, rfl, rfl, ⟨_, _, rfl, rfl, ⟨_, _, rfl, rfl, ⟨_, _, rfl, rfl, ⟨_, _, rfl, rfl, ⟨_, _, rfl, rfl, rfl⟩⟩⟩⟩⟩⟩⟩ := h
  exact rfl
theorem k31_mkM (w : World) (base : Nat) (ok : Nat → Prop) (x : S31)  : k31.M w base ok x [.string x.f0, .int .i64 x.f1, .int .i64 x.f2, .int .i64 x.f3, .int .i64 x.f4, .int .i64 x.f5, .int .i64 x.f6, .string x.f7] := ⟨[.string x.f0], [.int .i64 x.f1, .int .i64 x.f2, .int .i64 x.f3, .int .i64 x.f4, .int .i64 x.f5, .int .i64 x.f6, .string x.f7], rfl, rfl, ⟨[.int .i64 x.f1], [.int .i64 x.f2, .int .i64 x.f3, .int .i64 x.f4, .int .i64 x.f5, .int .i64 x.f6, .string x.f7], rfl, rfl, ⟨[.int .i64 x.f2], [.int .i64 x.f3, .int .i64 x.f4, .int .i64 x.f5, .int .i64 x.f6, .string x.f7], rfl, rfl, ⟨[.int .i64 x.f3], [.int .i64 x.f4, .int .i64 x.f5, .int .i64 x.f6, .string x.f7], rfl, rfl, ⟨[.int .i64 x.f4], [.int .i64 x.f5, .int .i64 x.f6, .string x.f7], rfl, rfl, ⟨[.int .i64 x.f5], [.int .i64 x.f6, .string x.f7], rfl, rfl, ⟨[.int .i64 x.f6], [.string x.f7], rfl, rfl, rfl⟩⟩⟩⟩⟩⟩⟩
def rd_T31 (xs : List S31) (i : Int) : S31 := xs.getD i.toNat z31
theorem at_T31 {w : World} {A : Option Addr} {n : Nat} {xs : List S31} (h : Kd.C k31 w A n xs) (i : Int) (h0 : 0 ≤ i) (h1 : i < n) : ∃ ad , A = some ad ∧ w.cell? (ad.add (i.toNat * 8)) = some (.string (rd_T31 xs i).f0) ∧ w.cell? ⟨(ad.add (i.toNat * 8)).block, (ad.add (i.toNat * 8)).off + 1, none⟩ = some (.int .i64 (rd_T31 xs i).f1) ∧ w.cell? ⟨(ad.add (i.toNat * 8)).block, (ad.add (i.toNat * 8)).off + 2, none⟩ = some (.int .i64 (rd_T31 xs i).f2) ∧ w.cell? ⟨(ad.add (i.toNat * 8)).block, (ad.add (i.toNat * 8)).off + 3, none⟩ = some (.int .i64 (rd_T31 xs i).f3) ∧ w.cell? ⟨(ad.add (i.toNat * 8)).block, (ad.add (i.toNat * 8)).off + 4, none⟩ = some (.int .i64 (rd_T31 xs i).f4) ∧ w.cell? ⟨(ad.add (i.toNat * 8)).block, (ad.add (i.toNat * 8)).off + 5, none⟩ = some (.int .i64 (rd_T31 xs i).f5) ∧ w.cell? ⟨(ad.add (i.toNat * 8)).block, (ad.add (i.toNat * 8)).off + 6, none⟩ = some (.int .i64 (rd_T31 xs i).f6) ∧ w.cell? ⟨(ad.add (i.toNat * 8)).block, (ad.add (i.toNat * 8)).off + 7, none⟩ = some (.string (rd_T31 xs i).f7) := by
  obtain ⟨ad, c, e, _, hK, hc0⟩ := Kd.C_get h z31 i h0 h1
  have hc : ∀ j u, c[j]? = some u → w.cell? (ad.add (i.toNat * 8 + j)) = some u := hc0
  obtain rfl := k31_open hK
  exact ⟨ad, e, hc 0 _ rfl, by rw [← add_field _ _ 1 (by omega)]; exact hc 1 _ rfl, by rw [← add_field _ _ 2 (by omega)]; exact hc 2 _ rfl, by rw [← add_field _ _ 3 (by omega)]; exact hc 3 _ rfl, by rw [← add_field _ _ 4 (by omega)]; exact hc 4 _ rfl, by rw [← add_field _ _ 5 (by omega)]; exact hc 5 _ rfl, by rw [← add_field _ _ 6 (by omega)]; exact hc 6 _ rfl, by rw [← add_field _ _ 7 (by omega)]; exact hc 7 _ rfl⟩

end Go.Proofs.Ythblghfobnhoeaa.A
namespace Go.Proofs.Ythblghfobnhoeaa.A
open Go.RowKit Go.Proofs.Ythblghfobnhoeaa.H Go.Proofs.YthblghfobnhoeaaW.PrintWords Go.Proofs.YthblghfobnhoeaaW.PrintLast Go.Proofs.YthblghfobnhoeaaW.PrintMore
attribute [local go_sem] max2_int min2_int max_two min_two max_three min_three max_four min_four   -- for this text's walks alone
set_option linter.unusedVariables false
set_option linter.unusedSimpArgs false

theorem eqA31 (d : Nat) (w : World) (x0 y0 : ByteArray) (x1 y1 : Int) (x2 y2 : Int) (x3 y3 : Int) (x4 y4 : Int) (x5 y5 : Int) (x6 y6 : Int) (x7 y7 : ByteArray) :
    (Op.equalIn (d + 2) 31 (.agg #[.string x0, .int .i64 x1, .int .i64 x2, .int .i64 x3, .int .i64 x4, .int .i64 x5, .int .i64 x6, .string x7]) (.agg #[.string y0, .int .i64 y1, .int .i64 y2, .int .i64 y3, .int .i64 y4, .int .i64 y5, .int .i64 y6, .string y7])).run Try.prog w = .ok (x0.toList == y0.toList && (x1 == y1 && (x2 == y2 && (x3 == y3 && (x4 == y4 && (x5 == y5 && (x6 == y6 && (x7.toList == y7.toList)))))))) w := by
  refine eqA_of Try.underlying31 (by kernel_rfl) ?_
  refine eqf_cons (by rfl) (by go_simp; rfl) (by go_simp; rfl) (by go_simp) ?_
  refine eqf_cons (by rfl) (by go_simp; rfl) (by go_simp; rfl) (by go_simp) ?_
  refine eqf_cons (by rfl) (by go_simp; rfl) (by go_simp; rfl) (by go_simp) ?_
  refine eqf_cons (by rfl) (by go_simp; rfl) (by go_simp; rfl) (by go_simp) ?_
  refine eqf_cons (by rfl) (by go_simp; rfl) (by go_simp; rfl) (by go_simp) ?_
  refine eqf_cons (by rfl) (by go_simp; rfl) (by go_simp; rfl) (by go_simp) ?_
  refine eqf_cons (by rfl) (by go_simp; rfl) (by go_simp; rfl) (by go_simp) ?_
  exact eqf_last (by rfl) (by go_simp; rfl) (by go_simp; rfl) (by go_simp)
end Go.Proofs.Ythblghfobnhoeaa.A
namespace Go.Proofs.Ythblghfobnhoeaa.A
open Go.RowKit Go.Proofs.Ythblghfobnhoeaa.H Go.Proofs.YthblghfobnhoeaaW.PrintWords Go.Proofs.YthblghfobnhoeaaW.PrintLast Go.Proofs.YthblghfobnhoeaaW.PrintMore
attribute [local go_sem] max2_int min2_int max_two min_two max_three min_three max_four min_four   -- for this text's walks alone
set_option linter.unusedVariables false
set_option linter.unusedSimpArgs false

/-! ### datetime_quarter: function 73 -/
def datetime_quarter.f (a0 : Int) : Option (Int × Bool) := if (wrap64 (IntKind.i8.wrap (a0))) ≥ (-48) then (some (wrap64 (15 * (wrap64 (IntKind.i8.wrap (a0)))), decide ((wrap64 (IntKind.i8.wrap (a0))) ≤ 52))) else (some (wrap64 (15 * (wrap64 (IntKind.i8.wrap (a0)))), false))
set_option maxHeartbeats 8000000 in
set_option maxRecDepth 100000 in
theorem datetime_quarter.calls0 (a0 : Int) (r1 : Int) (r2 : Bool) (w : World) (h : datetime_quarter.f a0 = some (r1, r2)) :
  Calls Try.prog 73 #[.int .u8 a0] w fun e w' => e = .returned (.tuple #[.int .i64 r1, .bool r2]) ∧ Drawn0 w w' := by
 have H : (if (wrap64 (IntKind.i8.wrap (a0))) ≥ (-48) then (some (wrap64 (15 * (wrap64 (IntKind.i8.wrap (a0)))), decide ((wrap64 (IntKind.i8.wrap (a0))) ≤ 52))) else (some (wrap64 (15 * (wrap64 (IntKind.i8.wrap (a0)))), false))) = some (r1, r2) := h
 clear h
 by_cases c2 : (wrap64 (IntKind.i8.wrap (a0))) ≥ (-48)
 ·rw [if_pos c2] at H
  have c2b0 : decide ((-48) ≤ (wrap64 (IntKind.i8.wrap (a0)))) = true := decide_eq_true c2
  clear c2
  simp only [Option.some.injEq, Prod.mk.injEq] at H
  obtain ⟨rfl, rfl⟩ := H
  go_enter Try.func73, Try.ntmps73
  go_wp2
  go_ret2
  exact ⟨by first | rfl | (simp; done) | (simp [*]; done), by repeat (first | exact Drawn0.refl _ | apply Drawn0.step)⟩
 ·rw [if_neg c2] at H
  have c2b0 : decide ((-48) ≤ (wrap64 (IntKind.i8.wrap (a0)))) = false := decide_eq_false c2
  clear c2
  simp only [Option.some.injEq, Prod.mk.injEq] at H
  obtain ⟨rfl, rfl⟩ := H
  go_enter Try.func73, Try.ntmps73
  go_wp2
  go_ret2
  exact ⟨by first | rfl | (simp; done) | (simp [*]; done), by repeat (first | exact Drawn0.refl _ | apply Drawn0.step)⟩

/-- The same, told as of a function that may make memory. -/
theorem datetime_quarter.calls (a0 : Int) (r1 : Int) (r2 : Bool) (w : World) (h : datetime_quarter.f a0 = some (r1, r2)) :
  Calls Try.prog 73 #[.int .u8 a0] w fun e w' => e = .returned (.tuple #[.int .i64 r1, .bool r2]) ∧ Below w.heap.size w w' :=
 (datetime_quarter.calls0 a0 r1 r2 w h).mono fun _ _ h_ => ⟨h_.1, h_.2.below⟩

end Go.Proofs.Ythblghfobnhoeaa.A
namespace Go.Proofs.Ythblghfobnhoeaa.A
open Go.RowKit Go.Proofs.Ythblghfobnhoeaa.H Go.Proofs.YthblghfobnhoeaaW.PrintWords Go.Proofs.YthblghfobnhoeaaW.PrintLast Go.Proofs.YthblghfobnhoeaaW.PrintMore
attribute [local go_sem] max2_int min2_int max_two min_two max_three min_three max_four min_four   -- for this text's walks alone
set_option linter.unusedVariables false
set_option linter.unusedSimpArgs false

/-! ### slices_Equal_int_int: function 14 -/
def slices_Equal_int_int.l0 : Nat → List Int → List Int → Int → Int → Option (Bool)
 | 0, _, _, _, _ => none
 | k + 1, x0, x1, x12, x13 => if x13 < x12 then (if 0 ≤ x13 then (if x13 < (x0.length : Int) then (if x13 < (x1.length : Int) then (if (rd x0 x13) = (rd x1 x13) then (slices_Equal_int_int.l0 k x0 x1 x12 (wrap64 (x13 + 1))) else (some false)) else (none)) else (none)) else (none)) else (some true)
def slices_Equal_int_int.f (k : Nat) (l0 : List Int) (l1 : List Int) : Option (Bool) := if (l0.length : Int) = (l1.length : Int) then (slices_Equal_int_int.l0 k l0 l1 (l0.length : Int) 0) else (some false)
theorem slices_Equal_int_int.mono_l : ∀ k, (∀ y0 y1 y2 y3, LeO (slices_Equal_int_int.l0 k y0 y1 y2 y3) (slices_Equal_int_int.l0 (k + 1) y0 y1 y2 y3))
 | 0 => fun _ _ _ _ r h => by simp [slices_Equal_int_int.l0] at h
 | k + 1 => by
  have ih0 := slices_Equal_int_int.mono_l k
  ·intro y0 y1 y2 y3
   unfold slices_Equal_int_int.l0
   repeat' first
   | (with_reducible exact ih0 _ _ _ _)
   | (with_reducible exact LeO.refl _)
   | (with_reducible exact LeO.none _)
   | (with_reducible refine LeO.ite ?_ ?_)
   | (with_reducible refine LeO.bind ?_ (fun _ => ?_))
   | exact ih0 _ _ _ _
   | exact LeO.none _
   | refine LeO.ite ?_ ?_
   | refine LeO.bind ?_ (fun _ => ?_)
theorem slices_Equal_int_int.mono : ∀ a0 a1 k, LeO (slices_Equal_int_int.f k a0 a1) (slices_Equal_int_int.f (k + 1) a0 a1) := by
 intro a0 a1 k
 have ih0 := slices_Equal_int_int.mono_l k
 unfold slices_Equal_int_int.f
 repeat' first
   | (with_reducible exact ih0 _ _ _ _)
   | (with_reducible exact LeO.refl _)
   | (with_reducible exact LeO.none _)
   | (with_reducible refine LeO.ite ?_ ?_)
   | (with_reducible refine LeO.bind ?_ (fun _ => ?_))
   | exact ih0 _ _ _ _
   | exact LeO.none _
   | refine LeO.ite ?_ ?_
   | refine LeO.bind ?_ (fun _ => ?_)
set_option maxHeartbeats 8000000 in
set_option maxRecDepth 100000 in
theorem slices_Equal_int_int.calls (k : Nat) (A0 : Option Addr) (c0 : Nat) (l0 : List Int) (A1 : Option Addr) (c1 : Nat) (l1 : List Int) (r : Bool) (w : World) (hr0 : Kd.C (Kd.int .i64) w A0 l0.length l0) (hc0 : l0.length ≤ c0) (hr1 : Kd.C (Kd.int .i64) w A1 l1.length l1) (hc1 : l1.length ≤ c1) (h : slices_Equal_int_int.f k l0 l1 = some r) :
  Calls Try.prog 14 #[.slice A0 l0.length c0, .slice A1 l1.length c1] w fun e w' => e = .returned (.bool r) ∧ Drawn0 w w' := by
 have HR0 := Aside0.mk hr0
 have HC0 := Aside0.mk hc0
 clear hr0 hc0
 have HR1 := Aside0.mk hr1
 have HC1 := Aside0.mk hc1
 clear hr1 hc1
 have H : (if (l0.length : Int) = (l1.length : Int) then (slices_Equal_int_int.l0 k l0 l1 (l0.length : Int) 0) else (some false)) = some r := h
 clear h
 by_cases c3 : (l0.length : Int) = (l1.length : Int)
 ·rw [if_pos c3] at H
  have c3b0 : ((l0.length : Int) == (l1.length : Int)) = true := beq_iff_eq.mpr c3
  have c3b1 : ((l0.length : Int) != (l1.length : Int)) = false := bne_eq_false_iff_eq.mpr c3
  have c3b2 : (l0.length == l1.length) = true := by first | simpa using c3 | (simp at c3 ⊢; omega)
  clear c3
  have H' := Aside0.mk H
  clear H
  go_enter Try.func14, Try.ntmps14
  go_wp2
  repeat (go_quiet (fail); try go_wp2)
  go_loopg [13] k (fun kq v13 w' => ∃ (x13_1 : Int), v13 = .int .i64 x13_1 ∧ Aside0 (slices_Equal_int_int.l0 kq l0 l1 (l0.length : Int) x13_1 = some r) ∧ Aside0 (kq ≤ k) ∧ Drawn0 w w')
  case atStart => exact ⟨(0), (by first | rfl | (simp; done) | (simp [*]; done)), H', ⟨Nat.le_refl _⟩, by repeat (first | exact Drawn0.refl _ | apply Drawn0.step)⟩
  case round =>
   clear H'
   try clear c1
   try clear p2
   try clear c3
   try clear c3b0
   try clear c3b1
   try clear c3b2
   obtain ⟨x13_1, rfl, HA, HK1, ⟨m1, rfl⟩⟩ := hrel
   cases gk with
   | zero => exact absurd HA.out (by simp [slices_Equal_int_int.l0])
   | succ k1 =>
    have H := HA.out
    clear HA
    simp only [slices_Equal_int_int.l0] at H
    by_cases c4 : x13_1 < (l0.length : Int)
    ·rw [if_pos c4] at H
     have c4b0 : decide (x13_1 < (l0.length : Int)) = true := decide_eq_true c4
     clear c4
     by_cases c5 : 0 ≤ x13_1
     rotate_left
     ·rw [if_neg c5] at H
      exact absurd H (by simp)
     rw [if_pos c5] at H
     have c5b0 : decide (0 ≤ x13_1) = true := decide_eq_true c5
     clear c5
     by_cases c6 : x13_1 < (l0.length : Int)
     rotate_left
     ·rw [if_neg c6] at H
      exact absurd H (by simp)
     rw [if_pos c6] at H
     have c6b0 : decide (x13_1 < (l0.length : Int)) = true := decide_eq_true c6
     clear c6
     by_cases c7 : x13_1 < (l1.length : Int)
     rotate_left
     ·rw [if_neg c7] at H
      exact absurd H (by simp)
     rw [if_pos c7] at H
     have c7b0 : decide (x13_1 < (l1.length : Int)) = true := decide_eq_true c7
     clear c7
     by_cases c8 : (rd l0 x13_1) = (rd l1 x13_1)
     ·rw [if_pos c8] at H
      have c8b0 : ((rd l0 x13_1) == (rd l1 x13_1)) = true := beq_iff_eq.mpr c8
      have c8b1 : ((rd l0 x13_1) != (rd l1 x13_1)) = false := bne_eq_false_iff_eq.mpr c8
      clear c8
      have H' := Aside0.mk H
      clear H
      have p202 : 0 ≤ (x13_1 : Int) := of_decide_eq_true (by first | (with_reducible assumption) | assumption)
      have q202 : x13_1 < (l0.length : Int) := of_decide_eq_true (by first | (with_reducible assumption) | assumption)
      obtain ⟨ad202, e202, hx202_0⟩ := Kd.at_int HR0.out x13_1 p202 q202
      cases e202
      replace p202 := eq_true p202
      replace q202 := eq_true q202
      have p203 : 0 ≤ (x13_1 : Int) := of_decide_eq_true (by first | (with_reducible assumption) | assumption)
      have q203 : x13_1 < (l1.length : Int) := of_decide_eq_true (by first | (with_reducible assumption) | assumption)
      obtain ⟨ad203, e203, hx203_0⟩ := Kd.at_int HR1.out x13_1 p203 q203
      cases e203
      replace p203 := eq_true p203
      replace q203 := eq_true q203
      go_wp2
      repeat (go_quiet (fail); try go_wp2)
      go_roundg k1
      case measure => have := HK1.out; omega
      case rel => exact ⟨(wrap64 (x13_1 + 1)), (by first | rfl | (simp; done) | (simp [*]; done)), H', ⟨by have := HK1.out; omega⟩, by repeat (first | exact Drawn0.refl _ | apply Drawn0.step)⟩
     ·rw [if_neg c8] at H
      have c8b0 : ((rd l0 x13_1) == (rd l1 x13_1)) = false := beq_eq_false_iff_ne.mpr c8
      have c8b1 : ((rd l0 x13_1) != (rd l1 x13_1)) = true := bne_iff_ne.mpr c8
      obtain rfl := Option.some.inj H
      have p202 : 0 ≤ (x13_1 : Int) := of_decide_eq_true (by first | (with_reducible assumption) | assumption)
      have q202 : x13_1 < (l0.length : Int) := of_decide_eq_true (by first | (with_reducible assumption) | assumption)
      obtain ⟨ad202, e202, hx202_0⟩ := Kd.at_int HR0.out x13_1 p202 q202
      cases e202
      replace p202 := eq_true p202
      replace q202 := eq_true q202
      have p203 : 0 ≤ (x13_1 : Int) := of_decide_eq_true (by first | (with_reducible assumption) | assumption)
      have q203 : x13_1 < (l1.length : Int) := of_decide_eq_true (by first | (with_reducible assumption) | assumption)
      obtain ⟨ad203, e203, hx203_0⟩ := Kd.at_int HR1.out x13_1 p203 q203
      cases e203
      replace p203 := eq_true p203
      replace q203 := eq_true q203
      go_wp2
      repeat (go_quiet (fail); try go_wp2)
      go_ret
      exact ⟨by first | rfl | (simp; done) | (simp [*]; done), by repeat (first | exact Drawn0.refl _ | apply Drawn0.step)⟩
    ·rw [if_neg c4] at H
     have c4b0 : decide (x13_1 < (l0.length : Int)) = false := decide_eq_false c4
     clear c4
     obtain rfl := Option.some.inj H
     go_wp2
     repeat (go_quiet (fail); try go_wp2)
     go_ret
     exact ⟨by first | rfl | (simp; done) | (simp [*]; done), by repeat (first | exact Drawn0.refl _ | apply Drawn0.step)⟩
 ·rw [if_neg c3] at H
  have c3b0 : ((l0.length : Int) == (l1.length : Int)) = false := beq_eq_false_iff_ne.mpr c3
  have c3b1 : ((l0.length : Int) != (l1.length : Int)) = true := bne_iff_ne.mpr c3
  have c3b2 : (l0.length == l1.length) = false := by first | simpa using c3 | (simp at c3 ⊢; omega)
  obtain rfl := Option.some.inj H
  go_enter Try.func14, Try.ntmps14
  go_wp2
  repeat (go_quiet (fail); try go_wp2)
  go_ret
  exact ⟨by first | rfl | (simp; done) | (simp [*]; done), by repeat (first | exact Drawn0.refl _ | apply Drawn0.step)⟩

/-! ### masterdisclaw21_sign: function 6 -/
def masterdisclaw21_sign.f (a0 : Int) : Option (Int) := if a0 < 0 then (some (-1)) else (if a0 > 0 then (some 1) else (some 0))
set_option maxHeartbeats 8000000 in
set_option maxRecDepth 100000 in
theorem masterdisclaw21_sign.calls (a0 : Int) (r : Int) (w : World) (h : masterdisclaw21_sign.f a0 = some r) :
  Calls Try.prog 6 #[.int .i64 a0] w fun e w' => e = .returned (.int .i64 r) ∧ Drawn0 w w' := by
 have H : (if a0 < 0 then (some (-1)) else (if a0 > 0 then (some 1) else (some 0))) = some r := h
 clear h
 by_cases c2 : a0 < 0
 ·rw [if_pos c2] at H
  have c2b0 : decide (a0 < 0) = true := decide_eq_true c2
  clear c2
  obtain rfl := Option.some.inj H
  go_enter Try.func6, Try.ntmps6
  go_wp2
  go_ret
  exact ⟨by first | rfl | (simp; done) | (simp [*]; done), by repeat (first | exact Drawn0.refl _ | apply Drawn0.step)⟩
 ·rw [if_neg c2] at H
  have c2b0 : decide (a0 < 0) = false := decide_eq_false c2
  clear c2
  by_cases c3 : a0 > 0
  ·rw [if_pos c3] at H
   have c3b0 : decide (0 < a0) = true := decide_eq_true c3
   clear c3
   obtain rfl := Option.some.inj H
   go_enter Try.func6, Try.ntmps6
   go_wp2
   go_ret
   exact ⟨by first | rfl | (simp; done) | (simp [*]; done), by repeat (first | exact Drawn0.refl _ | apply Drawn0.step)⟩
  ·rw [if_neg c3] at H
   have c3b0 : decide (0 < a0) = false := decide_eq_false c3
   clear c3
   obtain rfl := Option.some.inj H
   go_enter Try.func6, Try.ntmps6
   go_wp2
   go_ret
   exact ⟨by first | rfl | (simp; done) | (simp [*]; done), by repeat (first | exact Drawn0.refl _ | apply Drawn0.step)⟩

end Go.Proofs.Ythblghfobnhoeaa.A
namespace Go.Proofs.Ythblghfobnhoeaa.A
open Go.RowKit Go.Proofs.Ythblghfobnhoeaa.H Go.Proofs.YthblghfobnhoeaaW.PrintWords Go.Proofs.YthblghfobnhoeaaW.PrintLast Go.Proofs.YthblghfobnhoeaaW.PrintMore
attribute [local go_sem] max2_int min2_int max_two min_two max_three min_three max_four min_four   -- for this text's walks alone
set_option linter.unusedVariables false
set_option linter.unusedSimpArgs false

/-! ### cmp_isNaN_int: function 32 -/
def cmp_isNaN_int.f (a0 : Int) : Option (Bool) := some (a0 != a0)
set_option maxHeartbeats 8000000 in
set_option maxRecDepth 100000 in
theorem cmp_isNaN_int.calls (a0 : Int) (r : Bool) (w : World) (h : cmp_isNaN_int.f a0 = some r) :
  Calls Try.prog 32 #[.int .i64 a0] w fun e w' => e = .returned (.bool r) ∧ Drawn0 w w' := by
 have H : (some (a0 != a0)) = some r := h
 clear h
 obtain rfl := Option.some.inj H
 go_enter Try.func32, Try.ntmps32
 go_wp2
 go_ret
 exact ⟨by first | rfl | (simp; done) | (simp [*]; done), by repeat (first | exact Drawn0.refl _ | apply Drawn0.step)⟩

/-! ### cmp_Compare_int: function 16 -/
def cmp_Compare_int.f (a0 : Int) (a1 : Int) : Option (Int) := (cmp_isNaN_int.f a0).bind fun t101 => ((cmp_isNaN_int.f a1).bind fun t102 => (if t101 = true then (if t102 = true then (some 0) else (some (-1))) else (if t102 = true then (some 1) else (if a0 < a1 then (some (-1)) else (if a0 > a1 then (some 1) else (some 0))))))
set_option maxHeartbeats 8000000 in
set_option maxRecDepth 100000 in
theorem cmp_Compare_int.calls (a0 : Int) (a1 : Int) (r : Int) (w : World) (h : cmp_Compare_int.f a0 a1 = some r) :
  Calls Try.prog 16 #[.int .i64 a0, .int .i64 a1] w fun e w' => e = .returned (.int .i64 r) ∧ Drawn0 w w' := by
 have H : ((cmp_isNaN_int.f a0).bind fun t101 => ((cmp_isNaN_int.f a1).bind fun t102 => (if t101 = true then (if t102 = true then (some 0) else (some (-1))) else (if t102 = true then (some 1) else (if a0 < a1 then (some (-1)) else (if a0 > a1 then (some 1) else (some 0))))))) = some r := h
 clear h
 replace H := Option.bind_eq_some_iff.mp H
 obtain ⟨t101, A30, H⟩ := H
 replace H : ((cmp_isNaN_int.f a1).bind fun t102 => (if t101 = true then (if t102 = true then (some 0) else (some (-1))) else (if t102 = true then (some 1) else (if a0 < a1 then (some (-1)) else (if a0 > a1 then (some 1) else (some 0)))))) = some r := H
 have A3 := Aside0.mk A30
 clear A30
 replace H := Option.bind_eq_some_iff.mp H
 obtain ⟨t102, A40, H⟩ := H
 replace H : (if t101 = true then (if t102 = true then (some 0) else (some (-1))) else (if t102 = true then (some 1) else (if a0 < a1 then (some (-1)) else (if a0 > a1 then (some 1) else (some 0))))) = some r := H
 have A4 := Aside0.mk A40
 clear A40
 by_cases c5 : t101 = true
 ·subst c5
  have H1 : (if t102 = true then (some 0) else (some (-1))) = some r := by rw [if_pos rfl] at H; exact H
  clear H
  have H := H1
  clear H1
  by_cases c6 : t102 = true
  ·subst c6
   have H1 : (some 0) = some r := by rw [if_pos rfl] at H; exact H
   clear H
   have H := H1
   clear H1
   obtain rfl := Option.some.inj H
   go_enter Try.func16, Try.ntmps16
   go_wp2_with (first | ((with_reducible refine gate_callee (f := 32) rfl ?_); refine goesL_ (some 8) rfl rfl Try.func32 (by kernel_rfl) rfl #[.int .i64 a0] rfl (by (try simp only [List.map_toArray, List.map_cons, List.map_nil]); first | done | rfl | (simp only [List.length_drop, List.length_take]; rfl)) ?_; (with_reducible refine (cmp_isNaN_int.calls a0 true _ A3.out).mono ?_); rintro e w' ⟨rfl, ⟨nd, rfl⟩⟩; refine ⟨_, rfl, ?_⟩) | ((with_reducible refine gate_callee (f := 32) rfl ?_); refine goesL_ (some 10) rfl rfl Try.func32 (by kernel_rfl) rfl #[.int .i64 a1] rfl (by (try simp only [List.map_toArray, List.map_cons, List.map_nil]); first | done | rfl | (simp only [List.length_drop, List.length_take]; rfl)) ?_; (with_reducible refine (cmp_isNaN_int.calls a1 true _ A4.out).mono ?_); rintro e w' ⟨rfl, ⟨nd, rfl⟩⟩; refine ⟨_, rfl, ?_⟩))
   go_ret
   exact ⟨by first | rfl | (simp; done) | (simp [*]; done), by repeat (first | exact Drawn0.refl _ | apply Drawn0.step)⟩
  ·replace c6 := Bool.eq_false_iff.mpr c6
   subst c6
   have H1 : (some (-1)) = some r := by rw [if_neg (show ¬ (false = true) by decide)] at H; exact H
   clear H
   have H := H1
   clear H1
   obtain rfl := Option.some.inj H
   go_enter Try.func16, Try.ntmps16
   go_wp2_with (first | ((with_reducible refine gate_callee (f := 32) rfl ?_); refine goesL_ (some 8) rfl rfl Try.func32 (by kernel_rfl) rfl #[.int .i64 a0] rfl (by (try simp only [List.map_toArray, List.map_cons, List.map_nil]); first | done | rfl | (simp only [List.length_drop, List.length_take]; rfl)) ?_; (with_reducible refine (cmp_isNaN_int.calls a0 true _ A3.out).mono ?_); rintro e w' ⟨rfl, ⟨nd, rfl⟩⟩; refine ⟨_, rfl, ?_⟩) | ((with_reducible refine gate_callee (f := 32) rfl ?_); refine goesL_ (some 10) rfl rfl Try.func32 (by kernel_rfl) rfl #[.int .i64 a1] rfl (by (try simp only [List.map_toArray, List.map_cons, List.map_nil]); first | done | rfl | (simp only [List.length_drop, List.length_take]; rfl)) ?_; (with_reducible refine (cmp_isNaN_int.calls a1 false _ A4.out).mono ?_); rintro e w' ⟨rfl, ⟨nd, rfl⟩⟩; refine ⟨_, rfl, ?_⟩))
   go_ret
   exact ⟨by first | rfl | (simp; done) | (simp [*]; done), by repeat (first | exact Drawn0.refl _ | apply Drawn0.step)⟩
 ·replace c5 := Bool.eq_false_iff.mpr c5
  subst c5
  have H1 : (if t102 = true then (some 1) else (if a0 < a1 then (some (-1)) else (if a0 > a1 then (some 1) else (some 0)))) = some r := by rw [if_neg (show ¬ (false = true) by decide)] at H; exact H
  clear H
  have H := H1
  clear H1
  by_cases c7 : t102 = true
  ·subst c7
   have H1 : (some 1) = some r := by rw [if_pos rfl] at H; exact H
   clear H
   have H := H1
   clear H1
   obtain rfl := Option.some.inj H
   go_enter Try.func16, Try.ntmps16
   go_wp2_with (first | ((with_reducible refine gate_callee (f := 32) rfl ?_); refine goesL_ (some 8) rfl rfl Try.func32 (by kernel_rfl) rfl #[.int .i64 a0] rfl (by (try simp only [List.map_toArray, List.map_cons, List.map_nil]); first | done | rfl | (simp only [List.length_drop, List.length_take]; rfl)) ?_; (with_reducible refine (cmp_isNaN_int.calls a0 false _ A3.out).mono ?_); rintro e w' ⟨rfl, ⟨nd, rfl⟩⟩; refine ⟨_, rfl, ?_⟩) | ((with_reducible refine gate_callee (f := 32) rfl ?_); refine goesL_ (some 10) rfl rfl Try.func32 (by kernel_rfl) rfl #[.int .i64 a1] rfl (by (try simp only [List.map_toArray, List.map_cons, List.map_nil]); first | done | rfl | (simp only [List.length_drop, List.length_take]; rfl)) ?_; (with_reducible refine (cmp_isNaN_int.calls a1 true _ A4.out).mono ?_); rintro e w' ⟨rfl, ⟨nd, rfl⟩⟩; refine ⟨_, rfl, ?_⟩))
   go_ret
   exact ⟨by first | rfl | (simp; done) | (simp [*]; done), by repeat (first | exact Drawn0.refl _ | apply Drawn0.step)⟩
  ·replace c7 := Bool.eq_false_iff.mpr c7
   subst c7
   have H1 : (if a0 < a1 then (some (-1)) else (if a0 > a1 then (some 1) else (some 0))) = some r := by rw [if_neg (show ¬ (false = true) by decide)] at H; exact H
   clear H
   have H := H1
   clear H1
   by_cases c8 : a0 < a1
   ·rw [if_pos c8] at H
    have c8b0 : decide (a0 < a1) = true := decide_eq_true c8
    clear c8
    obtain rfl := Option.some.inj H
    go_enter Try.func16, Try.ntmps16
    go_wp2_with (first | ((with_reducible refine gate_callee (f := 32) rfl ?_); refine goesL_ (some 8) rfl rfl Try.func32 (by kernel_rfl) rfl #[.int .i64 a0] rfl (by (try simp only [List.map_toArray, List.map_cons, List.map_nil]); first | done | rfl | (simp only [List.length_drop, List.length_take]; rfl)) ?_; (with_reducible refine (cmp_isNaN_int.calls a0 false _ A3.out).mono ?_); rintro e w' ⟨rfl, ⟨nd, rfl⟩⟩; refine ⟨_, rfl, ?_⟩) | ((with_reducible refine gate_callee (f := 32) rfl ?_); refine goesL_ (some 10) rfl rfl Try.func32 (by kernel_rfl) rfl #[.int .i64 a1] rfl (by (try simp only [List.map_toArray, List.map_cons, List.map_nil]); first | done | rfl | (simp only [List.length_drop, List.length_take]; rfl)) ?_; (with_reducible refine (cmp_isNaN_int.calls a1 false _ A4.out).mono ?_); rintro e w' ⟨rfl, ⟨nd, rfl⟩⟩; refine ⟨_, rfl, ?_⟩))
    go_ret
    exact ⟨by first | rfl | (simp; done) | (simp [*]; done), by repeat (first | exact Drawn0.refl _ | apply Drawn0.step)⟩
   ·rw [if_neg c8] at H
    have c8b0 : decide (a0 < a1) = false := decide_eq_false c8
    clear c8
    by_cases c9 : a0 > a1
    ·rw [if_pos c9] at H
     have c9b0 : decide (a1 < a0) = true := decide_eq_true c9
     clear c9
     obtain rfl := Option.some.inj H
     go_enter Try.func16, Try.ntmps16
     go_wp2_with (first | ((with_reducible refine gate_callee (f := 32) rfl ?_); refine goesL_ (some 8) rfl rfl Try.func32 (by kernel_rfl) rfl #[.int .i64 a0] rfl (by (try simp only [List.map_toArray, List.map_cons, List.map_nil]); first | done | rfl | (simp only [List.length_drop, List.length_take]; rfl)) ?_; (with_reducible refine (cmp_isNaN_int.calls a0 false _ A3.out).mono ?_); rintro e w' ⟨rfl, ⟨nd, rfl⟩⟩; refine ⟨_, rfl, ?_⟩) | ((with_reducible refine gate_callee (f := 32) rfl ?_); refine goesL_ (some 10) rfl rfl Try.func32 (by kernel_rfl) rfl #[.int .i64 a1] rfl (by (try simp only [List.map_toArray, List.map_cons, List.map_nil]); first | done | rfl | (simp only [List.length_drop, List.length_take]; rfl)) ?_; (with_reducible refine (cmp_isNaN_int.calls a1 false _ A4.out).mono ?_); rintro e w' ⟨rfl, ⟨nd, rfl⟩⟩; refine ⟨_, rfl, ?_⟩))
     go_ret
     exact ⟨by first | rfl | (simp; done) | (simp [*]; done), by repeat (first | exact Drawn0.refl _ | apply Drawn0.step)⟩
    ·rw [if_neg c9] at H
     have c9b0 : decide (a1 < a0) = false := decide_eq_false c9
     clear c9
     obtain rfl := Option.some.inj H
     go_enter Try.func16, Try.ntmps16
     go_wp2_with (first | ((with_reducible refine gate_callee (f := 32) rfl ?_); refine goesL_ (some 8) rfl rfl Try.func32 (by kernel_rfl) rfl #[.int .i64 a0] rfl (by (try simp only [List.map_toArray, List.map_cons, List.map_nil]); first | done | rfl | (simp only [List.length_drop, List.length_take]; rfl)) ?_; (with_reducible refine (cmp_isNaN_int.calls a0 false _ A3.out).mono ?_); rintro e w' ⟨rfl, ⟨nd, rfl⟩⟩; refine ⟨_, rfl, ?_⟩) | ((with_reducible refine gate_callee (f := 32) rfl ?_); refine goesL_ (some 10) rfl rfl Try.func32 (by kernel_rfl) rfl #[.int .i64 a1] rfl (by (try simp only [List.map_toArray, List.map_cons, List.map_nil]); first | done | rfl | (simp only [List.length_drop, List.length_take]; rfl)) ?_; (with_reducible refine (cmp_isNaN_int.calls a1 false _ A4.out).mono ?_); rintro e w' ⟨rfl, ⟨nd, rfl⟩⟩; refine ⟨_, rfl, ?_⟩))
     go_ret
     exact ⟨by first | rfl | (simp; done) | (simp [*]; done), by repeat (first | exact Drawn0.refl _ | apply Drawn0.step)⟩

/-! ### directory_rank: function 17 -/
def directory_rank.f (a0 : ByteArray) : Option (Int) := if a0.toList = ([0] : List UInt8) then (some 0) else (if a0.toList = ([1] : List UInt8) then (some 1) else (some 2))
set_option maxHeartbeats 8000000 in
set_option maxRecDepth 100000 in
theorem directory_rank.calls (a0 : ByteArray) (r : Int) (w : World) (h : directory_rank.f a0 = some r) :
  Calls Try.prog 17 #[.string a0] w fun e w' => e = .returned (.int .i64 r) ∧ Drawn0 w w' := by
 have H : (if a0.toList = ([0] : List UInt8) then (some 0) else (if a0.toList = ([1] : List UInt8) then (some 1) else (some 2))) = some r := h
 clear h
 by_cases c2 : a0.toList = ([0] : List UInt8)
 ·rw [if_pos c2] at H
  have c2b0 : (a0.toList == ([0] : List UInt8)) = true := beq_iff_eq.mpr c2
  have c2b1 : (a0.toList != ([0] : List UInt8)) = false := bne_eq_false_iff_eq.mpr c2
  clear c2
  obtain rfl := Option.some.inj H
  go_enter Try.func17, Try.ntmps17
  go_wp2
  go_ret
  exact ⟨by first | rfl | (simp; done) | (simp [*]; done), by repeat (first | exact Drawn0.refl _ | apply Drawn0.step)⟩
 ·rw [if_neg c2] at H
  have c2b0 : (a0.toList == ([0] : List UInt8)) = false := beq_eq_false_iff_ne.mpr c2
  have c2b1 : (a0.toList != ([0] : List UInt8)) = true := bne_iff_ne.mpr c2
  by_cases c3 : a0.toList = ([1] : List UInt8)
  ·rw [if_pos c3] at H
   have c3b0 : (a0.toList == ([1] : List UInt8)) = true := beq_iff_eq.mpr c3
   have c3b1 : (a0.toList != ([1] : List UInt8)) = false := bne_eq_false_iff_eq.mpr c3
   clear c3
   obtain rfl := Option.some.inj H
   go_enter Try.func17, Try.ntmps17
   go_wp2
   go_ret
   exact ⟨by first | rfl | (simp; done) | (simp [*]; done), by repeat (first | exact Drawn0.refl _ | apply Drawn0.step)⟩
  ·rw [if_neg c3] at H
   have c3b0 : (a0.toList == ([1] : List UInt8)) = false := beq_eq_false_iff_ne.mpr c3
   have c3b1 : (a0.toList != ([1] : List UInt8)) = true := bne_iff_ne.mpr c3
   obtain rfl := Option.some.inj H
   go_enter Try.func17, Try.ntmps17
   go_wp2
   go_ret
   exact ⟨by first | rfl | (simp; done) | (simp [*]; done), by repeat (first | exact Drawn0.refl _ | apply Drawn0.step)⟩

/-! ### cmp_isNaN_byte: function 56 -/
/-! ### cmp_Compare_byte: function 34 -/
end Go.Proofs.Ythblghfobnhoeaa.A
namespace Go.Proofs.Ythblghfobnhoeaa.A
open Go.RowKit Go.Proofs.Ythblghfobnhoeaa.H Go.Proofs.YthblghfobnhoeaaW.PrintWords Go.Proofs.YthblghfobnhoeaaW.PrintLast Go.Proofs.YthblghfobnhoeaaW.PrintMore
attribute [local go_sem] max2_int min2_int max_two min_two max_three min_three max_four min_four   -- for this text's walks alone
set_option linter.unusedVariables false
set_option linter.unusedSimpArgs false

/-! ### datetime_isTime: function 85 -/
def datetime_isTime.f (a0 : Int) : Option (Bool) := if a0 ≥ 315532800 then (some (decide (a0 ≤ 4102444799))) else (some false)
set_option maxHeartbeats 8000000 in
set_option maxRecDepth 100000 in
theorem datetime_isTime.calls (a0 : Int) (r : Bool) (w : World) (h : datetime_isTime.f a0 = some r) :
  Calls Try.prog 85 #[.int .i64 a0] w fun e w' => e = .returned (.bool r) ∧ Drawn0 w w' := by
 have H : (if a0 ≥ 315532800 then (some (decide (a0 ≤ 4102444799))) else (some false)) = some r := h
 clear h
 by_cases c2 : a0 ≥ 315532800
 ·rw [if_pos c2] at H
  have c2b0 : decide (315532800 ≤ a0) = true := decide_eq_true c2
  clear c2
  obtain rfl := Option.some.inj H
  go_enter Try.func85, Try.ntmps85
  go_wp2
  go_ret
  exact ⟨by first | rfl | (simp; done) | (simp [*]; done), by repeat (first | exact Drawn0.refl _ | apply Drawn0.step)⟩
 ·rw [if_neg c2] at H
  have c2b0 : decide (315532800 ≤ a0) = false := decide_eq_false c2
  clear c2
  obtain rfl := Option.some.inj H
  go_enter Try.func85, Try.ntmps85
  go_wp2
  go_ret
  exact ⟨by first | rfl | (simp; done) | (simp [*]; done), by repeat (first | exact Drawn0.refl _ | apply Drawn0.step)⟩

/-! ### datetime_isZone: function 86 -/
def datetime_isZone.f (a0 : Int) : Option (Bool) := if a0 ≥ (-1440) then (some (decide (a0 ≤ 1440))) else (some false)
set_option maxHeartbeats 8000000 in
set_option maxRecDepth 100000 in
theorem datetime_isZone.calls (a0 : Int) (r : Bool) (w : World) (h : datetime_isZone.f a0 = some r) :
  Calls Try.prog 86 #[.int .i64 a0] w fun e w' => e = .returned (.bool r) ∧ Drawn0 w w' := by
 have H : (if a0 ≥ (-1440) then (some (decide (a0 ≤ 1440))) else (some false)) = some r := h
 clear h
 by_cases c2 : a0 ≥ (-1440)
 ·rw [if_pos c2] at H
  have c2b0 : decide ((-1440) ≤ a0) = true := decide_eq_true c2
  clear c2
  obtain rfl := Option.some.inj H
  go_enter Try.func86, Try.ntmps86
  go_wp2
  go_ret
  exact ⟨by first | rfl | (simp; done) | (simp [*]; done), by repeat (first | exact Drawn0.refl _ | apply Drawn0.step)⟩
 ·rw [if_neg c2] at H
  have c2b0 : decide ((-1440) ≤ a0) = false := decide_eq_false c2
  clear c2
  obtain rfl := Option.some.inj H
  go_enter Try.func86, Try.ntmps86
  go_wp2
  go_ret
  exact ⟨by first | rfl | (simp; done) | (simp [*]; done), by repeat (first | exact Drawn0.refl _ | apply Drawn0.step)⟩

/-! ### datetime_leap: function 97 -/
def datetime_leap.f (a0 : Int) : Option (Bool) := if (Int.tmod a0 400) = 0 then (some true) else (if (Int.tmod a0 4) = 0 then (some ((Int.tmod a0 100) != 0)) else (some false))
set_option maxHeartbeats 8000000 in
set_option maxRecDepth 100000 in
theorem datetime_leap.calls (a0 : Int) (r : Bool) (w : World) (h : datetime_leap.f a0 = some r) :
  Calls Try.prog 97 #[.int .i64 a0] w fun e w' => e = .returned (.bool r) ∧ Drawn0 w w' := by
 have H : (if (Int.tmod a0 400) = 0 then (some true) else (if (Int.tmod a0 4) = 0 then (some ((Int.tmod a0 100) != 0)) else (some false))) = some r := h
 clear h
 by_cases c2 : (Int.tmod a0 400) = 0
 ·rw [if_pos c2] at H
  have c2b0 : ((Int.tmod a0 400) == 0) = true := beq_iff_eq.mpr c2
  have c2b1 : ((Int.tmod a0 400) != 0) = false := bne_eq_false_iff_eq.mpr c2
  clear c2
  obtain rfl := Option.some.inj H
  go_enter Try.func97, Try.ntmps97
  go_wp2
  go_ret
  exact ⟨by first | rfl | (simp; done) | (simp [*]; done), by repeat (first | exact Drawn0.refl _ | apply Drawn0.step)⟩
 ·rw [if_neg c2] at H
  have c2b0 : ((Int.tmod a0 400) == 0) = false := beq_eq_false_iff_ne.mpr c2
  have c2b1 : ((Int.tmod a0 400) != 0) = true := bne_iff_ne.mpr c2
  by_cases c3 : (Int.tmod a0 4) = 0
  ·rw [if_pos c3] at H
   have c3b0 : ((Int.tmod a0 4) == 0) = true := beq_iff_eq.mpr c3
   have c3b1 : ((Int.tmod a0 4) != 0) = false := bne_eq_false_iff_eq.mpr c3
   clear c3
   obtain rfl := Option.some.inj H
   go_enter Try.func97, Try.ntmps97
   go_wp2
   go_ret
   exact ⟨by first | rfl | (simp; done) | (simp [*]; done), by repeat (first | exact Drawn0.refl _ | apply Drawn0.step)⟩
  ·rw [if_neg c3] at H
   have c3b0 : ((Int.tmod a0 4) == 0) = false := beq_eq_false_iff_ne.mpr c3
   have c3b1 : ((Int.tmod a0 4) != 0) = true := bne_iff_ne.mpr c3
   obtain rfl := Option.some.inj H
   go_enter Try.func97, Try.ntmps97
   go_wp2
   go_ret
   exact ⟨by first | rfl | (simp; done) | (simp [*]; done), by repeat (first | exact Drawn0.refl _ | apply Drawn0.step)⟩

/-! ### datetime_yearDays: function 87 -/
def datetime_yearDays.f (a0 : Int) : Option (Int) := (datetime_leap.f a0).bind fun t158 => (if t158 = true then (some 366) else (some 365))
set_option maxHeartbeats 8000000 in
set_option maxRecDepth 100000 in
theorem datetime_yearDays.calls0 (a0 : Int) (r : Int) (w : World) (h : datetime_yearDays.f a0 = some r) :
  Calls Try.prog 87 #[.int .i64 a0] w fun e w' => e = .returned (.int .i64 r) ∧ Drawn0 w w' := by
 have H : ((datetime_leap.f a0).bind fun t158 => (if t158 = true then (some 366) else (some 365))) = some r := h
 clear h
 replace H := Option.bind_eq_some_iff.mp H
 obtain ⟨t158, A20, H⟩ := H
 replace H : (if t158 = true then (some 366) else (some 365)) = some r := H
 have A2 := Aside0.mk A20
 clear A20
 by_cases c3 : t158 = true
 ·subst c3
  have H1 : (some 366) = some r := by rw [if_pos rfl] at H; exact H
  clear H
  have H := H1
  clear H1
  obtain rfl := Option.some.inj H
  go_enter Try.func87, Try.ntmps87
  go_wp2_with (first | ((with_reducible refine gate_callee (f := 97) rfl ?_); refine goesL_ (some 4) rfl rfl Try.func97 (by kernel_rfl) rfl #[.int .i64 a0] rfl (by (try simp only [List.map_toArray, List.map_cons, List.map_nil]); first | done | rfl | (simp only [List.length_drop, List.length_take]; rfl)) ?_; (with_reducible refine (datetime_leap.calls a0 true _ A2.out).mono ?_); rintro e w' ⟨rfl, ⟨nd, rfl⟩⟩; refine ⟨_, rfl, ?_⟩))
  go_ret
  exact ⟨by first | rfl | (simp; done) | (simp [*]; done), by repeat (first | exact Drawn0.refl _ | apply Drawn0.step)⟩
 ·replace c3 := Bool.eq_false_iff.mpr c3
  subst c3
  have H1 : (some 365) = some r := by rw [if_neg (show ¬ (false = true) by decide)] at H; exact H
  clear H
  have H := H1
  clear H1
  obtain rfl := Option.some.inj H
  go_enter Try.func87, Try.ntmps87
  go_wp2_with (first | ((with_reducible refine gate_callee (f := 97) rfl ?_); refine goesL_ (some 4) rfl rfl Try.func97 (by kernel_rfl) rfl #[.int .i64 a0] rfl (by (try simp only [List.map_toArray, List.map_cons, List.map_nil]); first | done | rfl | (simp only [List.length_drop, List.length_take]; rfl)) ?_; (with_reducible refine (datetime_leap.calls a0 false _ A2.out).mono ?_); rintro e w' ⟨rfl, ⟨nd, rfl⟩⟩; refine ⟨_, rfl, ?_⟩))
  go_ret
  exact ⟨by first | rfl | (simp; done) | (simp [*]; done), by repeat (first | exact Drawn0.refl _ | apply Drawn0.step)⟩

/-- The same, told as of a function that may make memory. -/
theorem datetime_yearDays.calls (a0 : Int) (r : Int) (w : World) (h : datetime_yearDays.f a0 = some r) :
  Calls Try.prog 87 #[.int .i64 a0] w fun e w' => e = .returned (.int .i64 r) ∧ Below w.heap.size w w' :=
 (datetime_yearDays.calls0 a0 r w h).mono fun _ _ h_ => ⟨h_.1, h_.2.below⟩

end Go.Proofs.Ythblghfobnhoeaa.A
namespace Go.Proofs.Ythblghfobnhoeaa.H
open Go.RowKit Go.Proofs.YthblghfobnhoeaaW.PrintWords
set_option linter.unusedVariables false

def leapB (y : Int) : Bool := (Int.tmod y 400 == 0) || ((Int.tmod y 4 == 0) && (Int.tmod y 100 != 0))

theorem leap_any (y : Int) (w : World) : Calls Try.prog 97 #[.int .i64 y] w fun e w' => e = .returned (.bool (leapB y)) ∧ w = w' := by
 by_cases h1 : Int.tmod y 400 = 0
 ·have e1 : (Int.tmod y 400 == 0) = true := by simp [h1]
  go_enter Try.func97, Try.ntmps97
  go_wp2
  go_ret
  exact ⟨by simp [leapB, h1], rfl⟩
 ·have e1 : (Int.tmod y 400 == 0) = false := by simp [h1]
  by_cases h2 : Int.tmod y 4 = 0
  ·have e2 : (Int.tmod y 4 == 0) = true := by simp [h2]
   clear h1 h2
   go_enter Try.func97, Try.ntmps97
   go_wp2
   go_ret
   exact ⟨by simp [leapB, e1, e2], rfl⟩
  ·have e2 : (Int.tmod y 4 == 0) = false := by simp [h2]
   clear h1 h2
   go_enter Try.func97, Try.ntmps97
   go_wp2
   go_ret
   exact ⟨by simp [leapB, e1, e2], rfl⟩

end Go.Proofs.Ythblghfobnhoeaa.H
namespace Go.Proofs.Ythblghfobnhoeaa.H
open Go.RowKit Go.Proofs.YthblghfobnhoeaaW.PrintWords
set_option linter.unusedVariables false

set_option maxHeartbeats 4000000 in
theorem month_at (y m : Int) (w : World) (h0 : 1 ≤ m) (h1 : m ≤ 12) (h2 : ¬ m = 2) :
  Calls Try.prog 88 #[.int .i64 y, .int .i64 m] w fun e w' => e = .returned (.int .i64 (mlen m)) ∧ Below w.heap.size w w' := by
 rcases (by omega : m = 1 ∨ m = 3 ∨ m = 4 ∨ m = 5 ∨ m = 6 ∨ m = 7 ∨ m = 8 ∨ m = 9 ∨ m = 10 ∨ m = 11 ∨ m = 12) with rfl | rfl | rfl | rfl | rfl | rfl | rfl | rfl | rfl | rfl | rfl
 all_goals
  go_enter Try.func88, Try.ntmps88
  go_wp2
  go_ret
  exact ⟨rfl, (Below.refl _ _).alloc (Nat.le_refl _) _⟩

theorem month_feb (y : Int) (w : World) :
  Calls Try.prog 88 #[.int .i64 y, .int .i64 2] w fun e w' => e = .returned (.int .i64 (if leapB y then 29 else 28)) ∧ Below w.heap.size w w' := by
 cases h : leapB y
 all_goals
  go_enter Try.func88, Try.ntmps88
  go_wp2_with (go_at_call 97; refine (leap_any _ _).mono ?_; rintro e w' ⟨rfl, rfl⟩)
  go_ret
  exact ⟨rfl, (Below.refl _ _).alloc (Nat.le_refl _) _⟩

/-- The days of a month, of whatever year. -/
def mdays (y m : Int) : Int := if m = 2 then (if leapB y then 29 else 28) else mlen m
theorem mdays_bd (y m : Int) : 28 ≤ mdays y m ∧ mdays y m ≤ 31 := by
 unfold mdays mlen
 repeat' split
 all_goals omega
theorem month_any (y m : Int) (w : World) (h0 : 1 ≤ m) (h1 : m ≤ 12) :
  Calls Try.prog 88 #[.int .i64 y, .int .i64 m] w fun e w' => e = .returned (.int .i64 (mdays y m)) ∧ Below w.heap.size w w' := by
 by_cases h2 : m = 2
 ·subst h2
  unfold mdays
  rw [if_pos rfl]
  exact month_feb y w
 ·unfold mdays
  rw [if_neg h2]
  exact month_at y m w h0 h1 h2

/-- datetime.monthDays. -/
def datetime_monthDays.f (a0 a1 : Int) : Option Int := if 1 ≤ a1 ∧ a1 ≤ 12 then some (mdays a0 a1) else none
theorem datetime_monthDays.calls (a0 : Int) (a1 : Int) (r : Int) (w : World) (h : datetime_monthDays.f a0 a1 = some r) :
  Calls Try.prog 88 #[.int .i64 a0, .int .i64 a1] w fun e w' => e = .returned (.int .i64 r) ∧ Below w.heap.size w w' := by
 unfold datetime_monthDays.f at h
 by_cases hc : 1 ≤ a1 ∧ a1 ≤ 12
 ·rw [if_pos hc] at h
  obtain rfl := Option.some.inj h
  exact month_any a0 a1 w hc.1 hc.2
 ·rw [if_neg hc] at h
  cases h

end Go.Proofs.Ythblghfobnhoeaa.H
namespace Go.Proofs.Ythblghfobnhoeaa.H
open Go.RowKit Go.Proofs.YthblghfobnhoeaaW.PrintWords
set_option linter.unusedVariables false

theorem up_any (i : Int) (w : World) : Calls Try.prog 89 #[.int .i64 i] w fun e w' => e = .returned (.int .i64 i) ∧ w = w' := by
  go_enter Try.func89, Try.ntmps89
  go_wp2
  go_ret
  exact ⟨rfl, rfl⟩

theorem conv_any (w : World) (xs : List Int) (n : Nat) (c : Array Value) (hl : xs.length = n) (hm : n ≤ 255) (hc : c = (xs.map (Value.int .u8)).toArray) (m : Nat) :
    (convert 57 9 (.slice (some ⟨w.heap.size, 0, none⟩) n n)).run Try.prog ((w.alloc (.cells c 5)).drewN m) = .ok (.string (strOfNums xs)) ((w.alloc (.cells c 5)).drewN m) := by
  subst hc
  refine string_of_reads Try.underlying57 Try.underlying5 Try.underlying9 ⟨hl, by omega, fun h => ⟨_, rfl, fun j hj => ?_⟩⟩
  have : (⟨w.heap.size, 0, none⟩ : Addr).add j = ⟨w.heap.size, j, none⟩ := by unfold Addr.add; split <;> simp_all
  rw [this]
  show (match (w.heap.push (Obj.cells ((xs.map (Value.int .u8)).toArray) 5 (0, 0)))[w.heap.size]? with
    | some (.cells c _ _) => if (none : Option Nat).isSome then none else c[j]?
    | _ => none) = _
  rw [Array.getElem?_push, if_pos rfl]
  simp [List.getD_eq_getElem?_getD, List.getElem?_eq_getElem (show j < xs.length by omega)]
theorem conv4 (w : World) (x0 x1 x2 x3 : Int) : (convert 57 9 (.slice (some ⟨w.heap.size, 0, none⟩) 4 4)).run Try.prog (w.alloc (.cells #[.int .u8 x0, .int .u8 x1, .int .u8 x2, .int .u8 x3] 5)).drew.drew.drew.drew =
    .ok (.string (strOfNums [x0, x1, x2, x3])) (w.alloc (.cells #[.int .u8 x0, .int .u8 x1, .int .u8 x2, .int .u8 x3] 5)).drew.drew.drew.drew :=
  conv_any w [x0, x1, x2, x3] 4 _ rfl (by omega) rfl 4
theorem conv2 (w : World) (x0 x1 : Int) : (convert 57 9 (.slice (some ⟨w.heap.size, 0, none⟩) 2 2)).run Try.prog (w.alloc (.cells #[.int .u8 x0, .int .u8 x1] 5)).drew.drew =
    .ok (.string (strOfNums [x0, x1])) (w.alloc (.cells #[.int .u8 x0, .int .u8 x1] 5)).drew.drew :=
  conv_any w [x0, x1] 2 _ rfl (by omega) rfl 2

theorem down_any (i : Int) (k : Int) (a : Addr) (w : World) (hc : w.cell? a = some (.int .i64 k)) (h0 : 0 ≤ i) (h1 : i < k) (h2 : k ≤ 8) : Calls Try.prog 90 #[.int .i64 i, .pointer (some a)] w fun e w' => e = .returned (.int .i64 (k - 1 - i)) ∧ w = w' := by
  go_enter Try.func90, Try.ntmps90
  go_wp2
  go_ret
  exact ⟨rfl, rfl⟩

set_option maxRecDepth 100000 in
set_option maxHeartbeats 4000000 in
theorem write_up4 (n : Int) (w : World) :
    Calls Try.prog 70 #[.int .i64 n, .int .i64 4, (.func (.func 89) #[] #[])] w fun e w' => e = .returned (.string (strOfNums [n % 256, n / 256 % 256, n / 65536 % 256, n / 16777216 % 256])) ∧ Below w.heap.size w w' := by
  have hmk : ∀ w, (Instr.makeSlice 57 (.int .i64 4) (.int .i64 4)).run Try.prog w = .ok (.slice (some ⟨w.heap.size, 0, none⟩) 4 4) (w.alloc (.cells #[.int .u8 0, .int .u8 0, .int .u8 0, .int .u8 0] 5)) := fun _ => by kernel_rfl
  have hcv := conv4
  have w0 : IntKind.i64.wrap 0 = 0 := by decide
  have w8 : IntKind.i64.wrap 8 = 8 := by decide
  have w16 : IntKind.i64.wrap 16 = 16 := by decide
  have w24 : IntKind.i64.wrap 24 = 24 := by decide
  go_enter Try.func70, Try.ntmps70
  go_wp2
  refine wp_loop_rounds 5 ?_
  iterate 4
    rw [rounds_succ]
    go_wp2
    go_region_with (go_at_call 89; refine (up_any _ _).mono ?_; rintro e w' ⟨rfl, rfl⟩)
    go_wp2
  rw [rounds_succ]
  go_wp2
  go_ret
  exact ⟨rfl, (Below.drew (Below.drew (Below.drew (Below.drew ((Below.refl _ _).alloc (Nat.le_refl _) _)))))⟩

set_option maxRecDepth 100000 in
set_option maxHeartbeats 4000000 in
theorem write_up2 (n : Int) (w : World) :
    Calls Try.prog 70 #[.int .i64 n, .int .i64 2, (.func (.func 89) #[] #[])] w fun e w' => e = .returned (.string (strOfNums [n % 256, n / 256 % 256])) ∧ Below w.heap.size w w' := by
  have hmk : ∀ w, (Instr.makeSlice 57 (.int .i64 2) (.int .i64 2)).run Try.prog w = .ok (.slice (some ⟨w.heap.size, 0, none⟩) 2 2) (w.alloc (.cells #[.int .u8 0, .int .u8 0] 5)) := fun _ => by kernel_rfl
  have hcv := conv2
  have w0 : IntKind.i64.wrap 0 = 0 := by decide
  have w8 : IntKind.i64.wrap 8 = 8 := by decide
  go_enter Try.func70, Try.ntmps70
  go_wp2
  refine wp_loop_rounds 3 ?_
  iterate 2
    rw [rounds_succ]
    go_wp2
    go_region_with (go_at_call 89; refine (up_any _ _).mono ?_; rintro e w' ⟨rfl, rfl⟩)
    go_wp2
  rw [rounds_succ]
  go_wp2
  go_ret
  exact ⟨rfl, (Below.drew (Below.drew ((Below.refl _ _).alloc (Nat.le_refl _) _)))⟩

set_option maxRecDepth 100000 in
set_option maxHeartbeats 4000000 in
theorem write_down2 (n : Int) (w : World) (b : Nat) (hb : b < w.heap.size) (hc : w.cell? ⟨b, 0, none⟩ = some (.int .i64 2)) :
    Calls Try.prog 70 #[.int .i64 n, .int .i64 2, (.func (.func 90) #[] #[.pointer (some ⟨b, 0, none⟩)])] w fun e w' => e = .returned (.string (strOfNums [n / 256 % 256, n % 256])) ∧ Below w.heap.size w w' := by
  have hmk : ∀ w, (Instr.makeSlice 57 (.int .i64 2) (.int .i64 2)).run Try.prog w = .ok (.slice (some ⟨w.heap.size, 0, none⟩) 2 2) (w.alloc (.cells #[.int .u8 0, .int .u8 0] 5)) := fun _ => by kernel_rfl
  have hcv := conv2
  have w0 : IntKind.i64.wrap 0 = 0 := by decide
  have w8 : IntKind.i64.wrap 8 = 8 := by decide
  have v1 : IntKind.i64.wrap 1 = 1 := by decide
  have v2 : IntKind.i64.wrap 2 = 2 := by decide
  have v3 : IntKind.i64.wrap 3 = 3 := by decide
  have hne : b ≠ w.heap.size := by omega
  go_enter Try.func70, Try.ntmps70
  go_wp2
  refine wp_loop_rounds 3 ?_
  iterate 2
    rw [rounds_succ]
    go_wp2
    go_region_with (go_at_call 90; refine (down_any _ 2 _ _ (by go_simp) (by omega) (by omega) (by omega)).mono ?_; rintro e w' ⟨rfl, rfl⟩)
    go_wp2
  rw [rounds_succ]
  go_wp2
  go_ret
  exact ⟨rfl, (Below.drew (Below.drew ((Below.refl _ _).alloc (Nat.le_refl _) _)))⟩

set_option maxRecDepth 100000 in
set_option maxHeartbeats 4000000 in
theorem write_down4 (n : Int) (w : World) (b : Nat) (hb : b < w.heap.size) (hc : w.cell? ⟨b, 0, none⟩ = some (.int .i64 4)) :
    Calls Try.prog 70 #[.int .i64 n, .int .i64 4, (.func (.func 90) #[] #[.pointer (some ⟨b, 0, none⟩)])] w fun e w' => e = .returned (.string (strOfNums [n / 16777216 % 256, n / 65536 % 256, n / 256 % 256, n % 256])) ∧ Below w.heap.size w w' := by
  have hmk : ∀ w, (Instr.makeSlice 57 (.int .i64 4) (.int .i64 4)).run Try.prog w = .ok (.slice (some ⟨w.heap.size, 0, none⟩) 4 4) (w.alloc (.cells #[.int .u8 0, .int .u8 0, .int .u8 0, .int .u8 0] 5)) := fun _ => by kernel_rfl
  have hcv := conv4
  have w0 : IntKind.i64.wrap 0 = 0 := by decide
  have w8 : IntKind.i64.wrap 8 = 8 := by decide
  have w16 : IntKind.i64.wrap 16 = 16 := by decide
  have w24 : IntKind.i64.wrap 24 = 24 := by decide
  have v1 : IntKind.i64.wrap 1 = 1 := by decide
  have v2 : IntKind.i64.wrap 2 = 2 := by decide
  have v3 : IntKind.i64.wrap 3 = 3 := by decide
  have hne : b ≠ w.heap.size := by omega
  go_enter Try.func70, Try.ntmps70
  go_wp2
  refine wp_loop_rounds 5 ?_
  iterate 4
    rw [rounds_succ]
    go_wp2
    go_region_with (go_at_call 90; refine (down_any _ 4 _ _ (by go_simp) (by omega) (by omega) (by omega)).mono ?_; rintro e w' ⟨rfl, rfl⟩)
    go_wp2
  rw [rounds_succ]
  go_wp2
  go_ret
  exact ⟨rfl, (Below.drew (Below.drew (Below.drew (Below.drew ((Below.refl _ _).alloc (Nat.le_refl _) _)))))⟩


end Go.Proofs.Ythblghfobnhoeaa.H
namespace Go.Proofs.Ythblghfobnhoeaa.H
open Go.RowKit Go.Proofs.YthblghfobnhoeaaW.PrintWords
set_option linter.unusedVariables false

/-- The bytes of a number, as the program writes them. -/
def le4 (n : Int) : ByteArray := strOfNums [n % 256, n / 256 % 256, n / 65536 % 256, n / 16777216 % 256]
def be4 (n : Int) : ByteArray := strOfNums [n / 16777216 % 256, n / 65536 % 256, n / 256 % 256, n % 256]
def le2 (n : Int) : ByteArray := strOfNums [n % 256, n / 256 % 256]
def be2 (n : Int) : ByteArray := strOfNums [n / 256 % 256, n % 256]
theorem le4_size (n : Int) : (le4 n).size ≤ 1000 := by simp [le4, strOfNums, ByteArray.size]
theorem be4_size (n : Int) : (be4 n).size ≤ 1000 := by simp [be4, strOfNums, ByteArray.size]
theorem le2_size (n : Int) : (le2 n).size ≤ 1000 := by simp [le2, strOfNums, ByteArray.size]
theorem be2_size (n : Int) : (be2 n).size ≤ 1000 := by simp [be2, strOfNums, ByteArray.size]

theorem wr_le4 (n : Int) (w : World) : Calls Try.prog 70 #[.int .i64 n, .int .i64 4, .func (.func 89) #[] #[]] w fun e w' => e = .returned (.string (le4 n)) ∧ Below w.heap.size w w' := write_up4 n w
theorem wr_le2 (n : Int) (w : World) : Calls Try.prog 70 #[.int .i64 n, .int .i64 2, .func (.func 89) #[] #[]] w fun e w' => e = .returned (.string (le2 n)) ∧ Below w.heap.size w w' := write_up2 n w
theorem wr_be4 (n : Int) (w : World) (b : Nat) (hb : b < w.heap.size) (hc : w.cell? ⟨b, 0, none⟩ = some (.int .i64 4)) : Calls Try.prog 70 #[.int .i64 n, .int .i64 4, .func (.func 90) #[] #[.pointer (some ⟨b, 0, none⟩)]] w fun e w' => e = .returned (.string (be4 n)) ∧ Below w.heap.size w w' := write_down4 n w b hb hc
theorem wr_be2 (n : Int) (w : World) (b : Nat) (hb : b < w.heap.size) (hc : w.cell? ⟨b, 0, none⟩ = some (.int .i64 2)) : Calls Try.prog 70 #[.int .i64 n, .int .i64 2, .func (.func 90) #[] #[.pointer (some ⟨b, 0, none⟩)]] w fun e w' => e = .returned (.string (be2 n)) ∧ Below w.heap.size w w' := write_down2 n w b hb hc

theorem dbl4 (w : World) : Calls Try.prog 68 #[.int .i64 4] w fun e w' => e = .returned (.bool true) ∧ w = w' := by
  go_enter Try.func68, Try.ntmps68
  go_wp2
  go_ret
  exact ⟨rfl, rfl⟩
theorem dbl2 (w : World) : Calls Try.prog 68 #[.int .i64 2] w fun e w' => e = .returned (.bool true) ∧ w = w' := by
  go_enter Try.func68, Try.ntmps68
  go_wp2
  go_ret
  exact ⟨rfl, rfl⟩

theorem fits_neg (n k : Int) (w : World) (h : n < 0) : Calls Try.prog 69 #[.int .i64 n, .int .i64 k] w fun e w' => e = .returned (.bool false) ∧ w = w' := by
  have h1 : decide (0 ≤ n) = false := decide_eq_false (by omega)
  go_enter Try.func69, Try.ntmps69
  go_wp2
  go_ret
  exact ⟨rfl, rfl⟩
theorem fits4 (n : Int) (w : World) (h : 0 ≤ n) : Calls Try.prog 69 #[.int .i64 n, .int .i64 4] w fun e w' => e = .returned (.bool (decide (n < 4294967296))) ∧ w = w' := by
  have h1 : decide (0 ≤ n) = true := decide_eq_true (by omega)
  have w32 : IntKind.i64.wrap 32 = 32 := by decide
  go_enter Try.func69, Try.ntmps69
  go_wp2
  go_ret
  exact ⟨rfl, rfl⟩
theorem fits2 (n : Int) (w : World) (h : 0 ≤ n) : Calls Try.prog 69 #[.int .i64 n, .int .i64 2] w fun e w' => e = .returned (.bool (decide (n < 65536))) ∧ w = w' := by
  have h1 : decide (0 ≤ n) = true := decide_eq_true (by omega)
  have w16 : IntKind.i64.wrap 16 = 16 := by decide
  go_enter Try.func69, Try.ntmps69
  go_wp2
  go_ret
  exact ⟨rfl, rfl⟩

end Go.Proofs.Ythblghfobnhoeaa.H
namespace Go.Proofs.Ythblghfobnhoeaa.H
open Go.RowKit Go.Proofs.YthblghfobnhoeaaW.PrintWords
set_option linter.unusedVariables false

theorem up_mk (k : Int) (w : World) : Calls Try.prog 71 #[.int .i64 k] w fun e w' => e = .returned (.func (.func 89) #[] #[]) ∧ w = w' := by
 go_enter Try.func71, Try.ntmps71
 go_wp2
 go_ret
 exact ⟨rfl, rfl⟩
theorem down_mk (k : Int) (w : World) : Calls Try.prog 72 #[.int .i64 k] w fun e w' => e = .returned (.func (.func 90) #[] #[.pointer (some ⟨w.heap.size, 0, none⟩)]) ∧ w.alloc (.cells #[.int .i64 k] 3) = w' := by
 go_enter Try.func72, Try.ntmps72
 go_wp2
 go_ret
 exact ⟨rfl, rfl⟩

theorem new_cell (w W : World) (v : Value) (e : TypeId) (h : Below w.heap.size w W) :
  (W.alloc (.cells #[v] e)).cell? ⟨W.heap.size, 0, none⟩ = some v := by
 show (match (W.heap.push (Obj.cells #[v] e (0, 0)))[W.heap.size]? with
  | some (.cells c _ _) => if (none : Option Nat).isSome then none else c[0]?
  | _ => none) = _
 rw [Array.getElem?_push, if_pos rfl]
 rfl

set_option maxRecDepth 100000 in
set_option maxHeartbeats 1000000 in
theorem both4 (n : Int) (w : World) (h0 : 0 ≤ n) (h1 : n < 4294967296) :
  Calls Try.prog 48 #[.int .i64 n, .int .i64 4] w fun e w' => e = .returned (.tuple #[.string (le4 n ++ be4 n), .int .i64 0]) ∧ Below w.heap.size w w' := by
 have d1 : decide (n < 4294967296) = true := decide_eq_true h1
 have s1 := le4_size n
 have s2 := be4_size n
 go_enter Try.func48, Try.ntmps48
 go_wp2_with (first | (go_at_call 68; refine (dbl4 _).mono ?_; rintro e w' ⟨rfl, rfl⟩) | (go_at_call 69; refine (fits4 _ _ (by omega)).mono ?_; rintro e w' ⟨rfl, rfl⟩) | (go_at_call 71; refine (up_mk _ _).mono ?_; rintro e w' ⟨rfl, rfl⟩) | (go_at_call 72; refine (down_mk _ _).mono ?_; rintro e w' ⟨rfl, rfl⟩))
 refine (wr_le4 _ _).mono ?_
 rintro e w1 ⟨rfl, hb1⟩
 go_wp2_with (first | (go_at_call 68; refine (dbl4 _).mono ?_; rintro e w' ⟨rfl, rfl⟩) | (go_at_call 69; refine (fits4 _ _ (by omega)).mono ?_; rintro e w' ⟨rfl, rfl⟩) | (go_at_call 71; refine (up_mk _ _).mono ?_; rintro e w' ⟨rfl, rfl⟩) | (go_at_call 72; refine (down_mk _ _).mono ?_; rintro e w' ⟨rfl, rfl⟩))
 refine (wr_be4 _ _ _ (by simp) (new_cell w w1 _ _ hb1)).mono ?_
 rintro e w2 ⟨rfl, hb2⟩
 go_wp2
 go_ret2
 exact ⟨rfl, (hb1.alloc hb1.size _).trans (hb2.mono (by have := hb1.size; simp; omega))⟩

set_option maxRecDepth 100000 in
set_option maxHeartbeats 1000000 in
theorem both2 (n : Int) (w : World) (h0 : 0 ≤ n) (h1 : n < 65536) :
  Calls Try.prog 48 #[.int .i64 n, .int .i64 2] w fun e w' => e = .returned (.tuple #[.string (le2 n ++ be2 n), .int .i64 0]) ∧ Below w.heap.size w w' := by
 have d1 : decide (n < 65536) = true := decide_eq_true h1
 have s1 := le2_size n
 have s2 := be2_size n
 go_enter Try.func48, Try.ntmps48
 go_wp2_with (first | (go_at_call 68; refine (dbl2 _).mono ?_; rintro e w' ⟨rfl, rfl⟩) | (go_at_call 69; refine (fits2 _ _ (by omega)).mono ?_; rintro e w' ⟨rfl, rfl⟩) | (go_at_call 71; refine (up_mk _ _).mono ?_; rintro e w' ⟨rfl, rfl⟩) | (go_at_call 72; refine (down_mk _ _).mono ?_; rintro e w' ⟨rfl, rfl⟩))
 refine (wr_le2 _ _).mono ?_
 rintro e w1 ⟨rfl, hb1⟩
 go_wp2_with (first | (go_at_call 68; refine (dbl2 _).mono ?_; rintro e w' ⟨rfl, rfl⟩) | (go_at_call 69; refine (fits2 _ _ (by omega)).mono ?_; rintro e w' ⟨rfl, rfl⟩) | (go_at_call 71; refine (up_mk _ _).mono ?_; rintro e w' ⟨rfl, rfl⟩) | (go_at_call 72; refine (down_mk _ _).mono ?_; rintro e w' ⟨rfl, rfl⟩))
 refine (wr_be2 _ _ _ (by simp) (new_cell w w1 _ _ hb1)).mono ?_
 rintro e w2 ⟨rfl, hb2⟩
 go_wp2
 go_ret2
 exact ⟨rfl, (hb1.alloc hb1.size _).trans (hb2.mono (by have := hb1.size; simp; omega))⟩

theorem both4_neg (n : Int) (w : World) (h : n < 0) :
  Calls Try.prog 48 #[.int .i64 n, .int .i64 4] w fun e w' => e = .returned (.tuple #[.string ⟨#[]⟩, .int .i64 2]) ∧ Below w.heap.size w w' := by
 go_enter Try.func48, Try.ntmps48
 go_wp2_with (first | (go_at_call 68; refine (dbl4 _).mono ?_; rintro e w' ⟨rfl, rfl⟩) | (go_at_call 69; refine (fits_neg _ _ _ (by omega)).mono ?_; rintro e w' ⟨rfl, rfl⟩))
 go_ret2
 exact ⟨rfl, Below.refl _ _⟩
theorem both4_big (n : Int) (w : World) (h : 4294967296 ≤ n) :
  Calls Try.prog 48 #[.int .i64 n, .int .i64 4] w fun e w' => e = .returned (.tuple #[.string ⟨#[]⟩, .int .i64 2]) ∧ Below w.heap.size w w' := by
 have d1 : decide (n < 4294967296) = false := decide_eq_false (by omega)
 go_enter Try.func48, Try.ntmps48
 go_wp2_with (first | (go_at_call 68; refine (dbl4 _).mono ?_; rintro e w' ⟨rfl, rfl⟩) | (go_at_call 69; refine (fits4 _ _ (by omega)).mono ?_; rintro e w' ⟨rfl, rfl⟩))
 go_ret2
 exact ⟨rfl, Below.refl _ _⟩

theorem both2_neg (n : Int) (w : World) (h : n < 0) :
  Calls Try.prog 48 #[.int .i64 n, .int .i64 2] w fun e w' => e = .returned (.tuple #[.string ⟨#[]⟩, .int .i64 2]) ∧ Below w.heap.size w w' := by
 go_enter Try.func48, Try.ntmps48
 go_wp2_with (first | (go_at_call 68; refine (dbl2 _).mono ?_; rintro e w' ⟨rfl, rfl⟩) | (go_at_call 69; refine (fits_neg _ _ _ (by omega)).mono ?_; rintro e w' ⟨rfl, rfl⟩))
 go_ret2
 exact ⟨rfl, Below.refl _ _⟩
theorem both2_big (n : Int) (w : World) (h : 65536 ≤ n) :
  Calls Try.prog 48 #[.int .i64 n, .int .i64 2] w fun e w' => e = .returned (.tuple #[.string ⟨#[]⟩, .int .i64 2]) ∧ Below w.heap.size w w' := by
 have d1 : decide (n < 65536) = false := decide_eq_false (by omega)
 go_enter Try.func48, Try.ntmps48
 go_wp2_with (first | (go_at_call 68; refine (dbl2 _).mono ?_; rintro e w' ⟨rfl, rfl⟩) | (go_at_call 69; refine (fits2 _ _ (by omega)).mono ?_; rintro e w' ⟨rfl, rfl⟩))
 go_ret2
 exact ⟨rfl, Below.refl _ _⟩

/-- endian.Both at the sizes 4 and 2. -/
def endian_Both.f (a0 a1 : Int) : Option (ByteArray × Int) :=
 if a1 = 4 then (if 0 ≤ a0 ∧ a0 < 4294967296 then some (le4 a0 ++ be4 a0, 0) else some ((⟨#[]⟩ : ByteArray), 2))
 else if a1 = 2 then (if 0 ≤ a0 ∧ a0 < 65536 then some (le2 a0 ++ be2 a0, 0) else some ((⟨#[]⟩ : ByteArray), 2))
 else none
theorem endian_Both.calls (a0 : Int) (a1 : Int) (r1 : ByteArray) (r2 : Int) (w : World) (h : endian_Both.f a0 a1 = some (r1, r2)) :
  Calls Try.prog 48 #[.int .i64 a0, .int .i64 a1] w fun e w' => e = .returned (.tuple #[.string r1, .int .i64 r2]) ∧ Below w.heap.size w w' := by
 unfold endian_Both.f at h
 by_cases h4 : a1 = 4
 ·subst h4
  rw [if_pos rfl] at h
  by_cases hn : 0 ≤ a0 ∧ a0 < 4294967296
  ·rw [if_pos hn] at h
   obtain ⟨rfl, rfl⟩ := Prod.mk.inj (Option.some.inj h)
   exact both4 a0 w hn.1 hn.2
  ·rw [if_neg hn] at h
   obtain ⟨rfl, rfl⟩ := Prod.mk.inj (Option.some.inj h)
   rcases (by omega : a0 < 0 ∨ 4294967296 ≤ a0) with h0 | h0
   ·exact both4_neg a0 w h0
   ·exact both4_big a0 w h0
 ·rw [if_neg h4] at h
  by_cases h2 : a1 = 2
  ·subst h2
   rw [if_pos rfl] at h
   by_cases hn : 0 ≤ a0 ∧ a0 < 65536
   ·rw [if_pos hn] at h
    obtain ⟨rfl, rfl⟩ := Prod.mk.inj (Option.some.inj h)
    exact both2 a0 w hn.1 hn.2
   ·rw [if_neg hn] at h
    obtain ⟨rfl, rfl⟩ := Prod.mk.inj (Option.some.inj h)
    rcases (by omega : a0 < 0 ∨ 65536 ≤ a0) with h0 | h0
    ·exact both2_neg a0 w h0
    ·exact both2_big a0 w h0
  ·rw [if_neg h2] at h
   cases h

end Go.Proofs.Ythblghfobnhoeaa.H
namespace Go.Proofs.Ythblghfobnhoeaa.H
open Go.RowKit Go.Proofs.YthblghfobnhoeaaW.PrintWords
set_option linter.unusedVariables false

theorem or_comm_u64 (x y : Int) : bits .or .u64 x y = bits .or .u64 y x := by
 simp only [bits, BitVec.or_comm]
theorem wraps_u64 (n : Int) (h₀ : 0 ≤ n) (h₁ : n < 2 ^ 40) : IntKind.u64.wrap n = n := by rw [IntKind.wrap_u64]; omega
theorem or_u64 (i : Nat) (lo hi : Int) (h0 : 0 ≤ lo) (h1 : lo < 2 ^ i) (h2 : lo < 2 ^ 40) (h3 : 0 ≤ hi) (h4 : hi < 2 ^ 40) (h5 : hi % 2 ^ i = 0) : bits .or .u64 lo hi = lo + hi := by
 rw [or_comm_u64, bits_join .u64 40 (by decide) wraps_u64 i hi lo h3 h5 h4 h0 h1 h2]; omega
theorem or_u64_0 (x : UInt8) : bits .or .u64 0 (IntKind.u64.wrap (IntKind.u64.wrap (x.toNat : Int))) = x.toNat := by
 have hx := x.toNat_lt
 rw [IntKind.wrap_u64, IntKind.wrap_u64, or_u64 0 _ _ (by omega) (by omega) (by omega) (by omega) (by omega) (by omega)]; omega
theorem or_u64_1 (x y : UInt8) : bits .or .u64 (x.toNat : Int) (IntKind.u64.wrap (IntKind.u64.wrap (y.toNat : Int) * 256)) = x.toNat + y.toNat * 256 := by
 have hx := x.toNat_lt
 have hy := y.toNat_lt
 rw [IntKind.wrap_u64, IntKind.wrap_u64, or_u64 8 _ _ (by omega) (by omega) (by omega) (by omega) (by omega) (by omega)]; omega
theorem or_u64_2 (x y z : UInt8) : bits .or .u64 ((x.toNat : Int) + y.toNat * 256) (IntKind.u64.wrap (IntKind.u64.wrap (z.toNat : Int) * 65536)) = x.toNat + y.toNat * 256 + z.toNat * 65536 := by
 have hx := x.toNat_lt
 have hy := y.toNat_lt
 have hz := z.toNat_lt
 rw [IntKind.wrap_u64, IntKind.wrap_u64, or_u64 16 _ _ (by omega) (by omega) (by omega) (by omega) (by omega) (by omega)]; omega
theorem or_u64_3 (x y z u : UInt8) : bits .or .u64 ((x.toNat : Int) + y.toNat * 256 + z.toNat * 65536) (IntKind.u64.wrap (IntKind.u64.wrap (u.toNat : Int) * 16777216)) = x.toNat + y.toNat * 256 + z.toNat * 65536 + u.toNat * 16777216 := by
 have hx := x.toNat_lt
 have hy := y.toNat_lt
 have hz := z.toNat_lt
 have hu := u.toNat_lt
 rw [IntKind.wrap_u64, IntKind.wrap_u64, or_u64 24 _ _ (by omega) (by omega) (by omega) (by omega) (by omega) (by omega)]; omega
theorem gt2 (x y : UInt8) : decide ((9223372036854775807 : Int) < x.toNat + y.toNat * 256) = false := by
 have hx := x.toNat_lt
 have hy := y.toNat_lt
 exact decide_eq_false (by omega)
theorem gt4 (x y z u : UInt8) : decide ((9223372036854775807 : Int) < x.toNat + y.toNat * 256 + z.toNat * 65536 + u.toNat * 16777216) = false := by
 have hx := x.toNat_lt
 have hy := y.toNat_lt
 have hz := z.toNat_lt
 have hu := u.toNat_lt
 exact decide_eq_false (by omega)
theorem inside_any (s : ByteArray) (a k : Int) (w : World) (hs : s.size ≤ 9223372036854775000) (hk0 : 0 ≤ k) (hk : k ≤ 100) :
  Calls Try.prog 93 #[.string s, .int .i64 a, .int .i64 k] w fun e w' => e = .returned (.bool (decide (0 ≤ a ∧ a + k ≤ s.size))) ∧ w = w' := by
 by_cases h0 : 0 ≤ a
 ·have d0 : decide (0 ≤ a) = true := decide_eq_true h0
  go_enter Try.func93, Try.ntmps93
  go_wp2
  go_ret
  have e : decide (a ≤ (s.size : Int) - k) = decide (0 ≤ a ∧ a + k ≤ s.size) := by rw [decide_eq_decide]; omega
  exact ⟨congrArg (fun z => Ending.returned (.bool z)) e, rfl⟩
 ·have d0 : decide (0 ≤ a) = false := decide_eq_false h0
  go_enter Try.func93, Try.ntmps93
  go_wp2
  go_ret
  exact ⟨by simp, rfl⟩

set_option maxRecDepth 100000 in
set_option maxHeartbeats 4000000 in
theorem read_up2 (s : ByteArray) (a : Int) (w : World) (hs : s.size ≤ 9223372036854775000) (h0 : 0 ≤ a) (h1 : a + 2 ≤ s.size) :
  Calls Try.prog 75 #[.string s, .int .i64 a, .int .i64 2, (.func (.func 89) #[] #[])] w fun e w' => e = .returned (.tuple #[.int .i64 (bt s a + bt s (a + 1) * 256), .int .i64 0]) ∧ w = w' := by
 have d : decide (0 ≤ a ∧ a + 2 ≤ s.size) = true := decide_eq_true ⟨h0, h1⟩
 have r0 := or_u64_0
 have r1 := or_u64_1
 have g := gt2
 go_enter Try.func75, Try.ntmps75
 go_wp2_with (go_at_call 93; refine (inside_any _ _ _ _ (by omega) (by omega) (by omega)).mono ?_; rintro e w' ⟨rfl, rfl⟩)
 refine wp_loop_rounds 3 ?_
 iterate 2
  rw [rounds_succ]
  go_wp2_with (go_at_call 89; refine (up_any _ _).mono ?_; rintro e w' ⟨rfl, rfl⟩)
 rw [rounds_succ]
 go_wp2
 go_ret2
 refine ⟨?_, rfl⟩
 simp only [bt_at]
 have q0 := bt_range s a
 have q1 := bt_range s (a + 1)
 have e : wrap64 (bt s a + bt s (a + 1) * 256) = bt s a + bt s (a + 1) * 256 := by unfold wrap64; omega
 exact congrArg (fun z => Ending.returned (.tuple #[.int .i64 z, .int .i64 0])) e

set_option maxRecDepth 100000 in
set_option maxHeartbeats 4000000 in
theorem read_up4 (s : ByteArray) (a : Int) (w : World) (hs : s.size ≤ 9223372036854775000) (h0 : 0 ≤ a) (h1 : a + 4 ≤ s.size) :
  Calls Try.prog 75 #[.string s, .int .i64 a, .int .i64 4, (.func (.func 89) #[] #[])] w fun e w' => e = .returned (.tuple #[.int .i64 (bt s a + bt s (a + 1) * 256 + bt s (a + 2) * 65536 + bt s (a + 3) * 16777216), .int .i64 0]) ∧ w = w' := by
 have d : decide (0 ≤ a ∧ a + 4 ≤ s.size) = true := decide_eq_true ⟨h0, h1⟩
 have r0 := or_u64_0
 have r1 := or_u64_1
 have r2 := or_u64_2
 have r3 := or_u64_3
 have g := gt4
 go_enter Try.func75, Try.ntmps75
 go_wp2_with (go_at_call 93; refine (inside_any _ _ _ _ (by omega) (by omega) (by omega)).mono ?_; rintro e w' ⟨rfl, rfl⟩)
 refine wp_loop_rounds 5 ?_
 iterate 4
  rw [rounds_succ]
  go_wp2_with (go_at_call 89; refine (up_any _ _).mono ?_; rintro e w' ⟨rfl, rfl⟩)
 rw [rounds_succ]
 go_wp2
 go_ret2
 refine ⟨?_, rfl⟩
 simp only [bt_at]
 have q0 := bt_range s a
 have q1 := bt_range s (a + 1)
 have q2 := bt_range s (a + 2)
 have q3 := bt_range s (a + 3)
 have e : wrap64 (bt s a + bt s (a + 1) * 256 + bt s (a + 2) * 65536 + bt s (a + 3) * 16777216) = bt s a + bt s (a + 1) * 256 + bt s (a + 2) * 65536 + bt s (a + 3) * 16777216 := by unfold wrap64; omega
 exact congrArg (fun z => Ending.returned (.tuple #[.int .i64 z, .int .i64 0])) e

set_option maxRecDepth 100000 in
set_option maxHeartbeats 4000000 in
theorem read_down2 (s : ByteArray) (a : Int) (w : World) (hs : s.size ≤ 9223372036854775000) (h0 : 0 ≤ a) (h1 : a + 2 ≤ s.size) (c : Addr) (hc : w.cell? c = some (.int .i64 2)) :
  Calls Try.prog 75 #[.string s, .int .i64 a, .int .i64 2, (.func (.func 90) #[] #[.pointer (some c)])] w fun e w' => e = .returned (.tuple #[.int .i64 (bt s (a + 1) + bt s a * 256), .int .i64 0]) ∧ w = w' := by
 have d : decide (0 ≤ a ∧ a + 2 ≤ s.size) = true := decide_eq_true ⟨h0, h1⟩
 have r0 := or_u64_0
 have r1 := or_u64_1
 have g := gt2
 go_enter Try.func75, Try.ntmps75
 go_wp2_with (go_at_call 93; refine (inside_any _ _ _ _ (by omega) (by omega) (by omega)).mono ?_; rintro e w' ⟨rfl, rfl⟩)
 refine wp_loop_rounds 3 ?_
 iterate 2
  rw [rounds_succ]
  go_wp2_with (go_at_call 90; refine (down_any _ 2 _ _ hc (by omega) (by omega) (by omega)).mono ?_; rintro e w' ⟨rfl, rfl⟩)
 rw [rounds_succ]
 go_wp2
 go_ret2
 refine ⟨?_, rfl⟩
 simp only [bt_at]
 have q1 := bt_range s (a + 1)
 have q0 := bt_range s a
 have e : wrap64 (bt s (a + 1) + bt s a * 256) = bt s (a + 1) + bt s a * 256 := by unfold wrap64; omega
 exact congrArg (fun z => Ending.returned (.tuple #[.int .i64 z, .int .i64 0])) e

set_option maxRecDepth 100000 in
set_option maxHeartbeats 4000000 in
theorem read_down4 (s : ByteArray) (a : Int) (w : World) (hs : s.size ≤ 9223372036854775000) (h0 : 0 ≤ a) (h1 : a + 4 ≤ s.size) (c : Addr) (hc : w.cell? c = some (.int .i64 4)) :
  Calls Try.prog 75 #[.string s, .int .i64 a, .int .i64 4, (.func (.func 90) #[] #[.pointer (some c)])] w fun e w' => e = .returned (.tuple #[.int .i64 (bt s (a + 3) + bt s (a + 2) * 256 + bt s (a + 1) * 65536 + bt s a * 16777216), .int .i64 0]) ∧ w = w' := by
 have d : decide (0 ≤ a ∧ a + 4 ≤ s.size) = true := decide_eq_true ⟨h0, h1⟩
 have r0 := or_u64_0
 have r1 := or_u64_1
 have r2 := or_u64_2
 have r3 := or_u64_3
 have g := gt4
 go_enter Try.func75, Try.ntmps75
 go_wp2_with (go_at_call 93; refine (inside_any _ _ _ _ (by omega) (by omega) (by omega)).mono ?_; rintro e w' ⟨rfl, rfl⟩)
 refine wp_loop_rounds 5 ?_
 iterate 4
  rw [rounds_succ]
  go_wp2_with (go_at_call 90; refine (down_any _ 4 _ _ hc (by omega) (by omega) (by omega)).mono ?_; rintro e w' ⟨rfl, rfl⟩)
 rw [rounds_succ]
 go_wp2
 go_ret2
 refine ⟨?_, rfl⟩
 simp only [bt_at]
 have q3 := bt_range s (a + 3)
 have q2 := bt_range s (a + 2)
 have q1 := bt_range s (a + 1)
 have q0 := bt_range s a
 have e : wrap64 (bt s (a + 3) + bt s (a + 2) * 256 + bt s (a + 1) * 65536 + bt s a * 16777216) = bt s (a + 3) + bt s (a + 2) * 256 + bt s (a + 1) * 65536 + bt s a * 16777216 := by unfold wrap64; omega
 exact congrArg (fun z => Ending.returned (.tuple #[.int .i64 z, .int .i64 0])) e

set_option maxRecDepth 100000 in
set_option maxHeartbeats 1000000 in
theorem ReadLittle4 (s : ByteArray) (a : Int) (w : World) (hs : s.size ≤ 9223372036854775000) (h0 : 0 ≤ a) (h1 : a + 4 ≤ s.size) :
  Calls Try.prog 54 #[.string s, .int .i64 a, .int .i64 4] w fun e w' => e = .returned (.tuple #[.int .i64 (bt s a + bt s (a + 1) * 256 + bt s (a + 2) * 65536 + bt s (a + 3) * 16777216), .int .i64 0]) ∧ Below w.heap.size w w' := by
 go_enter Try.func54, Try.ntmps54
 go_wp2_with (go_at_call 71; refine (up_mk _ _).mono ?_; rintro e w' ⟨rfl, rfl⟩)
 refine (read_up4 _ _ _ hs h0 h1).mono ?_
 rintro e w1 ⟨rfl, rfl⟩
 go_wp2
 go_ret2
 exact ⟨rfl, Below.refl _ _⟩

set_option maxRecDepth 100000 in
set_option maxHeartbeats 1000000 in
theorem ReadLittle2 (s : ByteArray) (a : Int) (w : World) (hs : s.size ≤ 9223372036854775000) (h0 : 0 ≤ a) (h1 : a + 2 ≤ s.size) :
  Calls Try.prog 54 #[.string s, .int .i64 a, .int .i64 2] w fun e w' => e = .returned (.tuple #[.int .i64 (bt s a + bt s (a + 1) * 256), .int .i64 0]) ∧ Below w.heap.size w w' := by
 go_enter Try.func54, Try.ntmps54
 go_wp2_with (go_at_call 71; refine (up_mk _ _).mono ?_; rintro e w' ⟨rfl, rfl⟩)
 refine (read_up2 _ _ _ hs h0 h1).mono ?_
 rintro e w1 ⟨rfl, rfl⟩
 go_wp2
 go_ret2
 exact ⟨rfl, Below.refl _ _⟩

/-- endian.ReadLittle at the sizes 4 and 2, inside of the string. -/
def endian_ReadLittle.f (a0 : ByteArray) (a1 a2 : Int) : Option (Int × Int) :=
 if a0.size ≤ 9223372036854775000 ∧ 0 ≤ a1 ∧ a1 + a2 ≤ a0.size then (if a2 = 4 then some (bt a0 a1 + bt a0 (a1 + 1) * 256 + bt a0 (a1 + 2) * 65536 + bt a0 (a1 + 3) * 16777216, 0) else if a2 = 2 then some (bt a0 a1 + bt a0 (a1 + 1) * 256, 0) else none) else none
theorem endian_ReadLittle.calls (a0 : ByteArray) (a1 : Int) (a2 : Int) (r1 : Int) (r2 : Int) (w : World) (h : endian_ReadLittle.f a0 a1 a2 = some (r1, r2)) :
  Calls Try.prog 54 #[.string a0, .int .i64 a1, .int .i64 a2] w fun e w' => e = .returned (.tuple #[.int .i64 r1, .int .i64 r2]) ∧ Below w.heap.size w w' := by
 unfold endian_ReadLittle.f at h
 by_cases hc : a0.size ≤ 9223372036854775000 ∧ 0 ≤ a1 ∧ a1 + a2 ≤ a0.size
 ·rw [if_pos hc] at h
  obtain ⟨hs, h0, h1⟩ := hc
  by_cases h4 : a2 = 4
  ·subst h4
   rw [if_pos rfl] at h
   obtain ⟨rfl, rfl⟩ := Prod.mk.inj (Option.some.inj h)
   exact ReadLittle4 a0 a1 w hs h0 h1
  ·rw [if_neg h4] at h
   by_cases h2 : a2 = 2
   ·subst h2
    rw [if_pos rfl] at h
    obtain ⟨rfl, rfl⟩ := Prod.mk.inj (Option.some.inj h)
    exact ReadLittle2 a0 a1 w hs h0 h1
   ·rw [if_neg h2] at h
    cases h
 ·rw [if_neg hc] at h
  cases h

end Go.Proofs.Ythblghfobnhoeaa.H
namespace Go.Proofs.Ythblghfobnhoeaa.H
open Go.RowKit Go.Proofs.YthblghfobnhoeaaW.PrintWords
set_option linter.unusedVariables false

/-- Is a number between 0 and a greatest one? -/
def inB (n m : Int) : Bool := decide (0 ≤ n ∧ n ≤ m)
theorem in_any (n m : Int) (w : World) : Calls Try.prog 98 #[.int .i64 n, .int .i64 m] w fun e w' => e = .returned (.bool (inB n m)) ∧ w = w' := by
 by_cases h : 0 ≤ n
 ·have d : decide (0 ≤ n) = true := decide_eq_true h
  go_enter Try.func98, Try.ntmps98
  go_wp2
  go_ret
  exact ⟨congrArg (fun z => Ending.returned (.bool z)) (by unfold inB; rw [decide_eq_decide]; omega), rfl⟩
 ·have d : decide (0 ≤ n) = false := decide_eq_false h
  go_enter Try.func98, Try.ntmps98
  go_wp2
  go_ret
  exact ⟨congrArg (fun z => Ending.returned (.bool z)) (by unfold inB; rw [eq_comm, decide_eq_false_iff_not]; omega), rfl⟩

/-- The function in datetime.valid. -/
def datetime_valid_1.f (a0 a1 : Int) : Option Bool := some (inB a0 a1)
theorem datetime_valid_1.calls (a0 : Int) (a1 : Int) (r : Bool) (w : World) (h : datetime_valid_1.f a0 a1 = some r) :
  Calls Try.prog 98 #[.int .i64 a0, .int .i64 a1] w fun e w' => e = .returned (.bool r) ∧ Drawn0 w w' := by
 obtain rfl := Option.some.inj h
 exact (in_any a0 a1 w).mono fun e w' ⟨he, hw⟩ => ⟨he, hw ▸ Drawn0.refl w⟩

end Go.Proofs.Ythblghfobnhoeaa.H
namespace Go.Proofs.Ythblghfobnhoeaa.H
open Go.RowKit Go.Shelf Go.Proofs.YthblghfobnhoeaaW.PrintWords
set_option linter.unusedVariables false

/-- The numbers of package strings' Builder here. -/
def bren : Go.Shelf.Ren := ⟨fun | 166 => 39 | 167 => 50 | 169 => 41 | 240 => 63 | 276 => 83 | n => n,
 fun | 0 => 0 | 3 => 3 | 4 => 4 | 5 => 5 | 9 => 9 | 20 => 20 | 37 => 57 | 70 => 71 | 72 => 73 | 75 => 76 | 80 => 80 | 127 => 102 | 164 => 119 | n => n, fun | n => n⟩
theorem lays240 : Go.Proofs.Lays.n240 Try.prog bren := {
 mixed := by kernel_rfl
 f240 := Try.func63.trans (congrArg some (by kernel_rfl))
 f276 := Try.func83.trans (congrArg some (by kernel_rfl))
 t0 := Try.underlying0
 a0 := Try.isAgg0
 z0 := Try.sizeOf0
 v0 := Try.zeroValue0
 t4 := Try.underlying4
 a4 := Try.isAgg4
 z4 := Try.sizeOf4
 v4 := Try.zeroValue4
 t9 := Try.underlying9
 a9 := Try.isAgg9
 z9 := Try.sizeOf9
 v9 := Try.zeroValue9
 t20 := Try.underlying20
 a20 := Try.isAgg20
 z20 := Try.sizeOf20
 v20 := Try.zeroValue20
 t70 := Try.underlying71
 a70 := Try.isAgg71
 z70 := Try.sizeOf71
 v70 := Try.zeroValue71
 t72 := Try.underlying73
 a72 := Try.isAgg73
 z72 := Try.sizeOf73
 v72 := Try.zeroValue73
 t164 := Try.underlying119
 a164 := Try.isAgg119
 z164 := Try.sizeOf119
 v164 := Try.zeroValue119 }
theorem lays166 : Go.Proofs.Lays.n166 Try.prog bren := {
 mixed := by kernel_rfl
 f166 := Try.func39.trans (congrArg some (by kernel_rfl))
 f240 := Try.func63.trans (congrArg some (by kernel_rfl))
 f276 := Try.func83.trans (congrArg some (by kernel_rfl))
 t0 := Try.underlying0
 a0 := Try.isAgg0
 z0 := Try.sizeOf0
 v0 := Try.zeroValue0
 t3 := Try.underlying3
 a3 := Try.isAgg3
 z3 := Try.sizeOf3
 v3 := Try.zeroValue3
 t4 := Try.underlying4
 a4 := Try.isAgg4
 z4 := Try.sizeOf4
 v4 := Try.zeroValue4
 t9 := Try.underlying9
 a9 := Try.isAgg9
 z9 := Try.sizeOf9
 v9 := Try.zeroValue9
 t20 := Try.underlying20
 a20 := Try.isAgg20
 z20 := Try.sizeOf20
 v20 := Try.zeroValue20
 t37 := Try.underlying57
 a37 := Try.isAgg57
 z37 := Try.sizeOf57
 v37 := Try.zeroValue57
 t70 := Try.underlying71
 a70 := Try.isAgg71
 z70 := Try.sizeOf71
 v70 := Try.zeroValue71
 t72 := Try.underlying73
 a72 := Try.isAgg73
 z72 := Try.sizeOf73
 v72 := Try.zeroValue73
 t75 := Try.underlying76
 a75 := Try.isAgg76
 z75 := Try.sizeOf76
 v75 := Try.zeroValue76
 t164 := Try.underlying119
 a164 := Try.isAgg119
 z164 := Try.sizeOf119
 v164 := Try.zeroValue119 }
theorem lays167 : Go.Proofs.Lays.n167 Try.prog bren := {
 mixed := by kernel_rfl
 f167 := Try.func50.trans (congrArg some (by kernel_rfl))
 f240 := Try.func63.trans (congrArg some (by kernel_rfl))
 f276 := Try.func83.trans (congrArg some (by kernel_rfl))
 t0 := Try.underlying0
 a0 := Try.isAgg0
 z0 := Try.sizeOf0
 v0 := Try.zeroValue0
 t4 := Try.underlying4
 a4 := Try.isAgg4
 z4 := Try.sizeOf4
 v4 := Try.zeroValue4
 t5 := Try.underlying5
 a5 := Try.isAgg5
 z5 := Try.sizeOf5
 v5 := Try.zeroValue5
 t9 := Try.underlying9
 a9 := Try.isAgg9
 z9 := Try.sizeOf9
 v9 := Try.zeroValue9
 t20 := Try.underlying20
 a20 := Try.isAgg20
 z20 := Try.sizeOf20
 v20 := Try.zeroValue20
 t37 := Try.underlying57
 a37 := Try.isAgg57
 z37 := Try.sizeOf57
 v37 := Try.zeroValue57
 t70 := Try.underlying71
 a70 := Try.isAgg71
 z70 := Try.sizeOf71
 v70 := Try.zeroValue71
 t72 := Try.underlying73
 a72 := Try.isAgg73
 z72 := Try.sizeOf73
 v72 := Try.zeroValue73
 t75 := Try.underlying76
 a75 := Try.isAgg76
 z75 := Try.sizeOf76
 v75 := Try.zeroValue76
 t164 := Try.underlying119
 a164 := Try.isAgg119
 z164 := Try.sizeOf119
 v164 := Try.zeroValue119 }
theorem lays169 : Go.Proofs.Lays.n169 Try.prog bren := {
 mixed := by kernel_rfl
 f169 := Try.func41.trans (congrArg some (by kernel_rfl))
 t0 := Try.underlying0
 a0 := Try.isAgg0
 z0 := Try.sizeOf0
 v0 := Try.zeroValue0
 t3 := Try.underlying3
 a3 := Try.isAgg3
 z3 := Try.sizeOf3
 v3 := Try.zeroValue3
 t9 := Try.underlying9
 a9 := Try.isAgg9
 z9 := Try.sizeOf9
 v9 := Try.zeroValue9
 t37 := Try.underlying57
 a37 := Try.isAgg57
 z37 := Try.sizeOf57
 v37 := Try.zeroValue57
 t70 := Try.underlying71
 a70 := Try.isAgg71
 z70 := Try.sizeOf71
 v70 := Try.zeroValue71
 t72 := Try.underlying73
 a72 := Try.isAgg73
 z72 := Try.sizeOf73
 v72 := Try.zeroValue73
 t127 := Try.underlying102
 a127 := Try.isAgg102
 z127 := Try.sizeOf102
 v127 := Try.zeroValue102 }
theorem bextra : Builder.Extra Try.prog bren := {
 sizeBuilder := by kernel_rfl
 liesBuilder := by kernel_rfl
 t5 := Try.underlying5
 a5 := Try.isAgg5
 z5 := Try.sizeOf5
 v5 := Try.zeroValue5
 infoByte := by kernel_rfl
 cellsByte := by kernel_rfl
 sizeByte := by kernel_rfl
 neB5 := by decide }

/-- A builder of the call's own (from block B on), at block b, that holds these bytes. -/
def Bld (B b : Nat) (l : List UInt8) (w : World) : Prop := Lib.IsBuilderF 73 5 B b (Lib.byteCells l) w
/-- What stays: all blocks but the builder's own and rows of bytes. -/
abbrev Oth (b : Nat) (w w' : World) : Prop := Lib.OthersKept 5 (some b) w w'

theorem bld_writeString (B b : Nat) (l : List UInt8) (s : ByteArray) (w : World) (h : Bld B b l w) (hlen : l.length + s.size ≤ 140737488355328) (hb : B ≤ w.heap.size) :
  Calls Try.prog 39 #[.pointer (some ⟨b, 0, none⟩), .string s] w fun e w' => e = .returned (.tuple #[.int .i64 s.size, .nilIface]) ∧ (Bld B b (l ++ s.data.toList) w' ∧ Below B w w' ∧ Oth b w w') := by
 refine (Any.Builder_WriteString_k lays166 bextra B b (Lib.byteCells l) s w h (by simpa [Lib.byteCells] using hlen) hb).mono ?_
 rintro e w' ⟨he, h1, h2⟩
 refine ⟨he, Or.inr ?_, h2⟩
 have e2 : Lib.byteCells (l ++ s.data.toList) = Lib.byteCells l ++ Lib.strCells s := by simp [Lib.byteCells, Lib.strCells]
 rw [e2]
 exact h1

theorem bld_writeByte (B b : Nat) (l : List UInt8) (c : UInt8) (w : World) (h : Bld B b l w) (hlen : l.length + 1 ≤ 140737488355328) (hb : B ≤ w.heap.size) :
  Calls Try.prog 50 #[.pointer (some ⟨b, 0, none⟩), .int .u8 c.toNat] w fun e w' => e = .returned .nilIface ∧ (Bld B b (l ++ [c]) w' ∧ Below B w w' ∧ Oth b w w') := by
 refine (Any.Builder_WriteByte_k lays167 bextra B b (Lib.byteCells l) c.toNat w h (by simpa [Lib.byteCells] using hlen) hb).mono ?_
 rintro e w' ⟨he, h1, h2⟩
 refine ⟨he, Or.inr ?_, h2⟩
 have e2 : Lib.byteCells (l ++ [c]) = Lib.byteCells l ++ [.int .u8 c.toNat] := by simp [Lib.byteCells]
 rw [e2]
 exact h1

theorem bld_string (B b : Nat) (l : List UInt8) (w : World) (h : Bld B b l w) (hb : B ≤ w.heap.size) :
  Calls Try.prog 41 #[.pointer (some ⟨b, 0, none⟩)] w fun e w' => e = .returned (.string ⟨l.toArray⟩) ∧ Below B w w' :=
 (Any.Builder_String_any_k lays169 bextra B b l w h hb).mono fun _ _ h => ⟨h.1, h.2.2.1⟩

theorem bld_check (B b : Nat) (l : List UInt8) (w : World) (h : Bld B b l w) :
  Calls Try.prog 63 #[.pointer (some ⟨b, 0, none⟩)] w fun e w' => e = .returned (.tuple #[]) ∧ (Lib.BuilderAtF 73 5 B b (.pointer (some ⟨b, 0, none⟩)) (Lib.byteCells l) w' ∧ (w' = w ∨ w' = w.setCell ⟨b, 0, none⟩ (.pointer (some ⟨b, 0, none⟩)))) := by
 rcases h with h | h
 ·refine (Any.Builder_copyCheck_fresh lays240 bextra.toX72 b w h.cell0 h.shape h.frozen0).mono ?_
  rintro e w' ⟨rfl, rfl⟩
  exact ⟨rfl, h.used _, .inr rfl⟩
 ·refine (Any.Builder_copyCheck_used lays240 bextra.toX72 b w h.cell0).mono ?_
  rintro e w' ⟨rfl, rfl⟩
  exact ⟨rfl, h, .inl rfl⟩

set_option maxRecDepth 100000 in
set_option maxHeartbeats 2000000 in
theorem bld_write (B b : Nat) (l : List UInt8) (xs : List UInt8) (ad : Addr) (m c : Nat) (w : World) (h : Bld B b l w) (hl : xs.length = m)
  (hx : ∀ j u, (Lib.byteCells xs)[j]? = some u → w.cell? (ad.add j) = some u) (had : ad.block ≠ b) (hlen : l.length + m ≤ 140737488355328) (hb : B ≤ w.heap.size) :
  Calls Try.prog 49 #[.pointer (some ⟨b, 0, none⟩), .slice (some ad) m c] w fun e w' => e = .returned (.tuple #[.int .i64 m, .nilIface]) ∧ (Bld B b (l ++ xs) w' ∧ Below B w w' ∧ Oth b w w') := by
 obtain ⟨i0, hi, hz0, hz1, hz2⟩ := info_parts bextra.infoByte
 have hBb : B ≤ b := by rcases h with h | h <;> exact h.1
 go_enter Try.func49, Try.ntmps49
 go_wp2_with (go_at_call 63; refine (bld_check _ _ _ _ h).mono ?_)
 rintro e w1 ⟨rfl, h1, hw⟩
 have hs1 : w.heap.size = w1.heap.size := by
  rcases hw with rfl | rfl
  ·rfl
  ·simp
 have hb1 : Below B w w1 := by
  rcases hw with rfl | rfl
  ·exact Below.refl _ _
  ·exact (Below.refl B w).setCell (p := ⟨b, 0, none⟩) hBb _
 have hk1 : Oth b w w1 := by
  rcases hw with rfl | rfl
  ·exact Lib.OthersKept.refl _ _ _
  ·exact (Lib.OthersKept.refl _ _ w).setCell ⟨b, 0, none⟩ rfl _
 have hx1 : ∀ j u, (Lib.byteCells xs)[j]? = some u → w1.cell? (ad.add j) = some u := by
  intro j u hj
  rcases hw with rfl | rfl
  ·exact hx j u hj
  ·have hne : (ad.add j).block ≠ b := by unfold Addr.add; split <;> exact had
   exact (cell_far (p := ⟨b, 0, none⟩) hne _).trans (hx j u hj)
 clear hw hx h
 obtain ⟨hB, v, hbk, hown, hne⟩ := h1
 have c0 : w1.cell? ⟨b, 0, none⟩ = some (.pointer (some ⟨b, 0, none⟩)) := by rw [Lib.cell_of_heap hbk]; rfl
 have c1 : w1.cell? ⟨b, 1, none⟩ = some v := by rw [Lib.cell_of_heap hbk]; rfl
 have hll : (Lib.byteCells l).length = l.length := by simp [Lib.byteCells]
 have hxl : (Lib.byteCells xs).length = m := by simp [Lib.byteCells, hl]
 have h1c : ∀ u ∈ Lib.byteCells xs, u.oneCell' = true := by
  intro u hu
  simp [Lib.byteCells] at hu
  obtain ⟨x, _, rfl⟩ := hu
  rfl
 rw [hll] at hown
 have HS := Lib.hid hs1
 have HX := Lib.hid hx1
 have HLL := Lib.hid hll
 have HXL := Lib.hid hxl
 have HK := Lib.hid hk1
 clear hs1 hx1 hll hxl hk1
 go_wp2_with (at_builtin; refine wpList_append_ownF _ rfl _ _ 57 rfl B 5 i0 (.int .u8 0) 1 1 Try.underlying57 hi hz0 hz1 hz2 rfl (by decide) _ _ _ rfl hown ad m c (Lib.byteCells xs) rfl (by have := HXL.out; omega) HX.out h1c ?c3 ?c4 ?c5 ?_)
 case c3 => unfold maxLen; omega
 case c4 => omega
 case c5 => have := HS.out; omega
 intro v' w2 hown' hgrow _
 have hlt : b < w1.heap.size := by
  rcases Nat.lt_or_ge b w1.heap.size with h' | h'
  ·exact h'
  ·simp [Array.getElem?_eq_none h'] at hbk
 have hb2 : w2.heap[b]? = some (.cells #[.pointer (some ⟨b, 0, none⟩), v] 73 (0, 0)) := by
  rw [hgrow.block b hlt (fun e => hne e.symm)]
  exact hbk
 have d0 : w2.cell? ⟨b, 0, none⟩ = some (.pointer (some ⟨b, 0, none⟩)) := by rw [Lib.cell_of_heap hb2]; rfl
 have d1 : w2.cell? ⟨b, 1, none⟩ = some v := by rw [Lib.cell_of_heap hb2]; rfl
 have f1 : w2.frozen? ⟨b, 1, none⟩ = false := Lib.frozen_of_heap hb2 1
 obtain ⟨ao, n', cap, rfl⟩ : ∃ ao n' cap, v' = .slice ao n' cap := by
  rcases hown'.2 with ⟨hv, _⟩ | ⟨g, cap, cur, fz, hv, _⟩
  ·exact ⟨_, _, _, hv⟩
  ·exact ⟨_, _, _, hv⟩
 go_wp2
 go_ret2
 have e2 : Lib.byteCells (l ++ xs) = Lib.byteCells l ++ Lib.byteCells xs := by simp [Lib.byteCells]
 refine ⟨rfl, ?_, ?_, (HK.out.grown hgrow (Lib.ownsRowF_kind hown)).setCell ⟨b, 1, none⟩ rfl _⟩
 ·refine Or.inr ?_
  rw [e2]
  exact Lib.BuilderAtF.put (T := 73) (e := 5) hB hb2 (bs' := Lib.byteCells l ++ Lib.byteCells xs) (by simpa [HLL.out, HXL.out] using hown') (by decide)
 ·exact (hb1.grown hgrow (by have := hb1.size; omega) (fun k hk => (hown.lt k hk).1)).setCell (p := ⟨b, 1, none⟩) hB _

/-- A builder that nothing has touched. -/
theorem Bld.new (B : Nat) (w : World) (hB : B ≤ w.heap.size) : Bld B w.heap.size [] (w.alloc (.cells #[.pointer none, .slice none 0 0] 73)) := by
 refine Or.inl ⟨hB, .slice none 0 0, ?_, World.ownsRowF_nil _ _ _ _, by simp [Value.ownBlock]⟩
 show (w.heap.push _)[w.heap.size]? = _
 rw [Array.getElem?_push, if_pos rfl]
/-- A builder stays where all that was there stays. -/
theorem Bld.stays {B b : Nat} {l : List UInt8} {w w' : World} (h : Bld B b l w) (hs : ∀ k, k < w.heap.size → w'.heap[k]? = w.heap[k]?) : Bld B b l w' := by
 have key : ∀ p, Lib.BuilderAtF 73 5 B b p (Lib.byteCells l) w → Lib.BuilderAtF 73 5 B b p (Lib.byteCells l) w' := by
  rintro p ⟨hB, v, hb, hown, hne⟩
  have hlt : b < w.heap.size := (Array.getElem?_eq_some_iff.1 hb).1
  refine ⟨hB, v, by rw [hs b hlt]; exact hb, ?_, hne⟩
  obtain ⟨h1, h2⟩ := hown
  refine ⟨h1, ?_⟩
  rcases h2 with h2 | ⟨g, cap, cur, fz, hv, hg, hh, hr⟩
  ·exact .inl h2
  ·have hlt2 : g < w.heap.size := (Array.getElem?_eq_some_iff.1 hh).1
   exact .inr ⟨g, cap, cur, fz, hv, hg, by rw [hs g hlt2]; exact hh, hr⟩
 rcases h with h | h
 ·exact .inl (key _ h)
 ·exact .inr (key _ h)

end Go.Proofs.Ythblghfobnhoeaa.H
namespace Go.Proofs.Ythblghfobnhoeaa.H
open Go.RowKit Go.Proofs.YthblghfobnhoeaaW.PrintWords
set_option linter.unusedVariables false

/-- What dirrecord.Encode holds: the record at block R, the error at block W, the builder at block b; all of the call's own, made from world w0 on. -/
structure Enc (R W b : Nat) (cs : Array Value) (w0 w : World) (e : Int) (l : List UInt8) : Prop where
 rc : w.heap[R]? = some (.cells cs 31 (0, 0))
 wr : w.heap[W]? = some (.cells #[.int .i64 e] 32 (0, 0))
 bl : Bld w0.heap.size b l w
 be : Below w0.heap.size w0 w
 nR : R ≠ b
 nW : W ≠ b
 nRW : R ≠ W
 gW : w0.heap.size ≤ W

theorem Enc.stays {R W b : Nat} {cs : Array Value} {w0 w w' : World} {e : Int} {l : List UInt8} (h : Enc R W b cs w0 w e l) (hb : Below w.heap.size w w') : Enc R W b cs w0 w' e l where
 rc := by rw [hb.block R (Array.getElem?_eq_some_iff.1 h.rc).1]; exact h.rc
 wr := by rw [hb.block W (Array.getElem?_eq_some_iff.1 h.wr).1]; exact h.wr
 bl := h.bl.stays fun k hk => hb.block k hk
 be := h.be.trans (hb.mono h.be.size)
 nR := h.nR
 nW := h.nW
 nRW := h.nRW
 gW := h.gW
theorem Enc.alloc {R W b : Nat} {cs : Array Value} {w0 w : World} {e : Int} {l : List UInt8} (h : Enc R W b cs w0 w e l) (o : Obj) : Enc R W b cs w0 (w.alloc o) e l :=
 h.stays ((Below.refl _ _).alloc (Nat.le_refl _) _)
theorem Enc.drew {R W b : Nat} {cs : Array Value} {w0 w : World} {e : Int} {l : List UInt8} (h : Enc R W b cs w0 w e l) : Enc R W b cs w0 w.drew e l :=
 h.stays (Below.refl _ _).drew
theorem Enc.wrote {R W b : Nat} {cs : Array Value} {w0 w w' : World} {e : Int} {l l' : List UInt8} (h : Enc R W b cs w0 w e l) (hb : Bld w0.heap.size b l' w') (hk : Oth b w w') (hw : Below w0.heap.size w w') : Enc R W b cs w0 w' e l' where
 rc := hk R _ h.rc (by simp [h.nR]) (by intro c fz; simp)
 wr := hk W _ h.wr (by simp [h.nW]) (by intro c fz; simp)
 bl := hb
 be := h.be.trans hw
 nR := h.nR
 nW := h.nW
 nRW := h.nRW
 gW := h.gW
theorem blk_other {w : World} {k g : Nat} {o : Obj} (h : w.heap[k]? = some o) (hne : k ≠ g) (i : Nat) (v : Value) : (w.setCell ⟨g, i, none⟩ v).heap[k]? = some o := by
 rw [Below.heap_setCell _ _ _ _ hne]; exact h
theorem Enc.set {R W b : Nat} {cs : Array Value} {w0 w : World} {e : Int} {l : List UInt8} (h : Enc R W b cs w0 w e l) (e' : Int) : Enc R W b cs w0 (w.setCell ⟨W, 0, none⟩ (.int .i64 e')) e' l where
 rc := blk_other h.rc h.nRW _ _
 wr := blk_put h.wr 0 _ rfl
 bl := by
  have key : ∀ p, Lib.BuilderAtF 73 5 w0.heap.size b p (Lib.byteCells l) w → Lib.BuilderAtF 73 5 w0.heap.size b p (Lib.byteCells l) (w.setCell ⟨W, 0, none⟩ (.int .i64 e')) := by
   rintro p ⟨hB, v, hb, hown, hne⟩
   refine ⟨hB, v, blk_other hb h.nW.symm _ _, ?_, hne⟩
   obtain ⟨h1, h2⟩ := hown
   refine ⟨h1, ?_⟩
   rcases h2 with h2 | ⟨g, cap, cur, fz, hv, hg, hh, hr⟩
   ·exact .inl h2
   ·refine .inr ⟨g, cap, cur, fz, hv, hg, blk_other hh ?_ _ _, hr⟩
    rintro rfl
    rw [h.wr] at hh
    simp at hh
  rcases h.bl with h1 | h1
  ·exact .inl (key _ h1)
  ·exact .inr (key _ h1)
 be := h.be.setCell (p := ⟨W, 0, none⟩) h.gW _
 nR := h.nR
 nW := h.nW
 nRW := h.nRW
 gW := h.gW
theorem Enc.cellR {R W b : Nat} {cs : Array Value} {w0 w : World} {e : Int} {l : List UInt8} (h : Enc R W b cs w0 w e l) (i : Nat) : w.cell? ⟨R, i, none⟩ = cs[i]? := by
 simp [World.cell?, h.rc]
theorem Enc.cellW {R W b : Nat} {cs : Array Value} {w0 w : World} {e : Int} {l : List UInt8} (h : Enc R W b cs w0 w e l) : w.cell? ⟨W, 0, none⟩ = some (.int .i64 e) := by
 simp [World.cell?, h.wr]
theorem Enc.frozenW {R W b : Nat} {cs : Array Value} {w0 w : World} {e : Int} {l : List UInt8} (h : Enc R W b cs w0 w e l) : w.frozen? ⟨W, 0, none⟩ = false := by
 simp [World.frozen?, h.wr]
theorem Enc.base {R W b : Nat} {cs : Array Value} {w0 w : World} {e : Int} {l : List UInt8} (h : Enc R W b cs w0 w e l) : w0.heap.size ≤ w.heap.size := h.be.size

/-- An error that is nought leaves the elder one. -/
def ee (e e1 : Int) : Int := if e1 = 0 then e else e1

theorem enc_ws {R W b : Nat} {cs : Array Value} {w0 w : World} {e : Int} {l : List UInt8} (h : Enc R W b cs w0 w e l) (s : ByteArray) (hlen : l.length + s.size ≤ 140737488355328) :
  Calls Try.prog 39 #[.pointer (some ⟨b, 0, none⟩), .string s] w fun ev w' => ev = .returned (.tuple #[.int .i64 s.size, .nilIface]) ∧ Enc R W b cs w0 w' e (l ++ s.data.toList) ∧ Oth b w w' :=
 (bld_writeString _ _ _ _ _ h.bl hlen h.base).mono fun _ _ ⟨he, hb, hw, hk⟩ => ⟨he, h.wrote hb hk hw, hk⟩
theorem enc_wb {R W b : Nat} {cs : Array Value} {w0 w : World} {e : Int} {l : List UInt8} (h : Enc R W b cs w0 w e l) (c : UInt8) (v : Int) (hv : (c.toNat : Int) = v) (hlen : l.length + 1 ≤ 140737488355328) :
  Calls Try.prog 50 #[.pointer (some ⟨b, 0, none⟩), .int .u8 v] w fun ev w' => ev = .returned .nilIface ∧ Enc R W b cs w0 w' e (l ++ [c]) := by
 subst hv
 exact (bld_writeByte _ _ _ _ _ h.bl hlen h.base).mono fun _ _ ⟨he, hb, hw, hk⟩ => ⟨he, h.wrote hb hk hw⟩
theorem enc_w {R W b : Nat} {cs : Array Value} {w0 w : World} {e : Int} {l : List UInt8} (h : Enc R W b cs w0 w e l) (xs : List UInt8) (m : Nat) (hm : xs.length = m) (g c : Nat) (vs : Array Value) (hx : w.heap[g]? = some (.cells vs 5 (0, 0))) (hv : Lib.byteCells xs = vs.toList) (hg : g ≠ b) (hlen : l.length + m ≤ 140737488355328) :
  Calls Try.prog 49 #[.pointer (some ⟨b, 0, none⟩), .slice (some ⟨g, 0, none⟩) m c] w fun ev w' => ev = .returned (.tuple #[.int .i64 m, .nilIface]) ∧ Enc R W b cs w0 w' e (l ++ xs) := by
 subst hm
 refine (bld_write _ _ _ xs ⟨g, 0, none⟩ _ _ _ h.bl rfl ?_ hg hlen h.base).mono fun _ _ ⟨he, hb, hw, hk⟩ => ⟨he, h.wrote hb hk hw⟩
 intro j u hj
 have : (⟨g, 0, none⟩ : Addr).add j = ⟨g, j, none⟩ := by unfold Addr.add; split <;> simp_all
 rw [this]
 rw [hv] at hj
 simp [World.cell?, hx]
 simpa using hj

theorem Enc.start (cs : Array Value) (e : Int) (w w1 : World) (nd : Nat) (hb : Below (w.heap.size + 1) ((w.alloc (.cells cs 31)).drewN nd) w1) :
  Enc w.heap.size w1.heap.size (w1.heap.size + 1) cs w ((w1.alloc (.cells #[.int .i64 e] 32)).alloc (.cells #[.pointer none, .slice none 0 0] 73)) e [] := by
 have hs : w.heap.size + 1 ≤ w1.heap.size := by
  have := hb.size
  simpa [World.drewN] using this
 have hR : w1.heap[w.heap.size]? = some (.cells cs 31 (0, 0)) := by
  rw [hb.block _ (Nat.lt_succ_self _)]
  show (w.heap.push _)[w.heap.size]? = _
  rw [Array.getElem?_push, if_pos rfl]
 have hbe : Below w.heap.size w w1 := by
  refine Below.trans ((below_drewN ((Below.refl _ w).alloc (Nat.le_refl _) (.cells cs 31)) nd)) (hb.mono (by omega))
 refine ⟨?_, ?_, ?_, (hbe.alloc (by omega) _).alloc (by simp; omega) _, by omega, by omega, by omega, by omega⟩
 ·show ((w1.heap.push _).push _)[w.heap.size]? = _
  rw [Array.getElem?_push, if_neg (by simp; omega), Array.getElem?_push, if_neg (by omega)]
  exact hR
 ·show ((w1.heap.push _).push _)[w1.heap.size]? = _
  rw [Array.getElem?_push, if_neg (by simp), Array.getElem?_push, if_pos rfl]
 ·have := Bld.new w.heap.size (w1.alloc (.cells #[.int .i64 e] 32)) (by simp; omega)
  simpa using this

/-- A block that was just made. -/
theorem blk_new (w : World) (c : Array Value) (t : TypeId) : (w.alloc (.cells c t)).heap[w.heap.size]? = some (.cells c t (0, 0)) := by
 show (w.heap.push _)[w.heap.size]? = _
 rw [Array.getElem?_push, if_pos rfl]
theorem enc_wn {R W b : Nat} {cs : Array Value} {w0 w : World} {e : Int} {l : List UInt8} (h : Enc R W b cs w0 w e l) (xs : List UInt8) (m : Nat) (hm : xs.length = m) (g c : Nat) (hg : g = w.heap.size) (vs : Array Value) (hv : Lib.byteCells xs = vs.toList) (hb : b < g) (hlen : l.length + m ≤ 140737488355328) :
  Calls Try.prog 49 #[.pointer (some ⟨b, 0, none⟩), .slice (some ⟨g, 0, none⟩) m c] (w.alloc (.cells vs 5)) fun ev w' => ev = .returned (.tuple #[.int .i64 m, .nilIface]) ∧ Enc R W b cs w0 w' e (l ++ xs) := by
 subst hg
 exact enc_w (h.alloc _) xs m hm _ c vs (blk_new _ _ _) hv (by omega) hlen
theorem Enc.ltb {R W b : Nat} {cs : Array Value} {w0 w : World} {e : Int} {l : List UInt8} (h : Enc R W b cs w0 w e l) : b < w.heap.size := by
 rcases h.bl with h | h <;> exact h.lt
theorem Enc.ltW {R W b : Nat} {cs : Array Value} {w0 w : World} {e : Int} {l : List UInt8} (h : Enc R W b cs w0 w e l) : W < w.heap.size := (Array.getElem?_eq_some_iff.1 h.wr).1
theorem enc_str {R W b : Nat} {cs : Array Value} {w0 w : World} {e : Int} {l : List UInt8} (h : Enc R W b cs w0 w e l) :
  Calls Try.prog 41 #[.pointer (some ⟨b, 0, none⟩)] w fun ev w' => ev = .returned (.string ⟨l.toArray⟩) ∧ Below w0.heap.size w0 w' :=
 (bld_string _ _ _ _ h.bl h.base).mono fun _ _ ⟨he, hw⟩ => ⟨he, h.be.trans hw⟩

end Go.Proofs.Ythblghfobnhoeaa.H
namespace Go.Proofs.Ythblghfobnhoeaa.H
open Go.RowKit Go.Proofs.YthblghfobnhoeaaW.PrintWords
set_option linter.unusedVariables false

set_option maxRecDepth 100000 in
set_option maxHeartbeats 8000000 in
theorem enc1_twoz {R W b : Nat} {cs : Array Value} {w0 w : World} {e : Int} {l : List UInt8} (h : Enc R W b cs w0 w e l) (g : Nat) (n0 z0 : Int) (s0 : ByteArray)
  (hg : w.heap[g]? = some (.cells #[.int .i64 n0, .int .i64 z0] 3 (0, 0))) (gb : g ≠ b) (gW : g ≠ W) (hB0 : endian_Both.f n0 z0 = some (s0, 0)) (hs0 : s0.size ≤ 1000) (hl : l.length ≤ 1000000) :
  Calls Try.prog 47 #[.slice (some ⟨g, 0, none⟩) 2 2, .pointer (some ⟨W, 0, none⟩), .pointer (some ⟨b, 0, none⟩)] w fun ev w' => ev = .returned (.tuple #[]) ∧ Enc R W b cs w0 w' e (l ++ s0.data.toList) := by
 have c0 : w.cell? ⟨g, 0, none⟩ = some (.int .i64 n0) := by simp [World.cell?, hg]
 have c1 : w.cell? ⟨g, 1, none⟩ = some (.int .i64 z0) := by simp [World.cell?, hg]
 have v1 : IntKind.i64.wrap 1 = 1 := by decide
 have v2 : IntKind.i64.wrap 2 = 2 := by decide
 have v3 : IntKind.i64.wrap 3 = 3 := by decide
 have HG := Lib.hid hg
 have HB0 := Lib.hid hB0
 clear hg hB0
 go_enter Try.func47, Try.ntmps47
 go_wp2
 refine wp_loop_rounds 2 ?_
 rw [rounds_succ]
 go_wp2
 go_region_held3 (fun w' => w'.cell? ⟨g, 0, none⟩ = some (.int .i64 n0) ∧ w'.cell? ⟨g, 1, none⟩ = some (.int .i64 z0)) (first | go_keep | (go_split_ands; refine ⟨?_, ?_⟩ <;> (rw [hb0.cell (World.block_lt_of_cell? _ _ (by assumption))]; assumption)))
  (first | (go_at_call 48; refine (endian_Both.calls _ _ _ _ _ HB0.out).mono ?_; rintro ev wa0 ⟨rfl, hb0⟩))
 have ha0 := h.drew.stays hb0
 have hc0 := ha0
 go_wp2_with fail
 refine (enc_ws hc0 s0 (by omega)).mono ?_
 rintro ev wb0 ⟨rfl, hd0, hk0⟩
 clear hk0 hb0
 go_wp2
 rw [rounds_succ]
 go_wp2
 go_end0
 exact ⟨rfl, hd0⟩

set_option maxRecDepth 100000 in
set_option maxHeartbeats 8000000 in
theorem enc1_twoe {R W b : Nat} {cs : Array Value} {w0 w : World} {e : Int} {l : List UInt8} (h : Enc R W b cs w0 w e l) (g : Nat) (n0 z0 e0 : Int) (s0 : ByteArray)
  (hg : w.heap[g]? = some (.cells #[.int .i64 n0, .int .i64 z0] 3 (0, 0))) (gb : g ≠ b) (gW : g ≠ W) (hB0 : endian_Both.f n0 z0 = some (s0, e0)) (hs0 : s0.size ≤ 1000) (hn0 : (e0 != 0) = true) (hl : l.length ≤ 1000000) :
  Calls Try.prog 47 #[.slice (some ⟨g, 0, none⟩) 2 2, .pointer (some ⟨W, 0, none⟩), .pointer (some ⟨b, 0, none⟩)] w fun ev w' => ev = .returned (.tuple #[]) ∧ Enc R W b cs w0 w' e0 (l ++ s0.data.toList) := by
 have c0 : w.cell? ⟨g, 0, none⟩ = some (.int .i64 n0) := by simp [World.cell?, hg]
 have c1 : w.cell? ⟨g, 1, none⟩ = some (.int .i64 z0) := by simp [World.cell?, hg]
 have v1 : IntKind.i64.wrap 1 = 1 := by decide
 have v2 : IntKind.i64.wrap 2 = 2 := by decide
 have v3 : IntKind.i64.wrap 3 = 3 := by decide
 have HG := Lib.hid hg
 have HB0 := Lib.hid hB0
 clear hg hB0
 go_enter Try.func47, Try.ntmps47
 go_wp2
 refine wp_loop_rounds 2 ?_
 rw [rounds_succ]
 go_wp2
 go_region_held3 (fun w' => w'.cell? ⟨g, 0, none⟩ = some (.int .i64 n0) ∧ w'.cell? ⟨g, 1, none⟩ = some (.int .i64 z0)) (first | go_keep | (go_split_ands; refine ⟨?_, ?_⟩ <;> (rw [hb0.cell (World.block_lt_of_cell? _ _ (by assumption))]; assumption)))
  (first | (go_at_call 48; refine (endian_Both.calls _ _ _ _ _ HB0.out).mono ?_; rintro ev wa0 ⟨rfl, hb0⟩))
 have ha0 := h.drew.stays hb0
 have cW0 := ha0.cellW
 have fW0 := ha0.frozenW
 have hc0 := ha0.set e0
 go_wp2_with fail
 refine (enc_ws hc0 s0 (by omega)).mono ?_
 rintro ev wb0 ⟨rfl, hd0, hk0⟩
 clear hk0 hb0 cW0 fW0
 go_wp2
 rw [rounds_succ]
 go_wp2
 go_end0
 exact ⟨rfl, hd0⟩

set_option maxRecDepth 100000 in
set_option maxHeartbeats 8000000 in
theorem enc1_fourzz {R W b : Nat} {cs : Array Value} {w0 w : World} {e : Int} {l : List UInt8} (h : Enc R W b cs w0 w e l) (g : Nat) (n0 z0 n1 z1 : Int) (s0 s1 : ByteArray)
  (hg : w.heap[g]? = some (.cells #[.int .i64 n0, .int .i64 z0, .int .i64 n1, .int .i64 z1] 3 (0, 0))) (gb : g ≠ b) (gW : g ≠ W) (hB0 : endian_Both.f n0 z0 = some (s0, 0)) (hs0 : s0.size ≤ 1000) (hB1 : endian_Both.f n1 z1 = some (s1, 0)) (hs1 : s1.size ≤ 1000) (hl : l.length ≤ 1000000) :
  Calls Try.prog 47 #[.slice (some ⟨g, 0, none⟩) 4 4, .pointer (some ⟨W, 0, none⟩), .pointer (some ⟨b, 0, none⟩)] w fun ev w' => ev = .returned (.tuple #[]) ∧ Enc R W b cs w0 w' e ((l ++ s0.data.toList) ++ s1.data.toList) := by
 have c0 : w.cell? ⟨g, 0, none⟩ = some (.int .i64 n0) := by simp [World.cell?, hg]
 have c1 : w.cell? ⟨g, 1, none⟩ = some (.int .i64 z0) := by simp [World.cell?, hg]
 have c2 : w.cell? ⟨g, 2, none⟩ = some (.int .i64 n1) := by simp [World.cell?, hg]
 have c3 : w.cell? ⟨g, 3, none⟩ = some (.int .i64 z1) := by simp [World.cell?, hg]
 have v1 : IntKind.i64.wrap 1 = 1 := by decide
 have v2 : IntKind.i64.wrap 2 = 2 := by decide
 have v3 : IntKind.i64.wrap 3 = 3 := by decide
 have v4 : IntKind.i64.wrap 4 = 4 := by decide
 have v5 : IntKind.i64.wrap 5 = 5 := by decide
 have HG := Lib.hid hg
 have HB0 := Lib.hid hB0
 have HB1 := Lib.hid hB1
 clear hg hB0 hB1
 go_enter Try.func47, Try.ntmps47
 go_wp2
 refine wp_loop_rounds 3 ?_
 rw [rounds_succ]
 go_wp2
 go_region_held3 (fun w' => w'.cell? ⟨g, 0, none⟩ = some (.int .i64 n0) ∧ w'.cell? ⟨g, 1, none⟩ = some (.int .i64 z0)) (first | go_keep | (go_split_ands; refine ⟨?_, ?_⟩ <;> (rw [hb0.cell (World.block_lt_of_cell? _ _ (by assumption))]; assumption)))
  (first | (go_at_call 48; refine (endian_Both.calls _ _ _ _ _ HB0.out).mono ?_; rintro ev wa0 ⟨rfl, hb0⟩))
 have ha0 := h.drew.stays hb0
 have HGa := Lib.hid ((hb0.block g (Array.getElem?_eq_some_iff.1 HG.out).1).trans HG.out)
 have hc0 := ha0
 go_wp2_with fail
 refine (enc_ws hc0 s0 (by omega)).mono ?_
 rintro ev wb0 ⟨rfl, hd0, hk0⟩
 have HGb : Hid _ := Lib.hid (hk0 g _ HGa.out (by simp [gb]) (by intro c fz; simp))
 have d2 : wb0.cell? ⟨g, 2, none⟩ = some (.int .i64 n1) := by simp [World.cell?, HGb.out]
 have d3 : wb0.cell? ⟨g, 3, none⟩ = some (.int .i64 z1) := by simp [World.cell?, HGb.out]
 clear c0 c1 c2 c3
 clear hk0 hb0
 go_wp2
 rw [rounds_succ]
 go_wp2
 go_region_held3 (fun w' => w'.cell? ⟨g, 2, none⟩ = some (.int .i64 n1) ∧ w'.cell? ⟨g, 3, none⟩ = some (.int .i64 z1)) (first | go_keep | (go_split_ands; refine ⟨?_, ?_⟩ <;> (rw [hb1.cell (World.block_lt_of_cell? _ _ (by assumption))]; assumption)))
  (first | (go_at_call 48; refine (endian_Both.calls _ _ _ _ _ HB1.out).mono ?_; rintro ev wa1 ⟨rfl, hb1⟩))
 have ha1 := hd0.drew.stays hb1
 have hc1 := ha1
 go_wp2_with fail
 refine (enc_ws hc1 s1 (by have hq : (l ++ s0.data.toList).length = l.length + s0.size := List.length_append ; omega)).mono ?_
 rintro ev wb1 ⟨rfl, hd1, hk1⟩
 clear hk1 hb1
 go_wp2
 rw [rounds_succ]
 go_wp2
 go_end0
 exact ⟨rfl, hd1⟩

set_option maxRecDepth 100000 in
set_option maxHeartbeats 8000000 in
theorem enc1_fourze {R W b : Nat} {cs : Array Value} {w0 w : World} {e : Int} {l : List UInt8} (h : Enc R W b cs w0 w e l) (g : Nat) (n0 z0 n1 z1 e1 : Int) (s0 s1 : ByteArray)
  (hg : w.heap[g]? = some (.cells #[.int .i64 n0, .int .i64 z0, .int .i64 n1, .int .i64 z1] 3 (0, 0))) (gb : g ≠ b) (gW : g ≠ W) (hB0 : endian_Both.f n0 z0 = some (s0, 0)) (hs0 : s0.size ≤ 1000) (hB1 : endian_Both.f n1 z1 = some (s1, e1)) (hs1 : s1.size ≤ 1000) (hn1 : (e1 != 0) = true) (hl : l.length ≤ 1000000) :
  Calls Try.prog 47 #[.slice (some ⟨g, 0, none⟩) 4 4, .pointer (some ⟨W, 0, none⟩), .pointer (some ⟨b, 0, none⟩)] w fun ev w' => ev = .returned (.tuple #[]) ∧ Enc R W b cs w0 w' e1 ((l ++ s0.data.toList) ++ s1.data.toList) := by
 have c0 : w.cell? ⟨g, 0, none⟩ = some (.int .i64 n0) := by simp [World.cell?, hg]
 have c1 : w.cell? ⟨g, 1, none⟩ = some (.int .i64 z0) := by simp [World.cell?, hg]
 have c2 : w.cell? ⟨g, 2, none⟩ = some (.int .i64 n1) := by simp [World.cell?, hg]
 have c3 : w.cell? ⟨g, 3, none⟩ = some (.int .i64 z1) := by simp [World.cell?, hg]
 have v1 : IntKind.i64.wrap 1 = 1 := by decide
 have v2 : IntKind.i64.wrap 2 = 2 := by decide
 have v3 : IntKind.i64.wrap 3 = 3 := by decide
 have v4 : IntKind.i64.wrap 4 = 4 := by decide
 have v5 : IntKind.i64.wrap 5 = 5 := by decide
 have HG := Lib.hid hg
 have HB0 := Lib.hid hB0
 have HB1 := Lib.hid hB1
 clear hg hB0 hB1
 go_enter Try.func47, Try.ntmps47
 go_wp2
 refine wp_loop_rounds 3 ?_
 rw [rounds_succ]
 go_wp2
 go_region_held3 (fun w' => w'.cell? ⟨g, 0, none⟩ = some (.int .i64 n0) ∧ w'.cell? ⟨g, 1, none⟩ = some (.int .i64 z0)) (first | go_keep | (go_split_ands; refine ⟨?_, ?_⟩ <;> (rw [hb0.cell (World.block_lt_of_cell? _ _ (by assumption))]; assumption)))
  (first | (go_at_call 48; refine (endian_Both.calls _ _ _ _ _ HB0.out).mono ?_; rintro ev wa0 ⟨rfl, hb0⟩))
 have ha0 := h.drew.stays hb0
 have HGa := Lib.hid ((hb0.block g (Array.getElem?_eq_some_iff.1 HG.out).1).trans HG.out)
 have hc0 := ha0
 go_wp2_with fail
 refine (enc_ws hc0 s0 (by omega)).mono ?_
 rintro ev wb0 ⟨rfl, hd0, hk0⟩
 have HGb : Hid _ := Lib.hid (hk0 g _ HGa.out (by simp [gb]) (by intro c fz; simp))
 have d2 : wb0.cell? ⟨g, 2, none⟩ = some (.int .i64 n1) := by simp [World.cell?, HGb.out]
 have d3 : wb0.cell? ⟨g, 3, none⟩ = some (.int .i64 z1) := by simp [World.cell?, HGb.out]
 clear c0 c1 c2 c3
 clear hk0 hb0
 go_wp2
 rw [rounds_succ]
 go_wp2
 go_region_held3 (fun w' => w'.cell? ⟨g, 2, none⟩ = some (.int .i64 n1) ∧ w'.cell? ⟨g, 3, none⟩ = some (.int .i64 z1)) (first | go_keep | (go_split_ands; refine ⟨?_, ?_⟩ <;> (rw [hb1.cell (World.block_lt_of_cell? _ _ (by assumption))]; assumption)))
  (first | (go_at_call 48; refine (endian_Both.calls _ _ _ _ _ HB1.out).mono ?_; rintro ev wa1 ⟨rfl, hb1⟩))
 have ha1 := hd0.drew.stays hb1
 have cW1 := ha1.cellW
 have fW1 := ha1.frozenW
 have hc1 := ha1.set e1
 go_wp2_with fail
 refine (enc_ws hc1 s1 (by have hq : (l ++ s0.data.toList).length = l.length + s0.size := List.length_append ; omega)).mono ?_
 rintro ev wb1 ⟨rfl, hd1, hk1⟩
 clear hk1 hb1 cW1 fW1
 go_wp2
 rw [rounds_succ]
 go_wp2
 go_end0
 exact ⟨rfl, hd1⟩

set_option maxRecDepth 100000 in
set_option maxHeartbeats 8000000 in
theorem enc1_fourez {R W b : Nat} {cs : Array Value} {w0 w : World} {e : Int} {l : List UInt8} (h : Enc R W b cs w0 w e l) (g : Nat) (n0 z0 n1 z1 e0 : Int) (s0 s1 : ByteArray)
  (hg : w.heap[g]? = some (.cells #[.int .i64 n0, .int .i64 z0, .int .i64 n1, .int .i64 z1] 3 (0, 0))) (gb : g ≠ b) (gW : g ≠ W) (hB0 : endian_Both.f n0 z0 = some (s0, e0)) (hs0 : s0.size ≤ 1000) (hB1 : endian_Both.f n1 z1 = some (s1, 0)) (hs1 : s1.size ≤ 1000) (hn0 : (e0 != 0) = true) (hl : l.length ≤ 1000000) :
  Calls Try.prog 47 #[.slice (some ⟨g, 0, none⟩) 4 4, .pointer (some ⟨W, 0, none⟩), .pointer (some ⟨b, 0, none⟩)] w fun ev w' => ev = .returned (.tuple #[]) ∧ Enc R W b cs w0 w' e0 ((l ++ s0.data.toList) ++ s1.data.toList) := by
 have c0 : w.cell? ⟨g, 0, none⟩ = some (.int .i64 n0) := by simp [World.cell?, hg]
 have c1 : w.cell? ⟨g, 1, none⟩ = some (.int .i64 z0) := by simp [World.cell?, hg]
 have c2 : w.cell? ⟨g, 2, none⟩ = some (.int .i64 n1) := by simp [World.cell?, hg]
 have c3 : w.cell? ⟨g, 3, none⟩ = some (.int .i64 z1) := by simp [World.cell?, hg]
 have v1 : IntKind.i64.wrap 1 = 1 := by decide
 have v2 : IntKind.i64.wrap 2 = 2 := by decide
 have v3 : IntKind.i64.wrap 3 = 3 := by decide
 have v4 : IntKind.i64.wrap 4 = 4 := by decide
 have v5 : IntKind.i64.wrap 5 = 5 := by decide
 have HG := Lib.hid hg
 have HB0 := Lib.hid hB0
 have HB1 := Lib.hid hB1
 clear hg hB0 hB1
 go_enter Try.func47, Try.ntmps47
 go_wp2
 refine wp_loop_rounds 3 ?_
 rw [rounds_succ]
 go_wp2
 go_region_held3 (fun w' => w'.cell? ⟨g, 0, none⟩ = some (.int .i64 n0) ∧ w'.cell? ⟨g, 1, none⟩ = some (.int .i64 z0)) (first | go_keep | (go_split_ands; refine ⟨?_, ?_⟩ <;> (rw [hb0.cell (World.block_lt_of_cell? _ _ (by assumption))]; assumption)))
  (first | (go_at_call 48; refine (endian_Both.calls _ _ _ _ _ HB0.out).mono ?_; rintro ev wa0 ⟨rfl, hb0⟩))
 have ha0 := h.drew.stays hb0
 have HGa := Lib.hid ((hb0.block g (Array.getElem?_eq_some_iff.1 HG.out).1).trans HG.out)
 have cW0 := ha0.cellW
 have fW0 := ha0.frozenW
 have hc0 := ha0.set e0
 go_wp2_with fail
 refine (enc_ws hc0 s0 (by omega)).mono ?_
 rintro ev wb0 ⟨rfl, hd0, hk0⟩
 have HGb : Hid _ := Lib.hid (hk0 g _ (blk_other HGa.out gW 0 (.int .i64 e0)) (by simp [gb]) (by intro c fz; simp))
 have d2 : wb0.cell? ⟨g, 2, none⟩ = some (.int .i64 n1) := by simp [World.cell?, HGb.out]
 have d3 : wb0.cell? ⟨g, 3, none⟩ = some (.int .i64 z1) := by simp [World.cell?, HGb.out]
 clear c0 c1 c2 c3
 clear hk0 hb0 cW0 fW0
 go_wp2
 rw [rounds_succ]
 go_wp2
 go_region_held3 (fun w' => w'.cell? ⟨g, 2, none⟩ = some (.int .i64 n1) ∧ w'.cell? ⟨g, 3, none⟩ = some (.int .i64 z1)) (first | go_keep | (go_split_ands; refine ⟨?_, ?_⟩ <;> (rw [hb1.cell (World.block_lt_of_cell? _ _ (by assumption))]; assumption)))
  (first | (go_at_call 48; refine (endian_Both.calls _ _ _ _ _ HB1.out).mono ?_; rintro ev wa1 ⟨rfl, hb1⟩))
 have ha1 := hd0.drew.stays hb1
 have hc1 := ha1
 go_wp2_with fail
 refine (enc_ws hc1 s1 (by have hq : (l ++ s0.data.toList).length = l.length + s0.size := List.length_append ; omega)).mono ?_
 rintro ev wb1 ⟨rfl, hd1, hk1⟩
 clear hk1 hb1
 go_wp2
 rw [rounds_succ]
 go_wp2
 go_end0
 exact ⟨rfl, hd1⟩

set_option maxRecDepth 100000 in
set_option maxHeartbeats 8000000 in
theorem enc1_fouree {R W b : Nat} {cs : Array Value} {w0 w : World} {e : Int} {l : List UInt8} (h : Enc R W b cs w0 w e l) (g : Nat) (n0 z0 n1 z1 e0 e1 : Int) (s0 s1 : ByteArray)
  (hg : w.heap[g]? = some (.cells #[.int .i64 n0, .int .i64 z0, .int .i64 n1, .int .i64 z1] 3 (0, 0))) (gb : g ≠ b) (gW : g ≠ W) (hB0 : endian_Both.f n0 z0 = some (s0, e0)) (hs0 : s0.size ≤ 1000) (hB1 : endian_Both.f n1 z1 = some (s1, e1)) (hs1 : s1.size ≤ 1000) (hn0 : (e0 != 0) = true) (hn1 : (e1 != 0) = true) (hl : l.length ≤ 1000000) :
  Calls Try.prog 47 #[.slice (some ⟨g, 0, none⟩) 4 4, .pointer (some ⟨W, 0, none⟩), .pointer (some ⟨b, 0, none⟩)] w fun ev w' => ev = .returned (.tuple #[]) ∧ Enc R W b cs w0 w' e1 ((l ++ s0.data.toList) ++ s1.data.toList) := by
 have c0 : w.cell? ⟨g, 0, none⟩ = some (.int .i64 n0) := by simp [World.cell?, hg]
 have c1 : w.cell? ⟨g, 1, none⟩ = some (.int .i64 z0) := by simp [World.cell?, hg]
 have c2 : w.cell? ⟨g, 2, none⟩ = some (.int .i64 n1) := by simp [World.cell?, hg]
 have c3 : w.cell? ⟨g, 3, none⟩ = some (.int .i64 z1) := by simp [World.cell?, hg]
 have v1 : IntKind.i64.wrap 1 = 1 := by decide
 have v2 : IntKind.i64.wrap 2 = 2 := by decide
 have v3 : IntKind.i64.wrap 3 = 3 := by decide
 have v4 : IntKind.i64.wrap 4 = 4 := by decide
 have v5 : IntKind.i64.wrap 5 = 5 := by decide
 have HG := Lib.hid hg
 have HB0 := Lib.hid hB0
 have HB1 := Lib.hid hB1
 clear hg hB0 hB1
 go_enter Try.func47, Try.ntmps47
 go_wp2
 refine wp_loop_rounds 3 ?_
 rw [rounds_succ]
 go_wp2
 go_region_held3 (fun w' => w'.cell? ⟨g, 0, none⟩ = some (.int .i64 n0) ∧ w'.cell? ⟨g, 1, none⟩ = some (.int .i64 z0)) (first | go_keep | (go_split_ands; refine ⟨?_, ?_⟩ <;> (rw [hb0.cell (World.block_lt_of_cell? _ _ (by assumption))]; assumption)))
  (first | (go_at_call 48; refine (endian_Both.calls _ _ _ _ _ HB0.out).mono ?_; rintro ev wa0 ⟨rfl, hb0⟩))
 have ha0 := h.drew.stays hb0
 have HGa := Lib.hid ((hb0.block g (Array.getElem?_eq_some_iff.1 HG.out).1).trans HG.out)
 have cW0 := ha0.cellW
 have fW0 := ha0.frozenW
 have hc0 := ha0.set e0
 go_wp2_with fail
 refine (enc_ws hc0 s0 (by omega)).mono ?_
 rintro ev wb0 ⟨rfl, hd0, hk0⟩
 have HGb : Hid _ := Lib.hid (hk0 g _ (blk_other HGa.out gW 0 (.int .i64 e0)) (by simp [gb]) (by intro c fz; simp))
 have d2 : wb0.cell? ⟨g, 2, none⟩ = some (.int .i64 n1) := by simp [World.cell?, HGb.out]
 have d3 : wb0.cell? ⟨g, 3, none⟩ = some (.int .i64 z1) := by simp [World.cell?, HGb.out]
 clear c0 c1 c2 c3
 clear hk0 hb0 cW0 fW0
 go_wp2
 rw [rounds_succ]
 go_wp2
 go_region_held3 (fun w' => w'.cell? ⟨g, 2, none⟩ = some (.int .i64 n1) ∧ w'.cell? ⟨g, 3, none⟩ = some (.int .i64 z1)) (first | go_keep | (go_split_ands; refine ⟨?_, ?_⟩ <;> (rw [hb1.cell (World.block_lt_of_cell? _ _ (by assumption))]; assumption)))
  (first | (go_at_call 48; refine (endian_Both.calls _ _ _ _ _ HB1.out).mono ?_; rintro ev wa1 ⟨rfl, hb1⟩))
 have ha1 := hd0.drew.stays hb1
 have cW1 := ha1.cellW
 have fW1 := ha1.frozenW
 have hc1 := ha1.set e1
 go_wp2_with fail
 refine (enc_ws hc1 s1 (by have hq : (l ++ s0.data.toList).length = l.length + s0.size := List.length_append ; omega)).mono ?_
 rintro ev wb1 ⟨rfl, hd1, hk1⟩
 clear hk1 hb1 cW1 fW1
 go_wp2
 rw [rounds_succ]
 go_wp2
 go_end0
 exact ⟨rfl, hd1⟩

theorem enc1_2 {R W b : Nat} {cs : Array Value} {w0 w : World} {e : Int} {l : List UInt8} (h : Enc R W b cs w0 w e l) (g : Nat) (n z e1 : Int) (s : ByteArray)
  (hg : w.heap[g]? = some (.cells #[.int .i64 n, .int .i64 z] 3 (0, 0))) (gb : g ≠ b) (gW : g ≠ W) (hB : endian_Both.f n z = some (s, e1)) (hs : s.size ≤ 1000) (hl : l.length ≤ 1000000) :
  Calls Try.prog 47 #[.slice (some ⟨g, 0, none⟩) 2 2, .pointer (some ⟨W, 0, none⟩), .pointer (some ⟨b, 0, none⟩)] w fun ev w' => ev = .returned (.tuple #[]) ∧ Enc R W b cs w0 w' (ee e e1) (l ++ s.data.toList) := by
 unfold ee
 by_cases h1 : e1 = 0
 ·subst h1
  rw [if_pos rfl]
  exact enc1_twoz h g n z s hg gb gW hB hs hl
 ·rw [if_neg h1]
  exact enc1_twoe h g n z e1 s hg gb gW hB hs (by simpa using h1) hl
theorem enc1_4 {R W b : Nat} {cs : Array Value} {w0 w : World} {e : Int} {l : List UInt8} (h : Enc R W b cs w0 w e l) (g : Nat) (n0 z0 n1 z1 e0 e1 : Int) (s0 s1 : ByteArray)
  (hg : w.heap[g]? = some (.cells #[.int .i64 n0, .int .i64 z0, .int .i64 n1, .int .i64 z1] 3 (0, 0))) (gb : g ≠ b) (gW : g ≠ W)
  (hB0 : endian_Both.f n0 z0 = some (s0, e0)) (hs0 : s0.size ≤ 1000) (hB1 : endian_Both.f n1 z1 = some (s1, e1)) (hs1 : s1.size ≤ 1000) (hl : l.length ≤ 1000000) :
  Calls Try.prog 47 #[.slice (some ⟨g, 0, none⟩) 4 4, .pointer (some ⟨W, 0, none⟩), .pointer (some ⟨b, 0, none⟩)] w fun ev w' => ev = .returned (.tuple #[]) ∧ Enc R W b cs w0 w' (ee (ee e e0) e1) ((l ++ s0.data.toList) ++ s1.data.toList) := by
 unfold ee
 by_cases h0 : e0 = 0
 ·subst h0
  rw [if_pos rfl]
  by_cases h1 : e1 = 0
  ·subst h1
   rw [if_pos rfl]
   exact enc1_fourzz h g n0 z0 n1 z1 s0 s1 hg gb gW hB0 hs0 hB1 hs1 hl
  ·rw [if_neg h1]
   exact enc1_fourze h g n0 z0 n1 z1 e1 s0 s1 hg gb gW hB0 hs0 hB1 hs1 (by simpa using h1) hl
 ·rw [if_neg h0]
  by_cases h1 : e1 = 0
  ·subst h1
   rw [if_pos rfl]
   exact enc1_fourez h g n0 z0 n1 z1 e0 s0 s1 hg gb gW hB0 hs0 hB1 hs1 (by simpa using h0) hl
  ·rw [if_neg h1]
   exact enc1_fouree h g n0 z0 n1 z1 e0 e1 s0 s1 hg gb gW hB0 hs0 hB1 hs1 (by simpa using h0) (by simpa using h1) hl

end Go.Proofs.Ythblghfobnhoeaa.H
namespace Go.Proofs.Ythblghfobnhoeaa.H
open Go.RowKit Go.Proofs.YthblghfobnhoeaaW.PrintWords
set_option linter.unusedVariables false
set_option linter.unusedSimpArgs false

/-! strings.IndexAny(s, ".;") at any string. -/
def dotSemi : ByteArray := ⟨#[46, 59]⟩

set_option maxRecDepth 100000 in
set_option maxHeartbeats 4000000 in
theorem idx_hi2 (r : Int) (w : World) (E : ByteArray) (v : Int) (he : Utf8.encode r = E) (hz : E.size = 2) (hv1 : ∀ h : 1 < E.size, ((E[1]'h).toNat : Int) = v) (hb : 128 ≤ v) (c0 : decide (r < 128) = false) (c1 : decide (0 ≤ r) = true) (c2 : (r == 65533) = false) (hv : ∀ w, Calls Try.prog 79 #[.int .i32 r] w fun e w' => e = .returned (.bool true) ∧ w' = w) :
    Calls Try.prog 57 #[.string dotSemi, .int .i32 r] w fun e w' => e = .returned (.int .i64 (-1)) ∧ ∃ n, w' = w.drewN n := by
  have hs : dotSemi.size = 2 := rfl
  have hne : ((59 : Int) != v) = true := bne_iff_ne.2 (by omega)
  have hcv := fun W => run_convert_int_string (P := Try.prog) W 21 9 .i32 r (by rw [Try.underlying21]; rfl) Try.underlying9
  simp only [he] at hcv
  have hx1 : ∀ h : 1 < dotSemi.size, ((dotSemi[1]'h).toNat : Int) = 59 := fun _ => rfl
  have w2 : IntKind.i64.wrap 2 = 2 := by decide
  have hib : ∀ W, Calls Try.prog 78 #[.string ByteArray.empty, .int .u8 v] W fun e w' => e = .returned (.int .i64 (-1)) ∧ w' = W := fun W => (Try.strings_IndexByte _ _ _).mono fun e w' h => by obtain ⟨rfl, rfl⟩ := h; exact ⟨rfl, rfl⟩
  go_enter Try.func57, Try.ntmps57
  go_wp2_with (first | (go_at_call 79; refine (hv _).mono ?_; rintro e w' ⟨rfl, rfl⟩) | fail)
  go_step3
  go_wp2_with fail
  refine wp_loop_rounds 1 ?_
  rw [rounds_succ]
  go_wp2_with fail
  go_step3
  go_wp2_with fail
  go_quiet (fail)
  go_wp2_with fail
  go_quiet ((go_at_call 78; exact (hib _).mono fun e w'' h => ⟨h.1, _, h.2⟩))
  go_wp2_with fail
  dsimp only [Exit.noGoto]
  go_wp2_with fail
  try dsimp only [Exit.noGoto]
  try go_wp2_with fail
  go_ret
  exact ⟨rfl, _, rfl⟩

set_option maxRecDepth 100000 in
set_option maxHeartbeats 4000000 in
theorem idx_hi3 (r : Int) (w : World) (E : ByteArray) (he : Utf8.encode r = E) (hz : E.size = 3) (c0 : decide (r < 128) = false) (c1 : decide (0 ≤ r) = true) (c2 : (r == 65533) = false) (hv : ∀ w, Calls Try.prog 79 #[.int .i32 r] w fun e w' => e = .returned (.bool true) ∧ w' = w) :
    Calls Try.prog 57 #[.string dotSemi, .int .i32 r] w fun e w' => e = .returned (.int .i64 (-1)) ∧ ∃ n, w' = w.drewN n := by
  have hs : dotSemi.size = 2 := rfl
  have hcv := fun W => run_convert_int_string (P := Try.prog) W 21 9 .i32 r (by rw [Try.underlying21]; rfl) Try.underlying9
  simp only [he] at hcv
  go_enter Try.func57, Try.ntmps57
  go_wp2_with (first | (go_at_call 79; refine (hv _).mono ?_; rintro e w' ⟨rfl, rfl⟩) | fail)
  go_step3
  go_wp2_with fail
  refine wp_loop_rounds 1 ?_
  rw [rounds_succ]
  go_wp2_with fail
  try dsimp only [Exit.noGoto]
  try go_wp2_with fail
  go_ret
  exact ⟨rfl, 0, rfl⟩

set_option maxRecDepth 100000 in
set_option maxHeartbeats 4000000 in
theorem idx_hi4 (r : Int) (w : World) (E : ByteArray) (he : Utf8.encode r = E) (hz : E.size = 4) (c0 : decide (r < 128) = false) (c1 : decide (0 ≤ r) = true) (c2 : (r == 65533) = false) (hv : ∀ w, Calls Try.prog 79 #[.int .i32 r] w fun e w' => e = .returned (.bool true) ∧ w' = w) :
    Calls Try.prog 57 #[.string dotSemi, .int .i32 r] w fun e w' => e = .returned (.int .i64 (-1)) ∧ ∃ n, w' = w.drewN n := by
  have hs : dotSemi.size = 2 := rfl
  have hcv := fun W => run_convert_int_string (P := Try.prog) W 21 9 .i32 r (by rw [Try.underlying21]; rfl) Try.underlying9
  simp only [he] at hcv
  go_enter Try.func57, Try.ntmps57
  go_wp2_with (first | (go_at_call 79; refine (hv _).mono ?_; rintro e w' ⟨rfl, rfl⟩) | fail)
  go_step3
  go_wp2_with fail
  refine wp_loop_rounds 1 ?_
  rw [rounds_succ]
  go_wp2_with fail
  try dsimp only [Exit.noGoto]
  try go_wp2_with fail
  go_ret
  exact ⟨rfl, 0, rfl⟩

set_option maxRecDepth 100000 in
set_option maxHeartbeats 4000000 in
theorem idx_err (w : World) : Calls Try.prog 57 #[.string dotSemi, .int .i32 65533] w fun e w' => e = .returned (.int .i64 (-1)) ∧ Below w.heap.size w w' := by
  have hs : dotSemi.size = 2 := rfl
  have n0 := fun ty => run_next_ascii (P := Try.prog) w dotSemi 0 ty (by decide) (by decide)
  have n1 := fun ty => run_next_ascii (P := Try.prog) w dotSemi 1 ty (by decide) (by decide)
  have n2 := run_next_end (P := Try.prog) w dotSemi 2
  go_enter Try.func57, Try.ntmps57
  go_wp2_with fail
  refine wp_loop_rounds 3 ?_
  rw [rounds_succ]
  go_wp2_with fail
  rw [rounds_succ]
  go_wp2_with fail
  rw [rounds_succ]
  go_wp2_with fail
  go_ret
  exact ⟨rfl, (Below.refl _ _).alloc (Nat.le_refl _) _⟩
end Go.Proofs.Ythblghfobnhoeaa.H
namespace Go.Proofs.Ythblghfobnhoeaa.H
open Go.RowKit Go.Proofs.YthblghfobnhoeaaW.PrintWords
set_option linter.unusedVariables false
set_option linter.unusedSimpArgs false

/-! A rune that stands in a string, its first byte high: it is a rune, and all its bytes are high. -/
theorem get_k (s : ByteArray) (i : Nat) (h : i < s.size) : s.get! i = s[i]'h := by
  simp [ByteArray.get!, getElem!_pos, h]
  rfl
theorem dec_hi (s : ByteArray) (i : Nat) (h : i < s.size) (hb : 128 ≤ (s[i]'h).toNat) :
    128 ≤ (Utf8.decode s i).1 ∧ Utf8.valid ((Utf8.decode s i).1 : Nat) = true ∧ 1 ≤ (Utf8.decode s i).2 ∧ i + (Utf8.decode s i).2 ≤ s.size ∧ ∀ j, i ≤ j → j < i + (Utf8.decode s i).2 → 128 ≤ (s.get! j).toNat := by
  have hi : (s.get! (i + 0)).toNat = (s[i]'h).toNat := by rw [Nat.add_zero, get_k s i h]
  have hn : ¬ (s.get! (i + 0)).toNat < 128 := by omega
  have b0 : (s.get! (i + 0)).toNat < 256 := (s.get! (i + 0)).toNat_lt
  have hone : 128 ≤ (Utf8.runeError, 1).1 ∧ Utf8.valid ((Utf8.runeError, 1).1 : Nat) = true ∧ 1 ≤ (Utf8.runeError, (1 : Nat)).2 ∧ i + (Utf8.runeError, (1 : Nat)).2 ≤ s.size ∧ ∀ j, i ≤ j → j < i + (Utf8.runeError, (1 : Nat)).2 → 128 ≤ (s.get! j).toNat := by
    refine ⟨by decide, by decide, by decide, ?_, fun j h1 h2 => ?_⟩
    · show i + 1 ≤ s.size
      omega
    · have h2 : j < i + 1 := h2
      have e : j = i := by omega
      rw [e, get_k s i h]
      exact hb
  have cont : ∀ k, (decide (i + k < s.size) && (s.get! (i + k)).toNat / 64 == 2) = true → i + k < s.size ∧ 128 ≤ (s.get! (i + k)).toNat := fun k hk => by
    rw [Bool.and_eq_true, decide_eq_true_eq, beq_iff_eq] at hk
    exact ⟨hk.1, by omega⟩
  unfold Utf8.decode
  simp only []
  rw [if_neg hn]
  split
  · rename_i h2
    rw [Bool.and_eq_true] at h2
    have c1 := cont 1 h2.2
    split
    · rename_i h3
      have m1 := Nat.mod_lt ((s.get! (i + 1)).toNat) (show 64 > 0 by decide)
      refine ⟨h3, ?_, (show 1 ≤ 2 by decide), by show i + 2 ≤ s.size; omega, fun j h1 h4 => ?_⟩
      · unfold Utf8.valid
        rw [Bool.or_eq_true, Bool.and_eq_true, decide_eq_true_eq, decide_eq_true_eq]
        left; omega
      · have h4 : j < i + 2 := h4
        rcases (show j = i ∨ j = i + 1 by omega) with rfl | rfl
        · have := hi; rw [Nat.add_zero] at this; omega
        · exact c1.2
    · exact hone
  · split
    · rename_i h2
      rw [Bool.and_eq_true, Bool.and_eq_true] at h2
      have c1 := cont 1 h2.1.2
      have c2 := cont 2 h2.2
      split
      · rename_i h3
        rw [Bool.and_eq_true, decide_eq_true_eq] at h3
        refine ⟨by show 128 ≤ _; omega, h3.2, (show 1 ≤ 3 by decide), by show i + 3 ≤ s.size; omega, fun j h1 h4 => ?_⟩
        have h4 : j < i + 3 := h4
        rcases (show j = i ∨ j = i + 1 ∨ j = i + 2 by omega) with rfl | rfl | rfl
        · have := hi; rw [Nat.add_zero] at this; omega
        · exact c1.2
        · exact c2.2
      · exact hone
    · split
      · rename_i h2
        rw [Bool.and_eq_true, Bool.and_eq_true, Bool.and_eq_true] at h2
        have c1 := cont 1 h2.1.1.2
        have c2 := cont 2 h2.1.2
        have c3 := cont 3 h2.2
        split
        · rename_i h3
          rw [Bool.and_eq_true, decide_eq_true_eq] at h3
          refine ⟨by show 128 ≤ _; omega, h3.2, (show 1 ≤ 4 by decide), by show i + 4 ≤ s.size; omega, fun j h1 h4 => ?_⟩
          have h4 : j < i + 4 := h4
          rcases (show j = i ∨ j = i + 1 ∨ j = i + 2 ∨ j = i + 3 by omega) with rfl | rfl | rfl | rfl
          · have := hi; rw [Nat.add_zero] at this; omega
          · exact c1.2
          · exact c2.2
          · exact c3.2
        · exact hone
      · exact hone

theorem enc_size (r : Nat) (h : 128 ≤ r) (hv : Utf8.valid (r : Int) = true) :
    Utf8.encode (r : Int) = ⟨#[UInt8.ofNat (0xC0 + r / 64), UInt8.ofNat (0x80 + r % 64)]⟩ ∨ (Utf8.encode (r : Int)).size = 3 ∨ (Utf8.encode (r : Int)).size = 4 := by
  have e : (if Utf8.valid (r : Int) then (r : Int).toNat else Utf8.runeError) = r := by rw [if_pos hv]; exact Int.toNat_natCast r
  unfold Utf8.encode
  simp only [e]
  rw [if_neg (by omega)]
  by_cases h1 : r < 2048
  · rw [if_pos h1]
    exact Or.inl rfl
  · rw [if_neg h1]
    by_cases h2 : r < 65536
    · rw [if_pos h2]; exact Or.inr (Or.inl rfl)
    · rw [if_neg h2]; exact Or.inr (Or.inr rfl)

/-- strings.IndexRune(".;", r) at a rune that is no ASCII. -/
theorem idx_rune (r : Nat) (w : World) (h : 128 ≤ r) (hv : Utf8.valid (r : Int) = true) :
    Calls Try.prog 57 #[.string dotSemi, .int .i32 r] w fun e w' => e = .returned (.int .i64 (-1)) ∧ Below w.heap.size w w' := by
  by_cases hr : r = 65533
  · subst hr; exact idx_err w
  · have hvr : Lib.validRune (r : Int) = true := by
      unfold Utf8.valid at hv
      unfold Lib.validRune
      rw [Bool.or_eq_true, Bool.and_eq_true, Bool.and_eq_true, decide_eq_true_eq, decide_eq_true_eq, decide_eq_true_eq, decide_eq_true_eq] at hv
      rw [decide_eq_true_eq]
      omega
    have hV : ∀ w, Calls Try.prog 79 #[.int .i32 r] w fun e w' => e = .returned (.bool true) ∧ w' = w := fun w => (Try.utf8_ValidRune r w).mono fun e w' hh => ⟨by rw [← hvr]; exact hh.1, hh.2⟩
    have c0 : decide ((r : Int) < 128) = false := decide_eq_false (by omega)
    have c1 : decide (0 ≤ (r : Int)) = true := decide_eq_true (by omega)
    have c2 : ((r : Int) == 65533) = false := beq_eq_false_iff_ne.2 (by omega)
    rcases enc_size r h hv with he | hz | hz
    · have hb : (((UInt8.ofNat (0x80 + r % 64)).toNat : Nat) : Int) = 128 + (r : Int) % 64 := by rw [UInt8.toNat_ofNat']; omega
      exact (idx_hi2 r w _ (128 + (r : Int) % 64) he rfl (fun _ => hb) (by omega) c0 c1 c2 hV).mono fun e w' ⟨h1, n, h2⟩ => ⟨h1, h2 ▸ pw_below_drewN (Below.refl _ _) n⟩
    · exact (idx_hi3 r w _ rfl hz c0 c1 c2 hV).mono fun e w' ⟨h1, n, h2⟩ => ⟨h1, h2 ▸ pw_below_drewN (Below.refl _ _) n⟩
    · exact (idx_hi4 r w _ rfl hz c0 c1 c2 hV).mono fun e w' ⟨h1, n, h2⟩ => ⟨h1, h2 ▸ pw_below_drewN (Below.refl _ _) n⟩

end Go.Proofs.Ythblghfobnhoeaa.H
namespace Go.Proofs.Ythblghfobnhoeaa.H
open Go.RowKit Go.Proofs.YthblghfobnhoeaaW.PrintWords
set_option linter.unusedVariables false
set_option linter.unusedSimpArgs false

/-! strings.IndexAny(s, ".;") at any string. -/
theorem noAny_hi {s : ByteArray} {i n : Nat} (h : Lib.NoAny s.data.toList [46, 59] i) (hb : ∀ j, i ≤ j → j < i + n → 128 ≤ (s.get! j).toNat) (hs : i + n ≤ s.size) : Lib.NoAny s.data.toList [46, 59] (i + n) := by
  intro j b hj hx
  by_cases h1 : j < i
  · exact h j b h1 hx
  · have hg := hb j (by omega) hj
    have e := Lib.data_getElem? s j (by omega)
    rw [get_k s j (by omega)] at hg
    rw [e] at hx
    obtain rfl := Option.some.inj hx
    have h46 : (s[j]'(by omega) == 46) = false := beq_eq_false_iff_ne.2 (fun hh => by rw [hh] at hg; exact absurd hg (by decide))
    have h59 : (s[j]'(by omega) == 59) = false := beq_eq_false_iff_ne.2 (fun hh => by rw [hh] at hg; exact absurd hg (by decide))
    simp only [List.contains_cons, List.contains_nil, h46, h59, Bool.or_false]

theorem iterAt_heap (w : World) (k : Nat) (s : ByteArray) (p : Nat) (h : k < w.heap.size) : (w.iterAt k s p).heap[k]? = some (.stringIter s p) := by
  unfold World.iterAt
  rw [Array.getElem?_setIfInBounds_self_of_lt h]
theorem blk_below' {w w1 : World} {g : Nat} {o : Obj} (h : w.heap[g]? = some o) (hb : Below w.heap.size w w1) : w1.heap[g]? = some o := (hb.block g (Array.getElem?_eq_some_iff.1 h).1).trans h
theorem below_iterAt {B : Nat} {w0 w : World} {k : Nat} (s : ByteArray) (p : Nat) (h : Below B w0 w) (hk : B ≤ k) : Below B w0 (w.iterAt k s p) := by
  refine ⟨h.os, h.tape, h.output, by show _ ≤ (w.heap.setIfInBounds k _).size; rw [Array.size_setIfInBounds]; exact h.size, fun j hj => ?_⟩
  show (w.heap.setIfInBounds k _)[j]? = _
  rw [Array.getElem?_setIfInBounds_ne (by omega)]
  exact h.block j hj

set_option maxRecDepth 100000 in
set_option maxHeartbeats 8000000 in
theorem idxAny_short (s : ByteArray) (w : World) (h8 : s.size ≤ 8) :
    Calls Try.prog 35 #[.string s, .string dotSemi] w fun e w' => e = .returned (.int .i64 (Lib.indexAny s.data.toList [46, 59])) ∧ Below w.heap.size w w' := by
  have hc : dotSemi.size = 2 := rfl
  have hemp : dotSemi.toList.isEmpty = false := by rw [Lib.toList_data]; rfl
  have h8z : decide ((8 : Int) < (s.size : Int)) = false := decide_eq_false (by omega)
  go_enter Try.func35, Try.ntmps35
  go_wp2_with (go_at_call 58; refine (Try.strings_shouldUseASCIISet _ _).mono ?_; rintro e w' ⟨rfl, hw⟩; rw [hw, h8z])
  go_loopg [9, 10] s.size (fun g _ _ wx => ∃ i : Nat, i + g = s.size ∧ wx.heap[w.heap.size]? = some (.stringIter s i) ∧ Below w.heap.size w wx ∧ Lib.NoAny s.data.toList [46, 59] i)
  case atStart => exact ⟨0, by omega, by simp [World.iter_heap], (Below.refl _ _).alloc (Nat.le_refl _) _, Lib.NoAny.zero _ _⟩
  case round =>
    obtain ⟨i, hig, hk, hbel, hno⟩ := hrel
    have HN := Lib.hid hno
    have HB := Lib.hid hbel
    have hlt : w.heap.size < wr.heap.size := (Array.getElem?_eq_some_iff.1 hk).1
    clear hno hbel
    cases gk with
    | zero =>
      obtain rfl : i = s.size := by omega
      have hnx := fun ty => Lib.run_next_end_at (P := Try.prog) wr w.heap.size s s.size ty hk (Nat.lt_irrefl _)
      go_wp2
      go_ret
      exact ⟨by rw [Lib.indexAny_none (by rw [← Lib.size_eq]; exact HN.out)]; rfl, HB.out⟩
    | succ g =>
      have hi : i < s.size := by omega
      by_cases h128 : (s[i]'hi).toNat < 128
      · obtain ⟨x, hx⟩ : ∃ x : UInt8, s[i]'hi = x := ⟨_, rfl⟩
        have hxl : s.data.toList[i]? = some x := by rw [← hx]; exact Lib.data_getElem? s i hi
        have hx128 : x.toNat < 128 := by rw [← hx]; exact h128
        have hnx := fun ty => Lib.run_next_ascii_at (P := Try.prog) wr w.heap.size s i ty hk hi h128
        rw [hx] at hnx
        have HK := Lib.hid (iterAt_heap wr w.heap.size s (i + 1) hlt)
        have HB2 := Lib.hid (below_iterAt s (i + 1) HB.out (Nat.le_refl w.heap.size))
        have Hx := Lib.hid hxl
        clear hxl hx hk HB
        generalize wr.iterAt w.heap.size s (i + 1) = wn at hnx HK HB2
        have hcon := Lib.contains_iff_indexByte [46, 59] x
        have hback : ((x.toNat : Int)).toNat.toUInt8 = x := by simp
        have hdl : dotSemi.data.toList = [46, 59] := rfl
        cases hin : ([46, 59] : List UInt8).contains x
        · rw [hin] at hcon
          have hlt2 : ¬ ((0 : Int) ≤ Lib.indexByte [46, 59] x) := of_decide_eq_false hcon.symm
          have hltb : decide ((0 : Int) ≤ Lib.indexByte [46, 59] x) = false := hcon.symm
          clear hcon
          go_wp2_with (go_at_call 57; refine (Try.strings_IndexRune_ascii _ _ _ (by omega) (by omega)).mono ?_; rintro e w2 ⟨rfl, hw2⟩; rw [hw2, hback, hdl])
          go_roundg g
          case measure => omega
          case rel => exact ⟨i + 1, by omega, HK.out, HB2.out, HN.out.succ Hx.out hin⟩
        · rw [hin] at hcon
          have hge : (0 : Int) ≤ Lib.indexByte [46, 59] x := of_decide_eq_true hcon.symm
          have hgeb : decide ((0 : Int) ≤ Lib.indexByte [46, 59] x) = true := hcon.symm
          clear hcon
          go_wp2_with (go_at_call 57; refine (Try.strings_IndexRune_ascii _ _ _ (by omega) (by omega)).mono ?_; rintro e w2 ⟨rfl, hw2⟩; rw [hw2, hback, hdl])
          go_ret
          exact ⟨by rw [Lib.indexAny_hit HN.out Hx.out hin]; rfl, HB2.out⟩
      · obtain ⟨d1, d2, d3, d4, d5⟩ := dec_hi s i hi (by omega)
        have hnx := fun ty => Lib.run_next_any_at (P := Try.prog) wr w.heap.size s i ty hk hi
        have HK := Lib.hid (iterAt_heap wr w.heap.size s (i + (Utf8.decode s i).2) hlt)
        have HB2 := Lib.hid (below_iterAt s (i + (Utf8.decode s i).2) HB.out (Nat.le_refl w.heap.size))
        have HN2 := Lib.hid (noAny_hi HN.out d5 d4)
        clear hk HB
        generalize wr.iterAt w.heap.size s (i + (Utf8.decode s i).2) = wn at hnx HK HB2
        generalize (Utf8.decode s i).1 = r at hnx d1 d2
        generalize (Utf8.decode s i).2 = n at hnx d3 d4 d5 HK HN2
        have HR := Lib.hid (idx_rune r wn d1 d2)
        clear d1 d2 d5
        go_wp2_with (go_at_call 57; refine (HR.out).mono ?_; rintro e w2 ⟨rfl, hw2⟩)
        go_roundg (s.size - (i + n))
        case measure => omega
        case rel => exact ⟨i + n, by omega, blk_below' HK.out hw2, below_step HB2.out hw2, HN2.out⟩
end Go.Proofs.Ythblghfobnhoeaa.H
namespace Go.Proofs.Ythblghfobnhoeaa.H
open Go.RowKit Go.Proofs.YthblghfobnhoeaaW.PrintWords
set_option linter.unusedVariables false
set_option linter.unusedSimpArgs false

/-! The strings functions that directory.Compare calls, as the print takes them. -/
set_option maxRecDepth 100000 in
theorem idxAny (s : ByteArray) (w : World) (hs : s.size < 4294967281) :
    Calls Try.prog 35 #[.string s, .string dotSemi] w fun e w' => e = .returned (.int .i64 (Lib.indexAny s.data.toList [46, 59])) ∧ Below w.heap.size w w' := by
  by_cases h8 : s.size ≤ 8
  · exact idxAny_short s w h8
  · have h116 : (Try.prog.info? 98).map (fun i => (i.zero, i.size)) = some (some (.agg (Array.replicate 256 (.bool false))), 256) := by kernel_rfl
    refine (Try.strings_IndexAny_long (Go.zero_of_info h116).1 s dotSemi w (by decide) (by omega) hs (by decide) (fun j b hb => ?_)).mono fun e w' ⟨h1, h2⟩ => ⟨h1, ?_⟩
    · have hd : dotSemi.data.toList = [46, 59] := rfl
      rw [hd] at hb
      match j, hb with
      | 0, hb => obtain rfl := Option.some.inj hb; decide
      | 1, hb => obtain rfl := Option.some.inj hb; decide
    · rw [h2]
      exact ((Below.refl _ _).alloc (Nat.le_refl _) _).alloc (by simp) _

/-- strings.IndexAny at ".;". -/
def strings_IndexAny.f (a0 a1 : ByteArray) : Option Int := if a1 = dotSemi ∧ a0.size < 4294967281 then some (Lib.indexAny a0.data.toList [46, 59]) else none
theorem strings_IndexAny.calls (a0 : ByteArray) (a1 : ByteArray) (r : Int) (w : World) (h : strings_IndexAny.f a0 a1 = some r) :
    Calls Try.prog 35 #[.string a0, .string a1] w fun e w' => e = .returned (.int .i64 r) ∧ Below w.heap.size w w' := by
  unfold strings_IndexAny.f at h
  by_cases hc : a1 = dotSemi ∧ a0.size < 4294967281
  · rw [if_pos hc] at h
    obtain rfl := Option.some.inj h
    obtain ⟨rfl, hs⟩ := hc
    exact idxAny a0 w hs
  · rw [if_neg hc] at h
    cases h

/-- internal/stringslite.Index at one byte. -/
def stringslite_Index.f (a0 a1 : ByteArray) : Option Int := if a1.size = 1 then some (Lib.indexByte a0.data.toList (a1.get! 0)) else none
theorem stringslite_Index.calls (a0 : ByteArray) (a1 : ByteArray) (r : Int) (w : World) (h : stringslite_Index.f a0 a1 = some r) :
    Calls Try.prog 82 #[.string a0, .string a1] w fun e w' => e = .returned (.int .i64 r) ∧ Drawn0 w w' := by
  unfold stringslite_Index.f at h
  by_cases hc : a1.size = 1
  · rw [if_pos hc] at h
    obtain rfl := Option.some.inj h
    have ha : a1 = ⟨#[a1.get! 0]⟩ := by
      apply ByteArray.ext
      apply Array.ext
      · exact hc
      · intro i h1 h2
        have : i = 0 := by have : i < 1 := h2; omega
        subst this
        exact (get_k a1 0 (by omega)).symm
    have := Try.stringslite_Index_one a0 (a1.get! 0) w
    rw [← ha] at this
    exact this.mono fun e w' ⟨h1, h2⟩ => ⟨h1, h2 ▸ Drawn0.refl w⟩
  · rw [if_neg hc] at h
    cases h

/-- strings.Compare. -/
def strings_Compare.f (a0 a1 : ByteArray) : Option Int := some (Lib.compareBytes a0.data.toList a1.data.toList)
theorem strings_Compare.calls (a0 : ByteArray) (a1 : ByteArray) (r : Int) (w : World) (h : strings_Compare.f a0 a1 = some r) :
    Calls Try.prog 22 #[.string a0, .string a1] w fun e w' => e = .returned (.int .i64 r) ∧ Drawn0 w w' := by
  obtain rfl := Option.some.inj h
  exact (Try.strings_Compare a0 a1 w).mono fun e w' ⟨h1, h2⟩ => ⟨h1, h2 ▸ Drawn0.refl w⟩

/-- strings.Repeat of short strings. -/
def strings_Repeat.f (a0 : ByteArray) (a1 : Int) : Option ByteArray := if 0 ≤ a1 ∧ a1 ≤ 1000000 ∧ a0.size ≤ 1000000 then some ⟨(Lib.repeatL a0.data.toList a1.toNat).toArray⟩ else none
theorem strings_Repeat.calls (a0 : ByteArray) (a1 : Int) (r : ByteArray) (w : World) (h : strings_Repeat.f a0 a1 = some r) :
    Calls Try.prog 21 #[.string a0, .int .i64 a1] w fun e w' => e = .returned (.string r) ∧ Below w.heap.size w w' := by
  unfold strings_Repeat.f at h
  by_cases hc : 0 ≤ a1 ∧ a1 ≤ 1000000 ∧ a0.size ≤ 1000000
  · rw [if_pos hc] at h
    obtain rfl := Option.some.inj h
    obtain ⟨h0, h1, h2⟩ := hc
    obtain ⟨c, rfl⟩ := Int.eq_ofNat_of_zero_le h0
    have hm : a0.size * c ≤ 1000000 * 1000000 := Nat.mul_le_mul h2 (by omega)
    exact Try.strings_Repeat a0 c w (by omega) (by omega)
  · rw [if_neg hc] at h
    cases h

end Go.Proofs.Ythblghfobnhoeaa.H
namespace Go.Proofs.Ythblghfobnhoeaa.A
open Go.RowKit Go.Proofs.Ythblghfobnhoeaa.H Go.Proofs.YthblghfobnhoeaaW.PrintWords Go.Proofs.YthblghfobnhoeaaW.PrintLast Go.Proofs.YthblghfobnhoeaaW.PrintMore
attribute [local go_sem] max2_int min2_int max_two min_two max_three min_three max_four min_four   -- for this text's walks alone
set_option linter.unusedVariables false
set_option linter.unusedSimpArgs false

/-! ### stringslite_Cut: function 61 -/
def stringslite_Cut.f (a0 : ByteArray) (a1 : ByteArray) : Option (ByteArray × ByteArray × Bool) := (stringslite_Index.f a0 a1).bind fun t107 => (if t107 ≥ 0 then (if 0 ≤ t107 then (if t107 ≤ (a0.size : Int) then (if 0 ≤ (wrap64 (t107 + (a1.size : Int))) then (if (wrap64 (t107 + (a1.size : Int))) ≤ (a0.size : Int) then (some (a0.extract 0 (t107 : Int).toNat, a0.extract ((wrap64 (t107 + (a1.size : Int))) : Int).toNat a0.size, true)) else (none)) else (none)) else (none)) else (none)) else (some (a0, (⟨#[]⟩ : ByteArray), false)))
set_option maxHeartbeats 8000000 in
set_option maxRecDepth 100000 in
theorem stringslite_Cut.calls (a0 : ByteArray) (a1 : ByteArray) (r1 : ByteArray) (r2 : ByteArray) (r3 : Bool) (w : World) (h : stringslite_Cut.f a0 a1 = some (r1, r2, r3)) :
  Calls Try.prog 61 #[.string a0, .string a1] w fun e w' => e = .returned (.tuple #[.string r1, .string r2, .bool r3]) ∧ Drawn0 w w' := by
 have H : ((stringslite_Index.f a0 a1).bind fun t107 => (if t107 ≥ 0 then (if 0 ≤ t107 then (if t107 ≤ (a0.size : Int) then (if 0 ≤ (wrap64 (t107 + (a1.size : Int))) then (if (wrap64 (t107 + (a1.size : Int))) ≤ (a0.size : Int) then (some (a0.extract 0 (t107 : Int).toNat, a0.extract ((wrap64 (t107 + (a1.size : Int))) : Int).toNat a0.size, true)) else (none)) else (none)) else (none)) else (none)) else (some (a0, (⟨#[]⟩ : ByteArray), false)))) = some (r1, r2, r3) := h
 clear h
 replace H := Option.bind_eq_some_iff.mp H
 obtain ⟨t107, A30, H⟩ := H
 replace H : (if t107 ≥ 0 then (if 0 ≤ t107 then (if t107 ≤ (a0.size : Int) then (if 0 ≤ (wrap64 (t107 + (a1.size : Int))) then (if (wrap64 (t107 + (a1.size : Int))) ≤ (a0.size : Int) then (some (a0.extract 0 (t107 : Int).toNat, a0.extract ((wrap64 (t107 + (a1.size : Int))) : Int).toNat a0.size, true)) else (none)) else (none)) else (none)) else (none)) else (some (a0, (⟨#[]⟩ : ByteArray), false))) = some (r1, r2, r3) := H
 have A3 := Aside0.mk A30
 clear A30
 by_cases c4 : t107 ≥ 0
 ·rw [if_pos c4] at H
  have c4b0 : decide (0 ≤ t107) = true := decide_eq_true c4
  clear c4
  by_cases c5 : 0 ≤ t107
  rotate_left
  ·rw [if_neg c5] at H
   exact absurd H (by simp)
  rw [if_pos c5] at H
  have c5b0 := eq_true c5
  have c5b1 : decide (0 ≤ t107) = true := decide_eq_true c5
  clear c5
  by_cases c6 : t107 ≤ (a0.size : Int)
  rotate_left
  ·rw [if_neg c6] at H
   exact absurd H (by simp)
  rw [if_pos c6] at H
  have c6b0 := eq_true c6
  have c6b1 : decide (t107 ≤ (a0.size : Int)) = true := decide_eq_true c6
  clear c6
  obtain ⟨ji7, hji7⟩ : ∃ j_ : Int, (wrap64 (t107 + (a1.size : Int))) = j_ := ⟨_, rfl⟩
  replace H : (if 0 ≤ (ji7) then (if (ji7) ≤ (a0.size : Int) then (some (a0.extract 0 (t107 : Int).toNat, a0.extract ((ji7) : Int).toNat a0.size, true)) else (none)) else (none)) = some (r1, r2, r3) := by first | (rw [hji7] at H; exact H) | (simp only [hji7] at H ⊢; exact H)
  (try rw [hji7] at A3)
  have hji7w : (IntKind.i64.wrap (t107 + (a1.size : Int))) = ji7 := (i64_w _).trans hji7
  by_cases c8 : 0 ≤ (ji7)
  rotate_left
  ·rw [if_neg c8] at H
   exact absurd H (by simp)
  rw [if_pos c8] at H
  have c8b0 := eq_true c8
  have c8b1 : decide (0 ≤ (ji7)) = true := decide_eq_true c8
  clear c8
  by_cases c9 : (ji7) ≤ (a0.size : Int)
  rotate_left
  ·rw [if_neg c9] at H
   exact absurd H (by simp)
  rw [if_pos c9] at H
  have c9b0 := eq_true c9
  have c9b1 : decide ((ji7) ≤ (a0.size : Int)) = true := decide_eq_true c9
  clear c9
  simp only [Option.some.injEq, Prod.mk.injEq] at H
  obtain ⟨rfl, rfl, rfl⟩ := H
  go_enter Try.func61, Try.ntmps61
  go_wp2_with (first | (go_at_call 82; (with_reducible refine (stringslite_Index.calls a0 a1 t107 _ A3.out).mono ?_); rintro e w' ⟨rfl, ⟨nd, rfl⟩⟩; (try first | exact ⟨rfl, _, World.drewN_drewN _ _ _⟩ | exact ⟨rfl, _, Eq.trans (World.drewN_drewN _ _ _) (congrArg (World.drewN _) (Nat.add_assoc _ _ _))⟩)))
  repeat (go_quiet (first | (go_at_call 82; (with_reducible refine (stringslite_Index.calls a0 a1 t107 _ A3.out).mono ?_); rintro e w' ⟨rfl, ⟨nd, rfl⟩⟩; (try first | exact ⟨rfl, _, World.drewN_drewN _ _ _⟩ | exact ⟨rfl, _, Eq.trans (World.drewN_drewN _ _ _) (congrArg (World.drewN _) (Nat.add_assoc _ _ _))⟩))); try go_wp2_with (first | (go_at_call 82; (with_reducible refine (stringslite_Index.calls a0 a1 t107 _ A3.out).mono ?_); rintro e w' ⟨rfl, ⟨nd, rfl⟩⟩; (try first | exact ⟨rfl, _, World.drewN_drewN _ _ _⟩ | exact ⟨rfl, _, Eq.trans (World.drewN_drewN _ _ _) (congrArg (World.drewN _) (Nat.add_assoc _ _ _))⟩))))
  go_ret3
  exact ⟨by first | rfl | (simp; done) | (simp only [← hji7] <;> (first | rfl | simp)) | (simp [*]; done), by repeat (first | exact Drawn0.refl _ | apply Drawn0.step)⟩
 ·rw [if_neg c4] at H
  have c4b0 : decide (0 ≤ t107) = false := decide_eq_false c4
  clear c4
  simp only [Option.some.injEq, Prod.mk.injEq] at H
  obtain ⟨rfl, rfl, rfl⟩ := H
  go_enter Try.func61, Try.ntmps61
  go_wp2_with (first | (go_at_call 82; (with_reducible refine (stringslite_Index.calls a0 a1 t107 _ A3.out).mono ?_); rintro e w' ⟨rfl, ⟨nd, rfl⟩⟩; (try first | exact ⟨rfl, _, World.drewN_drewN _ _ _⟩ | exact ⟨rfl, _, Eq.trans (World.drewN_drewN _ _ _) (congrArg (World.drewN _) (Nat.add_assoc _ _ _))⟩)))
  repeat (go_quiet (first | (go_at_call 82; (with_reducible refine (stringslite_Index.calls a0 a1 t107 _ A3.out).mono ?_); rintro e w' ⟨rfl, ⟨nd, rfl⟩⟩; (try first | exact ⟨rfl, _, World.drewN_drewN _ _ _⟩ | exact ⟨rfl, _, Eq.trans (World.drewN_drewN _ _ _) (congrArg (World.drewN _) (Nat.add_assoc _ _ _))⟩))); try go_wp2_with (first | (go_at_call 82; (with_reducible refine (stringslite_Index.calls a0 a1 t107 _ A3.out).mono ?_); rintro e w' ⟨rfl, ⟨nd, rfl⟩⟩; (try first | exact ⟨rfl, _, World.drewN_drewN _ _ _⟩ | exact ⟨rfl, _, Eq.trans (World.drewN_drewN _ _ _) (congrArg (World.drewN _) (Nat.add_assoc _ _ _))⟩))))
  go_ret3
  exact ⟨by first | rfl | (simp; done) | (simp [*]; done), by repeat (first | exact Drawn0.refl _ | apply Drawn0.step)⟩

/-! ### strings_Cut: function 36 -/
def strings_Cut.f (a0 : ByteArray) (a1 : ByteArray) : Option (ByteArray × ByteArray × Bool) := (stringslite_Cut.f a0 a1).bind fun bt108 => (some (bt108.1, bt108.2.1, bt108.2.2))
set_option maxHeartbeats 8000000 in
set_option maxRecDepth 100000 in
theorem strings_Cut.calls (a0 : ByteArray) (a1 : ByteArray) (r1 : ByteArray) (r2 : ByteArray) (r3 : Bool) (w : World) (h : strings_Cut.f a0 a1 = some (r1, r2, r3)) :
  Calls Try.prog 36 #[.string a0, .string a1] w fun e w' => e = .returned (.tuple #[.string r1, .string r2, .bool r3]) ∧ Drawn0 w w' := by
 have H : ((stringslite_Cut.f a0 a1).bind fun bt108 => (some (bt108.1, bt108.2.1, bt108.2.2))) = some (r1, r2, r3) := h
 clear h
 replace H := Option.bind_eq_some_iff.mp H
 obtain ⟨⟨t108, t109, t110⟩, A30, H⟩ := H
 replace H : (some (t108, t109, t110)) = some (r1, r2, r3) := H
 have A3 := Aside0.mk A30
 clear A30
 simp only [Option.some.injEq, Prod.mk.injEq] at H
 obtain ⟨rfl, rfl, rfl⟩ := H
 go_enter Try.func36, Try.ntmps36
 go_wp2_with (first | ((with_reducible refine gate_callee (f := 61) rfl ?_); refine goesL_ (some 9) rfl rfl Try.func61 (by kernel_rfl) rfl #[.string a0, .string a1] rfl (by (try simp only [List.map_toArray, List.map_cons, List.map_nil]); first | done | rfl | (simp only [List.length_drop, List.length_take]; rfl)) ?_; (with_reducible refine (stringslite_Cut.calls a0 a1 t108 t109 t110 _ A3.out).mono ?_); rintro e w' ⟨rfl, ⟨nd, rfl⟩⟩; refine ⟨_, rfl, ?_⟩))
 go_ret3
 exact ⟨by first | rfl | (simp; done) | (simp [*]; done), by repeat (first | exact Drawn0.refl _ | apply Drawn0.step)⟩

/-! ### directory_parts: function 19 -/
def directory_parts.f (a0 : ByteArray) : Option (ByteArray × ByteArray × ByteArray) := (strings_IndexAny.f a0 (⟨#[46, 59]⟩ : ByteArray)).bind fun t111 => (if t111 < 0 then (some (a0, (⟨#[]⟩ : ByteArray), (⟨#[]⟩ : ByteArray))) else (if 0 ≤ t111 then (if t111 ≤ (a0.size : Int) then (if 0 ≤ (wrap64 (t111 + 1)) then (if (wrap64 (t111 + 1)) ≤ (a0.size : Int) then (if t111 < (a0.size : Int) then (if (bt a0 t111) = 59 then (some (a0.extract 0 (t111 : Int).toNat, (⟨#[]⟩ : ByteArray), a0.extract ((wrap64 (t111 + 1)) : Int).toNat a0.size)) else ((strings_Cut.f (a0.extract ((wrap64 (t111 + 1)) : Int).toNat a0.size) (⟨#[59]⟩ : ByteArray)).bind fun bt112 => (some (a0.extract 0 (t111 : Int).toNat, bt112.1, bt112.2.1)))) else (none)) else (none)) else (none)) else (none)) else (none)))
set_option maxHeartbeats 8000000 in
set_option maxRecDepth 100000 in
theorem directory_parts.calls (a0 : ByteArray) (r1 : ByteArray) (r2 : ByteArray) (r3 : ByteArray) (w : World) (h : directory_parts.f a0 = some (r1, r2, r3)) :
  Calls Try.prog 19 #[.string a0] w fun e w' => e = .returned (.tuple #[.string r1, .string r2, .string r3]) ∧ Below w.heap.size w w' := by
 have HB := Aside0.mk (Below.refl w.heap.size w)
 have H : ((strings_IndexAny.f a0 (⟨#[46, 59]⟩ : ByteArray)).bind fun t111 => (if t111 < 0 then (some (a0, (⟨#[]⟩ : ByteArray), (⟨#[]⟩ : ByteArray))) else (if 0 ≤ t111 then (if t111 ≤ (a0.size : Int) then (if 0 ≤ (wrap64 (t111 + 1)) then (if (wrap64 (t111 + 1)) ≤ (a0.size : Int) then (if t111 < (a0.size : Int) then (if (bt a0 t111) = 59 then (some (a0.extract 0 (t111 : Int).toNat, (⟨#[]⟩ : ByteArray), a0.extract ((wrap64 (t111 + 1)) : Int).toNat a0.size)) else ((strings_Cut.f (a0.extract ((wrap64 (t111 + 1)) : Int).toNat a0.size) (⟨#[59]⟩ : ByteArray)).bind fun bt112 => (some (a0.extract 0 (t111 : Int).toNat, bt112.1, bt112.2.1)))) else (none)) else (none)) else (none)) else (none)) else (none)))) = some (r1, r2, r3) := h
 clear h
 replace H := Option.bind_eq_some_iff.mp H
 obtain ⟨t111, A20, H⟩ := H
 replace H : (if t111 < 0 then (some (a0, (⟨#[]⟩ : ByteArray), (⟨#[]⟩ : ByteArray))) else (if 0 ≤ t111 then (if t111 ≤ (a0.size : Int) then (if 0 ≤ (wrap64 (t111 + 1)) then (if (wrap64 (t111 + 1)) ≤ (a0.size : Int) then (if t111 < (a0.size : Int) then (if (bt a0 t111) = 59 then (some (a0.extract 0 (t111 : Int).toNat, (⟨#[]⟩ : ByteArray), a0.extract ((wrap64 (t111 + 1)) : Int).toNat a0.size)) else ((strings_Cut.f (a0.extract ((wrap64 (t111 + 1)) : Int).toNat a0.size) (⟨#[59]⟩ : ByteArray)).bind fun bt112 => (some (a0.extract 0 (t111 : Int).toNat, bt112.1, bt112.2.1)))) else (none)) else (none)) else (none)) else (none)) else (none))) = some (r1, r2, r3) := H
 have A2 := Aside0.mk A20
 clear A20
 by_cases c3 : t111 < 0
 ·rw [if_pos c3] at H
  have c3b0 : decide (t111 < 0) = true := decide_eq_true c3
  clear c3
  simp only [Option.some.injEq, Prod.mk.injEq] at H
  obtain ⟨rfl, rfl, rfl⟩ := H
  go_enter Try.func19, Try.ntmps19
  go_wp2_with (first | (go_at_call 35; (with_reducible refine (strings_IndexAny.calls a0 (⟨#[46, 59]⟩ : ByteArray) t111 _ A2.out).mono ?_); rintro e w4 ⟨rfl, hb⟩; have n0_ := Aside0.mk (below_step (by repeat (first | (with_reducible first | exact HB.out | apply below_alloc | apply pw_below_drewN | apply below_drew1) | exact HB.out)) hb); clear HB; have HB := n0_; clear n0_; (try clear hb); (try clear hb2); (try clear hk); (try clear hi)))
  repeat (go_quiet (first | (go_at_call 35; (with_reducible refine (strings_IndexAny.calls a0 (⟨#[46, 59]⟩ : ByteArray) t111 _ A2.out).mono ?_); rintro e w4 ⟨rfl, hb⟩; have n0_ := Aside0.mk (below_step (by repeat (first | (with_reducible first | exact HB.out | apply below_alloc | apply pw_below_drewN | apply below_drew1) | exact HB.out)) hb); clear HB; have HB := n0_; clear n0_; (try clear hb); (try clear hb2); (try clear hk); (try clear hi))); try go_wp2_with (first | (go_at_call 35; (with_reducible refine (strings_IndexAny.calls a0 (⟨#[46, 59]⟩ : ByteArray) t111 _ A2.out).mono ?_); rintro e w4 ⟨rfl, hb⟩; have n0_ := Aside0.mk (below_step (by repeat (first | (with_reducible first | exact HB.out | apply below_alloc | apply pw_below_drewN | apply below_drew1) | exact HB.out)) hb); clear HB; have HB := n0_; clear n0_; (try clear hb); (try clear hb2); (try clear hk); (try clear hi))))
  go_ret3
  exact ⟨by first | rfl | (simp [errW_none, errW_some] <;> rfl) | (simp [*, errW_none, errW_some] <;> rfl), by repeat (first | (with_reducible first | exact HB.out | apply below_alloc | apply pw_below_drewN | apply below_drew1) | exact HB.out)⟩
 ·rw [if_neg c3] at H
  have c3b0 : decide (t111 < 0) = false := decide_eq_false c3
  clear c3
  by_cases c5 : 0 ≤ t111
  rotate_left
  ·rw [if_neg c5] at H
   exact absurd H (by simp)
  rw [if_pos c5] at H
  have c5b0 := eq_true c5
  have c5b1 : decide (0 ≤ t111) = true := decide_eq_true c5
  clear c5
  by_cases c6 : t111 ≤ (a0.size : Int)
  rotate_left
  ·rw [if_neg c6] at H
   exact absurd H (by simp)
  rw [if_pos c6] at H
  have c6b0 := eq_true c6
  have c6b1 : decide (t111 ≤ (a0.size : Int)) = true := decide_eq_true c6
  clear c6
  obtain ⟨ji7, hji7⟩ : ∃ j_ : Int, (wrap64 (t111 + 1)) = j_ := ⟨_, rfl⟩
  replace H : (if 0 ≤ (ji7) then (if (ji7) ≤ (a0.size : Int) then (if t111 < (a0.size : Int) then (if (bt a0 t111) = 59 then (some (a0.extract 0 (t111 : Int).toNat, (⟨#[]⟩ : ByteArray), a0.extract ((ji7) : Int).toNat a0.size)) else ((strings_Cut.f (a0.extract ((ji7) : Int).toNat a0.size) (⟨#[59]⟩ : ByteArray)).bind fun bt112 => (some (a0.extract 0 (t111 : Int).toNat, bt112.1, bt112.2.1)))) else (none)) else (none)) else (none)) = some (r1, r2, r3) := by first | (rw [hji7] at H; exact H) | (simp only [hji7] at H ⊢; exact H)
  (try rw [hji7] at A2)
  have hji7w : (IntKind.i64.wrap (t111 + 1)) = ji7 := (i64_w _).trans hji7
  by_cases c8 : 0 ≤ (ji7)
  rotate_left
  ·rw [if_neg c8] at H
   exact absurd H (by simp)
  rw [if_pos c8] at H
  have c8b0 := eq_true c8
  have c8b1 : decide (0 ≤ (ji7)) = true := decide_eq_true c8
  clear c8
  by_cases c9 : (ji7) ≤ (a0.size : Int)
  rotate_left
  ·rw [if_neg c9] at H
   exact absurd H (by simp)
  rw [if_pos c9] at H
  have c9b0 := eq_true c9
  have c9b1 : decide ((ji7) ≤ (a0.size : Int)) = true := decide_eq_true c9
  clear c9
  by_cases c10 : t111 < (a0.size : Int)
  rotate_left
  ·rw [if_neg c10] at H
   exact absurd H (by simp)
  rw [if_pos c10] at H
  have c10b0 : decide (t111 < (a0.size : Int)) = true := decide_eq_true c10
  clear c10
  by_cases c12 : (bt a0 t111) = 59
  ·rw [if_pos c12] at H
   have c12b0 : ((bt a0 t111) == 59) = true := beq_iff_eq.mpr c12
   have c12b1 : ((bt a0 t111) != 59) = false := bne_eq_false_iff_eq.mpr c12
   clear c12
   simp only [Option.some.injEq, Prod.mk.injEq] at H
   obtain ⟨rfl, rfl, rfl⟩ := H
   go_enter Try.func19, Try.ntmps19
   go_wp2_with (first | (go_at_call 35; (with_reducible refine (strings_IndexAny.calls a0 (⟨#[46, 59]⟩ : ByteArray) t111 _ A2.out).mono ?_); rintro e w13 ⟨rfl, hb⟩; have n0_ := Aside0.mk (below_step (by repeat (first | (with_reducible first | exact HB.out | apply below_alloc | apply pw_below_drewN | apply below_drew1) | exact HB.out)) hb); clear HB; have HB := n0_; clear n0_; (try clear hb); (try clear hb2); (try clear hk); (try clear hi); have p11 : 0 ≤ (t111 : Int) := of_decide_eq_true (by first | (with_reducible assumption) | assumption); have q11 : t111 < (a0.size : Int) := of_decide_eq_true (by first | (with_reducible assumption) | assumption); have hx11 := bt_at a0 t111; replace p11 := eq_true p11; replace q11 := eq_true q11))
   repeat (go_quiet (first | (go_at_call 35; (with_reducible refine (strings_IndexAny.calls a0 (⟨#[46, 59]⟩ : ByteArray) t111 _ A2.out).mono ?_); rintro e w13 ⟨rfl, hb⟩; have n0_ := Aside0.mk (below_step (by repeat (first | (with_reducible first | exact HB.out | apply below_alloc | apply pw_below_drewN | apply below_drew1) | exact HB.out)) hb); clear HB; have HB := n0_; clear n0_; (try clear hb); (try clear hb2); (try clear hk); (try clear hi); have p11 : 0 ≤ (t111 : Int) := of_decide_eq_true (by first | (with_reducible assumption) | assumption); have q11 : t111 < (a0.size : Int) := of_decide_eq_true (by first | (with_reducible assumption) | assumption); have hx11 := bt_at a0 t111; replace p11 := eq_true p11; replace q11 := eq_true q11)); try go_wp2_with (first | (go_at_call 35; (with_reducible refine (strings_IndexAny.calls a0 (⟨#[46, 59]⟩ : ByteArray) t111 _ A2.out).mono ?_); rintro e w13 ⟨rfl, hb⟩; have n0_ := Aside0.mk (below_step (by repeat (first | (with_reducible first | exact HB.out | apply below_alloc | apply pw_below_drewN | apply below_drew1) | exact HB.out)) hb); clear HB; have HB := n0_; clear n0_; (try clear hb); (try clear hb2); (try clear hk); (try clear hi); have p11 : 0 ≤ (t111 : Int) := of_decide_eq_true (by first | (with_reducible assumption) | assumption); have q11 : t111 < (a0.size : Int) := of_decide_eq_true (by first | (with_reducible assumption) | assumption); have hx11 := bt_at a0 t111; replace p11 := eq_true p11; replace q11 := eq_true q11)))
   go_ret3
   exact ⟨by first | rfl | (simp [errW_none, errW_some] <;> rfl) | (simp only [← hji7]; first | rfl | (simp [errW_none, errW_some] <;> rfl)) | (simp [*, errW_none, errW_some] <;> rfl), by repeat (first | (with_reducible first | exact HB.out | apply below_alloc | apply pw_below_drewN | apply below_drew1) | exact HB.out)⟩
  ·rw [if_neg c12] at H
   have c12b0 : ((bt a0 t111) == 59) = false := beq_eq_false_iff_ne.mpr c12
   have c12b1 : ((bt a0 t111) != 59) = true := bne_iff_ne.mpr c12
   replace H := Option.bind_eq_some_iff.mp H
   obtain ⟨⟨t112, t113, t114⟩, A140, H⟩ := H
   replace H : (some (a0.extract 0 (t111 : Int).toNat, t112, t113)) = some (r1, r2, r3) := H
   have A14 := Aside0.mk A140
   clear A140
   simp only [Option.some.injEq, Prod.mk.injEq] at H
   obtain ⟨rfl, rfl, rfl⟩ := H
   go_enter Try.func19, Try.ntmps19
   go_wp2_with (first | (go_at_call 35; (with_reducible refine (strings_IndexAny.calls a0 (⟨#[46, 59]⟩ : ByteArray) t111 _ A2.out).mono ?_); rintro e w15 ⟨rfl, hb⟩; have n0_ := Aside0.mk (below_step (by repeat (first | (with_reducible first | exact HB.out | apply below_alloc | apply pw_below_drewN | apply below_drew1) | exact HB.out)) hb); clear HB; have HB := n0_; clear n0_; (try clear hb); (try clear hb2); (try clear hk); (try clear hi); have p11 : 0 ≤ (t111 : Int) := of_decide_eq_true (by first | (with_reducible assumption) | assumption); have q11 : t111 < (a0.size : Int) := of_decide_eq_true (by first | (with_reducible assumption) | assumption); have hx11 := bt_at a0 t111; replace p11 := eq_true p11; replace q11 := eq_true q11) | (go_at_call 36; (with_reducible refine (strings_Cut.calls (a0.extract ((ji7) : Int).toNat a0.size) (⟨#[59]⟩ : ByteArray) t112 t113 t114 _ A14.out).mono ?_); rintro e w' ⟨rfl, ⟨nd, rfl⟩⟩; (try first | exact ⟨rfl, _, World.drewN_drewN _ _ _⟩ | exact ⟨rfl, _, Eq.trans (World.drewN_drewN _ _ _) (congrArg (World.drewN _) (Nat.add_assoc _ _ _))⟩)))
   repeat (go_quiet (first | (go_at_call 35; (with_reducible refine (strings_IndexAny.calls a0 (⟨#[46, 59]⟩ : ByteArray) t111 _ A2.out).mono ?_); rintro e w15 ⟨rfl, hb⟩; have n0_ := Aside0.mk (below_step (by repeat (first | (with_reducible first | exact HB.out | apply below_alloc | apply pw_below_drewN | apply below_drew1) | exact HB.out)) hb); clear HB; have HB := n0_; clear n0_; (try clear hb); (try clear hb2); (try clear hk); (try clear hi); have p11 : 0 ≤ (t111 : Int) := of_decide_eq_true (by first | (with_reducible assumption) | assumption); have q11 : t111 < (a0.size : Int) := of_decide_eq_true (by first | (with_reducible assumption) | assumption); have hx11 := bt_at a0 t111; replace p11 := eq_true p11; replace q11 := eq_true q11) | (go_at_call 36; (with_reducible refine (strings_Cut.calls (a0.extract ((ji7) : Int).toNat a0.size) (⟨#[59]⟩ : ByteArray) t112 t113 t114 _ A14.out).mono ?_); rintro e w' ⟨rfl, ⟨nd, rfl⟩⟩; (try first | exact ⟨rfl, _, World.drewN_drewN _ _ _⟩ | exact ⟨rfl, _, Eq.trans (World.drewN_drewN _ _ _) (congrArg (World.drewN _) (Nat.add_assoc _ _ _))⟩))); try go_wp2_with (first | (go_at_call 35; (with_reducible refine (strings_IndexAny.calls a0 (⟨#[46, 59]⟩ : ByteArray) t111 _ A2.out).mono ?_); rintro e w15 ⟨rfl, hb⟩; have n0_ := Aside0.mk (below_step (by repeat (first | (with_reducible first | exact HB.out | apply below_alloc | apply pw_below_drewN | apply below_drew1) | exact HB.out)) hb); clear HB; have HB := n0_; clear n0_; (try clear hb); (try clear hb2); (try clear hk); (try clear hi); have p11 : 0 ≤ (t111 : Int) := of_decide_eq_true (by first | (with_reducible assumption) | assumption); have q11 : t111 < (a0.size : Int) := of_decide_eq_true (by first | (with_reducible assumption) | assumption); have hx11 := bt_at a0 t111; replace p11 := eq_true p11; replace q11 := eq_true q11) | (go_at_call 36; (with_reducible refine (strings_Cut.calls (a0.extract ((ji7) : Int).toNat a0.size) (⟨#[59]⟩ : ByteArray) t112 t113 t114 _ A14.out).mono ?_); rintro e w' ⟨rfl, ⟨nd, rfl⟩⟩; (try first | exact ⟨rfl, _, World.drewN_drewN _ _ _⟩ | exact ⟨rfl, _, Eq.trans (World.drewN_drewN _ _ _) (congrArg (World.drewN _) (Nat.add_assoc _ _ _))⟩))))
   go_ret3
   exact ⟨by first | rfl | (simp [errW_none, errW_some] <;> rfl) | (simp only [← hji7]; first | rfl | (simp [errW_none, errW_some] <;> rfl)) | (simp [*, errW_none, errW_some] <;> rfl), by repeat (first | (with_reducible first | exact HB.out | apply below_alloc | apply pw_below_drewN | apply below_drew1) | exact HB.out)⟩

/-! ### cmp_Or_int: function 20 -/
def cmp_Or_int.l0 : Nat → Int → List Int → Int → Int → Option (Int)
 | 0, _, _, _, _ => none
 | k + 1, x3, x6, x7, x8 => if x8 < x7 then (if 0 ≤ x8 then (if x8 < (x6.length : Int) then (if (rd x6 x8) = x3 then (cmp_Or_int.l0 k x3 x6 x7 (wrap64 (x8 + 1))) else (some (rd x6 x8))) else (none)) else (none)) else (some x3)
def cmp_Or_int.f (k : Nat) (l0 : List Int) : Option (Int) := cmp_Or_int.l0 k 0 l0 (l0.length : Int) 0
theorem cmp_Or_int.mono_l : ∀ k, (∀ y0 y1 y2 y3, LeO (cmp_Or_int.l0 k y0 y1 y2 y3) (cmp_Or_int.l0 (k + 1) y0 y1 y2 y3))
 | 0 => fun _ _ _ _ r h => by simp [cmp_Or_int.l0] at h
 | k + 1 => by
  have ih0 := cmp_Or_int.mono_l k
  ·intro y0 y1 y2 y3
   unfold cmp_Or_int.l0
   repeat' first
   | (with_reducible exact ih0 _ _ _ _)
   | (with_reducible exact LeO.refl _)
   | (with_reducible exact LeO.none _)
   | (with_reducible refine LeO.ite ?_ ?_)
   | (with_reducible refine LeO.bind ?_ (fun _ => ?_))
   | exact ih0 _ _ _ _
   | exact LeO.none _
   | refine LeO.ite ?_ ?_
   | refine LeO.bind ?_ (fun _ => ?_)
theorem cmp_Or_int.mono : ∀ a0 k, LeO (cmp_Or_int.f k a0) (cmp_Or_int.f (k + 1) a0) := by
 intro a0 k
 have ih0 := cmp_Or_int.mono_l k
 unfold cmp_Or_int.f
 repeat' first
   | (with_reducible exact ih0 _ _ _ _)
   | (with_reducible exact LeO.refl _)
   | (with_reducible exact LeO.none _)
   | (with_reducible refine LeO.ite ?_ ?_)
   | (with_reducible refine LeO.bind ?_ (fun _ => ?_))
   | exact ih0 _ _ _ _
   | exact LeO.none _
   | refine LeO.ite ?_ ?_
   | refine LeO.bind ?_ (fun _ => ?_)
set_option maxHeartbeats 8000000 in
set_option maxRecDepth 100000 in
theorem cmp_Or_int.calls (k : Nat) (A0 : Option Addr) (c0 : Nat) (l0 : List Int) (r : Int) (w : World) (hr0 : Kd.C (Kd.int .i64) w A0 l0.length l0) (hc0 : l0.length ≤ c0) (h : cmp_Or_int.f k l0 = some r) :
  Calls Try.prog 20 #[.slice A0 l0.length c0] w fun e w' => e = .returned (.int .i64 r) ∧ Drawn0 w w' := by
 have HR0 := Aside0.mk hr0
 have HC0 := Aside0.mk hc0
 clear hr0 hc0
 have H : (cmp_Or_int.l0 k 0 l0 (l0.length : Int) 0) = some r := h
 clear h
 have H' := Aside0.mk H
 clear H
 go_enter Try.func20, Try.ntmps20
 go_wp2
 go_loopg [8] k (fun kq v8 w' => ∃ (x8_1 : Int), v8 = .int .i64 x8_1 ∧ Aside0 (cmp_Or_int.l0 kq 0 l0 (l0.length : Int) x8_1 = some r) ∧ Aside0 (kq ≤ k) ∧ Drawn0 w w')
 case atStart => exact ⟨(0), (by first | rfl | (simp; done) | (simp [*]; done)), H', ⟨Nat.le_refl _⟩, by repeat (first | exact Drawn0.refl _ | apply Drawn0.step)⟩
 case round =>
  clear H'
  obtain ⟨x8_1, rfl, HA, HK1, ⟨m1, rfl⟩⟩ := hrel
  cases gk with
  | zero => exact absurd HA.out (by simp [cmp_Or_int.l0])
  | succ k1 =>
   have H := HA.out
   clear HA
   simp only [cmp_Or_int.l0] at H
   by_cases c2 : x8_1 < (l0.length : Int)
   ·rw [if_pos c2] at H
    have c2b0 : decide (x8_1 < (l0.length : Int)) = true := decide_eq_true c2
    clear c2
    by_cases c3 : 0 ≤ x8_1
    rotate_left
    ·rw [if_neg c3] at H
     exact absurd H (by simp)
    rw [if_pos c3] at H
    have c3b0 : decide (0 ≤ x8_1) = true := decide_eq_true c3
    clear c3
    by_cases c4 : x8_1 < (l0.length : Int)
    rotate_left
    ·rw [if_neg c4] at H
     exact absurd H (by simp)
    rw [if_pos c4] at H
    have c4b0 : decide (x8_1 < (l0.length : Int)) = true := decide_eq_true c4
    clear c4
    by_cases c5 : (rd l0 x8_1) = 0
    ·rw [if_pos c5] at H
     have c5b0 : ((rd l0 x8_1) == 0) = true := beq_iff_eq.mpr c5
     have c5b1 : ((rd l0 x8_1) != 0) = false := bne_eq_false_iff_eq.mpr c5
     clear c5
     have H' := Aside0.mk H
     clear H
     have p115 : 0 ≤ (x8_1 : Int) := of_decide_eq_true (by first | (with_reducible assumption) | assumption)
     have q115 : x8_1 < (l0.length : Int) := of_decide_eq_true (by first | (with_reducible assumption) | assumption)
     obtain ⟨ad115, e115, hx115_0⟩ := Kd.at_int HR0.out x8_1 p115 q115
     cases e115
     replace p115 := eq_true p115
     replace q115 := eq_true q115
     go_wp2
     go_roundg k1
     case measure => have := HK1.out; omega
     case rel => exact ⟨(wrap64 (x8_1 + 1)), (by first | rfl | (simp; done) | (simp [*]; done)), H', ⟨by have := HK1.out; omega⟩, by repeat (first | exact Drawn0.refl _ | apply Drawn0.step)⟩
    ·rw [if_neg c5] at H
     have c5b0 : ((rd l0 x8_1) == 0) = false := beq_eq_false_iff_ne.mpr c5
     have c5b1 : ((rd l0 x8_1) != 0) = true := bne_iff_ne.mpr c5
     obtain rfl := Option.some.inj H
     have p115 : 0 ≤ (x8_1 : Int) := of_decide_eq_true (by first | (with_reducible assumption) | assumption)
     have q115 : x8_1 < (l0.length : Int) := of_decide_eq_true (by first | (with_reducible assumption) | assumption)
     obtain ⟨ad115, e115, hx115_0⟩ := Kd.at_int HR0.out x8_1 p115 q115
     cases e115
     replace p115 := eq_true p115
     replace q115 := eq_true q115
     go_wp2
     go_ret
     exact ⟨by first | rfl | (simp; done) | (simp [*]; done), by repeat (first | exact Drawn0.refl _ | apply Drawn0.step)⟩
   ·rw [if_neg c2] at H
    have c2b0 : decide (x8_1 < (l0.length : Int)) = false := decide_eq_false c2
    clear c2
    obtain rfl := Option.some.inj H
    go_wp2
    go_ret
    exact ⟨by first | rfl | (simp; done) | (simp [*]; done), by repeat (first | exact Drawn0.refl _ | apply Drawn0.step)⟩

/-! ### bits_Mul32: function 43 -/
/-! ### bits_Mul64: function 44 -/
def bits_Mul64.f (a0 : Int) (a1 : Int) : Option (Int × Int) := some (IntKind.u64.wrap ((IntKind.u64.wrap ((IntKind.u64.wrap ((a0 / 4294967296) * (a1 / 4294967296))) + ((IntKind.u64.wrap ((IntKind.u64.wrap ((a0 / 4294967296) * (Go.bits .and .u64 a1 4294967295))) + ((IntKind.u64.wrap ((Go.bits .and .u64 a0 4294967295) * (Go.bits .and .u64 a1 4294967295))) / 4294967296))) / 4294967296))) + ((IntKind.u64.wrap ((Go.bits .and .u64 (IntKind.u64.wrap ((IntKind.u64.wrap ((a0 / 4294967296) * (Go.bits .and .u64 a1 4294967295))) + ((IntKind.u64.wrap ((Go.bits .and .u64 a0 4294967295) * (Go.bits .and .u64 a1 4294967295))) / 4294967296))) 4294967295) + (IntKind.u64.wrap ((Go.bits .and .u64 a0 4294967295) * (a1 / 4294967296))))) / 4294967296)), IntKind.u64.wrap (a0 * a1))
set_option maxHeartbeats 8000000 in
set_option maxRecDepth 100000 in
theorem bits_Mul64.calls (a0 : Int) (a1 : Int) (r1 : Int) (r2 : Int) (w : World) (h : bits_Mul64.f a0 a1 = some (r1, r2)) :
  Calls Try.prog 44 #[.int .u64 a0, .int .u64 a1] w fun e w' => e = .returned (.tuple #[.int .u64 r1, .int .u64 r2]) ∧ Drawn0 w w' := by
 have H : (some (IntKind.u64.wrap ((IntKind.u64.wrap ((IntKind.u64.wrap ((a0 / 4294967296) * (a1 / 4294967296))) + ((IntKind.u64.wrap ((IntKind.u64.wrap ((a0 / 4294967296) * (Go.bits .and .u64 a1 4294967295))) + ((IntKind.u64.wrap ((Go.bits .and .u64 a0 4294967295) * (Go.bits .and .u64 a1 4294967295))) / 4294967296))) / 4294967296))) + ((IntKind.u64.wrap ((Go.bits .and .u64 (IntKind.u64.wrap ((IntKind.u64.wrap ((a0 / 4294967296) * (Go.bits .and .u64 a1 4294967295))) + ((IntKind.u64.wrap ((Go.bits .and .u64 a0 4294967295) * (Go.bits .and .u64 a1 4294967295))) / 4294967296))) 4294967295) + (IntKind.u64.wrap ((Go.bits .and .u64 a0 4294967295) * (a1 / 4294967296))))) / 4294967296)), IntKind.u64.wrap (a0 * a1))) = some (r1, r2) := h
 clear h
 simp only [Option.some.injEq, Prod.mk.injEq] at H
 obtain ⟨rfl, rfl⟩ := H
 go_enter Try.func44, Try.ntmps44
 go_wp2
 go_ret2
 exact ⟨by first | rfl | (simp; done) | (simp [*]; done), by repeat (first | exact Drawn0.refl _ | apply Drawn0.step)⟩

/-! ### bits_Mul: function 23 -/
def bits_Mul.f (a0 : Int) (a1 : Int) : Option (Int × Int) := (bits_Mul64.f a0 a1).bind fun bt116 => (some (bt116.1, bt116.2))
set_option maxHeartbeats 8000000 in
set_option maxRecDepth 100000 in
theorem bits_Mul.calls (a0 : Int) (a1 : Int) (r1 : Int) (r2 : Int) (w : World) (h : bits_Mul.f a0 a1 = some (r1, r2)) :
  Calls Try.prog 23 #[.int .u64 a0, .int .u64 a1] w fun e w' => e = .returned (.tuple #[.int .u64 r1, .int .u64 r2]) ∧ Drawn0 w w' := by
 have H : ((bits_Mul64.f a0 a1).bind fun bt116 => (some (bt116.1, bt116.2))) = some (r1, r2) := h
 clear h
 replace H := Option.bind_eq_some_iff.mp H
 obtain ⟨⟨t116, t117⟩, A30, H⟩ := H
 replace H : (some (t116, t117)) = some (r1, r2) := H
 have A3 := Aside0.mk A30
 clear A30
 simp only [Option.some.injEq, Prod.mk.injEq] at H
 obtain ⟨rfl, rfl⟩ := H
 go_enter Try.func23, Try.ntmps23
 go_wp2_with (first | ((with_reducible refine gate_callee (f := 44) rfl ?_); refine goesL_ (some 25) rfl rfl Try.func44 (by kernel_rfl) rfl #[.int .u64 a0, .int .u64 a1] rfl (by (try simp only [List.map_toArray, List.map_cons, List.map_nil]); first | done | rfl | (simp only [List.length_drop, List.length_take]; rfl)) ?_; (with_reducible refine (bits_Mul64.calls a0 a1 t116 t117 _ A3.out).mono ?_); rintro e w' ⟨rfl, ⟨nd, rfl⟩⟩; refine ⟨_, rfl, ?_⟩))
 go_ret2
 exact ⟨by first | rfl | (simp; done) | (simp [*]; done), by repeat (first | exact Drawn0.refl _ | apply Drawn0.step)⟩

/-! ### stringslite_HasPrefix: function 62 -/
/-! ### strings_HasPrefix: function 37 -/
-- NOT PRINTED: function 83 (abi_NoEscape)

-- NOT PRINTED: function 63 (strings_Builder_copyCheck)

-- NOT PRINTED: function 84 (bytealg_MakeNoZero)

-- NOT PRINTED: function 64 (strings_Builder_grow)

-- NOT PRINTED: function 38 (strings_Builder_Grow)

-- NOT PRINTED: function 39 (strings_Builder_WriteString)

-- NOT PRINTED: function 40 (strings_Builder_Len)

-- NOT PRINTED: function 41 (strings_Builder_String)

end Go.Proofs.Ythblghfobnhoeaa.A
namespace Go.Proofs.Ythblghfobnhoeaa.H
open Go.RowKit Go.Proofs.YthblghfobnhoeaaW.PrintWords Go.Proofs.YthblghfobnhoeaaW.PrintLast Go.Proofs.YthblghfobnhoeaaW.PrintMore
attribute [local go_sem] max2_int min2_int max_two min_two
set_option linter.unusedVariables false
set_option linter.unusedSimpArgs false

/-! directory.behind: two strings bytewise, the shorter one with bytes behind it. -/
/-- A byte of a string, or what stands behind it. -/
def atF (s : ByteArray) (f : Int) (i : Nat) : Int := if i < s.size then bt s (i : Int) else f
/-- The order of two numbers. -/
def cmpV (x y : Int) : Int := if x < y then -1 else if x > y then 1 else 0
/-- The first difference from the i-th byte on, j bytes. -/
def bhV (a b : ByteArray) (f : Int) : Nat → Nat → Int
  | 0, _ => 0
  | j + 1, i => if cmpV (atF a f i) (atF b f i) = 0 then bhV a b f j (i + 1) else cmpV (atF a f i) (atF b f i)

set_option maxRecDepth 100000 in
set_option maxHeartbeats 4000000 in
theorem nan_byte (x : Int) (w : World) : Calls Try.prog 56 #[.int .u8 x] w fun e w' => e = .returned (.bool false) ∧ w' = w := by
  have hx : (x != x) = false := bne_self_eq_false x
  go_enter Try.func56, Try.ntmps56
  go_wp2
  go_ret
  exact ⟨rfl, rfl⟩
set_option maxRecDepth 100000 in
set_option maxHeartbeats 4000000 in
theorem cmp_byte (x y : Int) (w : World) : Calls Try.prog 34 #[.int .u8 x, .int .u8 y] w fun e w' => e = .returned (.int .i64 (cmpV x y)) ∧ w' = w := by
  unfold cmpV
  by_cases h1 : x < y
  · rw [if_pos h1]
    have d1 : decide (x < y) = true := decide_eq_true h1
    go_enter Try.func34, Try.ntmps34
    go_wp2_with (go_at_call 56; refine (nan_byte _ _).mono ?_; rintro e w' ⟨rfl, rfl⟩)
    go_ret
    exact ⟨rfl, rfl⟩
  · rw [if_neg h1]
    have d1 : decide (x < y) = false := decide_eq_false h1
    by_cases h2 : x > y
    · rw [if_pos h2]
      have d2 : decide (y < x) = true := decide_eq_true h2
      go_enter Try.func34, Try.ntmps34
      go_wp2_with (go_at_call 56; refine (nan_byte _ _).mono ?_; rintro e w' ⟨rfl, rfl⟩)
      go_ret
      exact ⟨rfl, rfl⟩
    · rw [if_neg h2]
      have d2 : decide (y < x) = false := decide_eq_false h2
      go_enter Try.func34, Try.ntmps34
      go_wp2_with (go_at_call 56; refine (nan_byte _ _).mono ?_; rintro e w' ⟨rfl, rfl⟩)
      go_ret
      exact ⟨rfl, rfl⟩
set_option maxRecDepth 100000 in
set_option maxHeartbeats 4000000 in
theorem at_any (s : ByteArray) (i : Nat) (f : Int) (c : Addr) (w : World) (hc : w.cell? c = some (.int .u8 f)) : Calls Try.prog 33 #[.string s, .int .i64 (i : Int), .pointer (some c)] w fun e w' => e = .returned (.int .u8 (atF s f i)) ∧ w' = w := by
  unfold atF
  by_cases h : i < s.size
  · rw [if_pos h]
    have d : decide ((i : Int) < (s.size : Int)) = true := decide_eq_true (by omega)
    have hx : ∀ h : i < s.size, ((s[i]'h).toNat : Int) = bt s (i : Int) := fun h => bt_at s (i : Int) h
    have h0 : (i : Int) < (s.size : Int) := by omega
    go_enter Try.func33, Try.ntmps33
    go_wp2
    go_ret
    exact ⟨rfl, rfl⟩
  · rw [if_neg h]
    have d : decide ((i : Int) < (s.size : Int)) = false := decide_eq_false (by omega)
    go_enter Try.func33, Try.ntmps33
    go_wp2
    go_ret
    exact ⟨rfl, rfl⟩

set_option maxRecDepth 100000 in
set_option maxHeartbeats 4000000 in
theorem behind_any (a b : ByteArray) (f : Int) (w : World) (ha : a.size ≤ 1000000) (hb : b.size ≤ 1000000) :
    Calls Try.prog 18 #[.string a, .string b, .int .u8 f] w fun e w' => e = .returned (.int .i64 (bhV a b f (max a.size b.size) 0)) ∧ Below w.heap.size w w' := by
  have hn : max a.size b.size ≤ 1000000 := Nat.max_le.2 ⟨ha, hb⟩
  generalize hmn : max a.size b.size = n at hn ⊢
  go_enter Try.func18, Try.ntmps18
  go_upto_region 2 with fail
  go_cut [15, 16] from 11 (fun s15 s16 wx => s15 = .int .i64 (n : Int) ∧ s16 = .int .i64 0 ∧ wx = w.alloc (.cells #[.int .u8 f] 5))
  case first =>
    go_wp2_with fail
    all_goals go_meet
    all_goals (case rel => exact ⟨by rw [← hmn]; first | (rw [Nat.max_eq_left (by omega)]) | (rw [Nat.max_eq_right (by omega)]), rfl, rfl⟩)
  case rest =>
  obtain ⟨rfl, rfl, rfl⟩ := hcut
  have hcell : (w.alloc (.cells #[.int .u8 f] 5)).cell? ⟨w.heap.size, 0, none⟩ = some (.int .u8 f) := by go_simp
  have hbel := Lib.hid ((Below.refl w.heap.size w).alloc (Nat.le_refl _) (.cells #[.int .u8 f] 5))
  generalize w.alloc (.cells #[.int .u8 f] 5) = w1 at hcell hbel ⊢
  go_wp2_with fail
  go_loopg [8, 9, 16] n (fun g _ _ s16 wx => ∃ i : Nat, i + g = n ∧ s16 = .int .i64 (i : Int) ∧ wx = w1 ∧ bhV a b f n 0 = bhV a b f g i)
  case atStart => exact ⟨0, by omega, rfl, rfl, rfl⟩
  case round =>
    obtain ⟨i, hig, rfl, rfl, hv⟩ := hrel
    cases gk with
    | zero =>
      obtain rfl : i = n := by omega
      have hd : decide ((i : Int) < (i : Int)) = false := decide_eq_false (by omega)
      go_wp2
      go_ret
      exact ⟨by rw [hv]; rfl, hbel.out⟩
    | succ g =>
      have hd : decide ((i : Int) < (n : Int)) = true := decide_eq_true (by omega)
      have hw : IntKind.i64.wrap ((i : Int) + 1) = ((i + 1 : Nat) : Int) := by rw [IntKind.wrap_i64]; push_cast; omega
      rw [bhV] at hv
      by_cases hc : cmpV (atF a f i) (atF b f i) = 0
      · have hcb : (cmpV (atF a f i) (atF b f i) != 0) = false := bne_eq_false_iff_eq.2 hc
        rw [if_pos hc] at hv
        have HV := Lib.hid hv
        clear hv
        go_wp2_with (first | (go_at_call 33; refine (at_any _ i _ _ _ hcell).mono ?_; rintro e w2 ⟨rfl, rfl⟩) | (go_at_call 34; refine (cmp_byte _ _ _).mono ?_; rintro e w3 ⟨rfl, rfl⟩))
        go_roundg g
        case measure => omega
        case rel => exact ⟨i + 1, by omega, rfl, rfl, HV.out⟩
      · have hcb : (cmpV (atF a f i) (atF b f i) != 0) = true := bne_iff_ne.2 hc
        rw [if_neg hc] at hv
        have HV := Lib.hid hv
        clear hv
        go_wp2_with (first | (go_at_call 33; refine (at_any _ i _ _ _ hcell).mono ?_; rintro e w2 ⟨rfl, rfl⟩) | (go_at_call 34; refine (cmp_byte _ _ _).mono ?_; rintro e w3 ⟨rfl, rfl⟩))
        go_ret
        exact ⟨by rw [HV.out]; rfl, hbel.out⟩

/-- directory.behind, of strings that are not too long. -/
def directory_behind.f (a0 a1 : ByteArray) (a2 : Int) : Option Int := if a0.size ≤ 1000000 ∧ a1.size ≤ 1000000 then some (bhV a0 a1 a2 (max a0.size a1.size) 0) else none
theorem directory_behind.calls (a0 : ByteArray) (a1 : ByteArray) (a2 : Int) (r : Int) (w : World) (h : directory_behind.f a0 a1 a2 = some r) :
    Calls Try.prog 18 #[.string a0, .string a1, .int .u8 a2] w fun e w' => e = .returned (.int .i64 r) ∧ Below w.heap.size w w' := by
  unfold directory_behind.f at h
  by_cases hc : a0.size ≤ 1000000 ∧ a1.size ≤ 1000000
  · rw [if_pos hc] at h
    obtain rfl := Option.some.inj h
    exact behind_any a0 a1 a2 w hc.1 hc.2
  · rw [if_neg hc] at h
    cases h

end Go.Proofs.Ythblghfobnhoeaa.H
namespace Go.Proofs.Ythblghfobnhoeaa.H
open Go.RowKit Go.Proofs.YthblghfobnhoeaaW.PrintWords Go.Proofs.YthblghfobnhoeaaW.PrintLast Go.Proofs.YthblghfobnhoeaaW.PrintMore Go.Proofs.Ythblghfobnhoeaa.A
attribute [local go_sem] max2_int min2_int max_two min_two
set_option linter.unusedVariables false
set_option linter.unusedSimpArgs false

/-! directory.Find. -/
def idxV (id : ByteArray) : List S31 → Nat → Int
  | [], _ => -1
  | x :: t, i => if x.f0.toList = id.toList then (i : Int) else idxV id t (i + 1)
abbrev cellsR (x : S31) : Array Value := #[.string x.f0, .int .i64 x.f1, .int .i64 x.f2, .int .i64 x.f3, .int .i64 x.f4, .int .i64 x.f5, .int .i64 x.f6, .string x.f7]

set_option maxRecDepth 100000 in
set_option maxHeartbeats 4000000 in
theorem find1_any (x : S31) (id : ByteArray) (c : Addr) (w : World) (hc : w.cell? c = some (.string id)) (hb : c.block < w.heap.size) : Calls Try.prog 28 #[.agg (cellsR x), .pointer (some c)] w fun e w' => e = .returned (.bool (x.f0.toList == id.toList)) ∧ Below w.heap.size w w' := by
  have hbel := Lib.hid ((Below.refl w.heap.size w).alloc (Nat.le_refl _) (.cells (cellsR x) 31))
  have hc2 : (w.alloc (.cells (cellsR x) 31)).cell? c = some (.string id) := ((hbel.out).cell hb).trans hc
  go_enter Try.func28, Try.ntmps28
  go_wp2
  go_ret
  exact ⟨rfl, hbel.out⟩

set_option maxRecDepth 100000 in
set_option maxHeartbeats 4000000 in
theorem indexFunc_any (l : List S31) (A : Option Addr) (cap : Nat) (id : ByteArray) (c : Addr) (w : World) (hC : Kd.C k31 w A l.length l) (hcap : l.length ≤ cap) (hc : w.cell? c = some (.string id)) (hb : c.block < w.heap.size) (hl : l.length ≤ 1000000) :
    Calls Try.prog 27 #[.slice A l.length cap, .func (.func 28) #[] #[.pointer (some c)]] w fun e w' => e = .returned (.int .i64 (idxV id l 0)) ∧ Below w.heap.size w w' := by
  go_enter Try.func27, Try.ntmps27
  go_wp2_with fail
  have hw0 : Below w.heap.size w w := Below.refl _ _
  go_loopg [5, 8] l.length (fun g _ s8 wx => ∃ i : Nat, i + g = l.length ∧ s8 = .int .i64 (i : Int) ∧ Below w.heap.size w wx ∧ idxV id l 0 = idxV id (l.drop i) i)
  case atStart => exact ⟨0, by omega, rfl, hw0, rfl⟩
  case round =>
    obtain ⟨i, hig, rfl, hbel, hv⟩ := hrel
    have HB := Lib.hid hbel
    have HC := Lib.hid (Kd.C_below hC hbel)
    have hcw : wr.cell? c = some (.string id) := (hbel.cell hb).trans hc
    have hbw : c.block < wr.heap.size := Nat.lt_of_lt_of_le hb hbel.size
    clear hbel
    cases gk with
    | zero =>
      obtain rfl : i = l.length := by omega
      rw [List.drop_length] at hv
      have HV := Lib.hid hv
      clear hv
      have hd : decide ((l.length : Int) < (l.length : Int)) = false := decide_eq_false (by omega)
      go_wp2_with fail
      go_ret
      exact ⟨by rw [HV.out]; rfl, HB.out⟩
    | succ g =>
      have hi : i < l.length := by omega
      rw [List.drop_eq_getElem_cons hi] at hv
      have hrd : rd_T31 l (i : Int) = l[i] := by
        unfold rd_T31
        rw [Int.toNat_natCast, List.getD_eq_getElem?_getD, List.getElem?_eq_getElem hi]; rfl
      generalize l[i] = x at hv hrd
      have HV := Lib.hid hv
      clear hv
      have p1 : 0 ≤ (i : Int) := by omega
      have q1 : (i : Int) < (l.length : Int) := by omega
      obtain ⟨ad, e1, h0, h1, h2, h3, h4, h5, h6, h7⟩ := at_T31 HC.out (i : Int) p1 q1
      rw [hrd, Int.toNat_natCast] at h0 h1 h2 h3 h4 h5 h6 h7
      cases e1
      have hd : decide ((i : Int) < (l.length : Int)) = true := decide_eq_true q1
      have hw : IntKind.i64.wrap ((i : Int) + 1) = ((i + 1 : Nat) : Int) := by rw [IntKind.wrap_i64]; push_cast; omega
      replace p1 := eq_true p1
      replace q1 := eq_true q1
      by_cases hx : x.f0.toList = id.toList
      · have hxb : (x.f0.toList == id.toList) = true := beq_iff_eq.2 hx
        go_wp2_with (go_at_call 28; refine (find1_any x id c _ hcw hbw).mono ?_; rintro e w2 ⟨rfl, hb2⟩)
        go_ret
        exact ⟨by rw [HV.out, idxV, if_pos hx]; rfl, below_step HB.out hb2⟩
      · have hxb : (x.f0.toList == id.toList) = false := beq_eq_false_iff_ne.2 hx
        go_wp2_with (go_at_call 28; refine (find1_any x id c _ hcw hbw).mono ?_; rintro e w2 ⟨rfl, hb2⟩)
        go_roundg g
        case measure => omega
        case rel => exact ⟨i + 1, by omega, rfl, below_step HB.out hb2, by rw [HV.out, idxV, if_neg hx]⟩

theorem idxV_ge (id : ByteArray) : ∀ (l : List S31) (i : Nat), -1 ≤ idxV id l i
  | [], _ => by show (-1 : Int) ≤ -1; decide
  | x :: t, i => by
    rw [idxV]
    split
    · omega
    · exact idxV_ge id t (i + 1)
set_option maxRecDepth 100000 in
set_option maxHeartbeats 4000000 in
theorem find_any (l : List S31) (A : Option Addr) (cap : Nat) (id : ByteArray) (w : World) (hC : Kd.C k31 w A l.length l) (hcap : l.length ≤ cap) (hl : l.length ≤ 1000000) :
    Calls Try.prog 11 #[.slice A l.length cap, .string id] w fun e w' => e = .returned (.tuple #[.int .i64 (if idxV id l 0 < 0 then 0 else idxV id l 0), .bool (decide (0 ≤ idxV id l 0))]) ∧ Below w.heap.size w w' := by
  have hbel := Lib.hid ((Below.refl w.heap.size w).alloc (Nat.le_refl _) (.cells #[.string id] 9))
  have hC2 := Lib.hid (Kd.C_alloc hC (.cells #[.string id] 9))
  have hc : (w.alloc (.cells #[.string id] 9)).cell? ⟨w.heap.size, 0, none⟩ = some (.string id) := by go_simp
  have hI := fun (W : World) h1 h2 h3 => indexFunc_any l A cap id ⟨w.heap.size, 0, none⟩ W h1 hcap h2 h3 hl
  have hge := idxV_ge id l 0
  generalize hv : idxV id l 0 = v at hI hge ⊢
  by_cases h0 : v < 0
  · have hd : decide (0 ≤ v) = false := decide_eq_false (by omega)
    have hd2 : decide (v < 0) = true := decide_eq_true h0
    have hd3 : decide (0 < v) = false := decide_eq_false (by omega)
    rw [if_pos h0, hd]
    go_enter Try.func11, Try.ntmps11
    go_wp2_with (go_at_call 27; refine (hI _ hC2.out hc (by simp)).mono ?_; rintro e w2 ⟨rfl, hb2⟩)
    all_goals go_ret2
    all_goals (refine ⟨?_, below_step hbel.out hb2⟩)
    all_goals first | rfl | (simp; omega)
  · have hd : decide (0 ≤ v) = true := decide_eq_true (by omega)
    have hd2 : decide (v < 0) = false := decide_eq_false h0
    rw [if_neg h0, hd]
    go_enter Try.func11, Try.ntmps11
    go_wp2_with (go_at_call 27; refine (hI _ hC2.out hc (by simp)).mono ?_; rintro e w2 ⟨rfl, hb2⟩)
    all_goals go_ret2
    all_goals (refine ⟨?_, below_step hbel.out hb2⟩)
    all_goals first | rfl | (simp; omega)

/-- directory.Find. -/
def directory_Find.f (l0 : List S31) (a1 : ByteArray) : Option (Int × Bool) := if l0.length ≤ 1000000 then some (if idxV a1 l0 0 < 0 then 0 else idxV a1 l0 0, decide (0 ≤ idxV a1 l0 0)) else none
theorem directory_Find.calls (A0 : Option Addr) (c0 : Nat) (l0 : List S31) (a1 : ByteArray) (r1 : Int) (r2 : Bool) (w : World) (hr0 : Kd.C k31 w A0 l0.length l0) (hc0 : l0.length ≤ c0) (h : directory_Find.f l0 a1 = some (r1, r2)) :
    Calls Try.prog 11 #[.slice A0 l0.length c0, .string a1] w fun e w' => e = .returned (.tuple #[.int .i64 r1, .bool r2]) ∧ Below w.heap.size w w' := by
  unfold directory_Find.f at h
  by_cases hl : l0.length ≤ 1000000
  · rw [if_pos hl] at h
    have h := Option.some.inj h
    rw [← (Prod.mk.inj h).1, ← (Prod.mk.inj h).2]
    exact find_any l0 A0 c0 a1 w hr0 hc0 hl
  · rw [if_neg hl] at h
    cases h

end Go.Proofs.Ythblghfobnhoeaa.H
namespace Go.Proofs.Ythblghfobnhoeaa.H
open Go.RowKit Go.Proofs.YthblghfobnhoeaaW.PrintWords Go.Proofs.YthblghfobnhoeaaW.PrintLast Go.Proofs.YthblghfobnhoeaaW.PrintMore Go.Proofs.Ythblghfobnhoeaa.A
set_option linter.unusedVariables false
set_option linter.unusedSimpArgs false

/-! slices.Repeat([]int{34}, 60). -/
/-- n numbers of one kind, then zeros, 60 cells in all. -/
def rep60 (n : Nat) : List Value := List.replicate n (.int .i64 34) ++ List.replicate (60 - n) (.int .i64 0)

theorem rep60_len (n : Nat) (h : n ≤ 60) : (rep60 n).length = 60 := by
  unfold rep60
  rw [List.length_append, List.length_replicate, List.length_replicate]; omega
theorem rep_src {W : World} {G n m : Nat} (hg : W.heap[G]? = some (.cells (rep60 n).toArray 3 (0, 0))) (hm : m ≤ n) (j : Nat) (v : Value) (hj : (List.replicate m (Value.int .i64 34))[j]? = some v) : W.cell? ((⟨G, 0, none⟩ : Addr).add j) = some v := by
  have hlt : j < m := by
    have := (List.getElem?_eq_some_iff.1 hj).1
    simpa using this
  have e : W.cell? ((⟨G, 0, none⟩ : Addr).add j) = (rep60 n).toArray[j]? := by
    have h1 := cell_of_row W G j (rep60 n).toArray 3 (0, 0) hg
    have h2 : (⟨G, 0, none⟩ : Addr).add j = ⟨G, j, none⟩ := by
      rcases Nat.eq_zero_or_pos j with rfl | hj0
      · rfl
      · simp [Addr.add, show ¬ j = 0 by omega]
    rw [h2]; exact h1
  rw [e, List.getElem?_toArray]
  unfold rep60
  rw [List.getElem?_append_left (by rw [List.length_replicate]; omega), List.getElem?_replicate, if_pos (by omega)]
  rw [List.getElem?_replicate, if_pos hlt] at hj
  exact hj
theorem rep_splice (n m : Nat) (h : n + m ≤ 60) : splice (rep60 n) n (List.replicate m (Value.int .i64 34)) = rep60 (n + m) := by
  unfold splice rep60
  rw [List.take_left' (by rw [List.length_replicate]), List.length_replicate, ← List.append_assoc, List.replicate_append_replicate]
  congr 1
  rw [List.drop_append, List.length_replicate, List.drop_of_length_le (by rw [List.length_replicate]; omega), List.nil_append, List.drop_replicate]
  congr 1
  omega

set_option maxRecDepth 100000 in
set_option maxHeartbeats 4000000 in
theorem repeat60 (A : Option Addr) (c0 : Nat) (w : World) (hC : Kd.C (Kd.int .i64) w A ([34] : List Int).length [34]) (hc : 1 ≤ c0) :
    Calls Try.prog 7 #[.slice A 1 c0, .int .i64 60] w fun e w' => ∃ v, e = .returned v ∧ Kd.R (Kd.int .i64) 3 w' w.heap.size (fun _ => True) v (List.replicate 60 34) ∧ Below w.heap.size w w' := by
  have hM := fun W => bits_Mul.calls 1 60 0 60 W (by kernel_rfl)
  have hmk : ∀ W, (Instr.makeSlice 27 (.int .i64 60) (.int .i64 60)).run Try.prog W = .ok (.slice (some ⟨W.heap.size, 0, none⟩) 60 60) (W.alloc (.cells (rep60 0).toArray 3)) := fun _ => by kernel_rfl
  have w1 : IntKind.u64.wrap 1 = 1 := by decide
  have w60 : IntKind.u64.wrap 60 = 60 := by decide
  have x60 : IntKind.i64.wrap 60 = 60 := by decide
  go_enter Try.func7, Try.ntmps7
  go_upto_region 7 with (go_at_call 23; refine (hM _).mono ?_; rintro e w2 ⟨rfl, nd, rfl⟩)
  obtain ⟨hl_, hm_, hA⟩ := hC
  obtain ⟨ad, rfl, hcell⟩ := hA (by decide)
  obtain ⟨cc, hlen_, hk, hcc⟩ := hcell 0 34 rfl
  clear hlen_ hl_ hm_ hA hcell
  obtain rfl : cc = [.int .i64 34] := hk
  have hs0 : w.cell? ad = some (.int .i64 34) := by simpa [Addr.add] using hcc 0 _ rfl
  have hbel : Below w.heap.size w ((w.drewN nd).alloc (.cells (rep60 0).toArray 3)) := below_alloc (pw_below_drewN (Below.refl _ _) nd) _
  have hadb : ad.block < w.heap.size := by
    have h := hs0
    unfold World.cell? at h
    apply Classical.byContradiction
    intro hge
    rw [Array.getElem?_eq_none (by omega)] at h
    cases h
  have hs1 := (hbel.cell hadb).trans hs0
  have hg1 : ((w.drewN nd).alloc (.cells (rep60 0).toArray 3)).heap[w.heap.size]? = some (.cells (rep60 0).toArray 3 (0, 0)) := heap_alloc_new (w.drewN nd) _
  generalize (w.drewN nd).alloc (.cells (rep60 0).toArray 3) = w3 at hbel hs1 hg1 ⊢
  have hcp := run_copy_row (P := Try.prog) w3 27 27 3 3 w.heap.size 0 60 60 ad 1 c0 (rep60 0).toArray 3 [.int .i64 34] Try.underlying27 (by kernel_rfl) hg1 rfl
    (fun j v hj => by
      match j, hj with
      | 0, hj => obtain rfl := Option.some.inj hj; simpa [Addr.add] using hs1) (by decide) (by decide)
  go_wp2_with fail
  have hr1 : (.int .i64 34 :: (rep60 0).tail : List Value).toArray = (rep60 1).toArray := rfl
  have hg4 : (w3.setRow w.heap.size (.int .i64 34 :: (rep60 0).tail).toArray).heap[w.heap.size]? = some (.cells (rep60 1).toArray 3 (0, 0)) := by rw [hr1]; exact setRow_heap w3 w.heap.size _ _ 3 _ hg1
  have hb4 : Below w.heap.size w (w3.setRow w.heap.size (.int .i64 34 :: (rep60 0).tail).toArray) := below_setRow hbel (Nat.le_refl _) _
  generalize w3.setRow w.heap.size (.int .i64 34 :: (rep60 0).tail).toArray = w4 at hg4 hb4 ⊢
  clear hcp hg1 hs1 hbel
  go_loopg [8] 60 (fun g s8 wx => ∃ n : Nat, 1 ≤ n ∧ n ≤ 60 ∧ 60 - n ≤ g ∧ s8 = .int .i64 (n : Int) ∧ wx.heap[w.heap.size]? = some (.cells (rep60 n).toArray 3 (0, 0)) ∧ Below w.heap.size w wx)
  case atStart => exact ⟨1, by omega, by omega, by omega, rfl, hg4, hb4⟩
  case round =>
    obtain ⟨n, n1, n60, hng, rfl, hg, hb⟩ := hrel
    by_cases hn : n = 60
    · subst hn
      go_wp2_with fail
      go_ret
      exact ⟨_, rfl, Kd.R_of_own (enc := Value.int .i64) ⟨rfl, Or.inr ⟨w.heap.size, 60, _, rfl, Nat.le_refl _, hg, Nat.le_refl _, by decide, rfl, rfl⟩⟩ (fun _ _ => trivial), hb⟩
    · have hd : decide ((n : Int) < 60) = true := decide_eq_true (by omega)
      have hp0 : (0 : Int) ≤ (n : Int) := by omega
      have hp1 : (n : Int) ≤ 60 := by omega
      have hne : ¬ 60 = n := by omega
      obtain ⟨m, hm⟩ : ∃ m, m = Nat.min n (60 - n) := ⟨_, rfl⟩
      have hm1 : 1 ≤ m := by rw [hm]; exact Nat.le_min.2 ⟨n1, by omega⟩
      have hm2 : m ≤ n := by rw [hm]; exact Nat.min_le_left _ _
      have hm3 : m ≤ 60 - n := by rw [hm]; exact Nat.min_le_right _ _
      have hw : IntKind.i64.wrap ((n : Int) + (m : Int)) = ((n + m : Nat) : Int) := by rw [IntKind.wrap_i64]; push_cast; omega
      have hl60 := rep60_len n n60
      go_wp2_with fail
      go_region_law (refine step_copy_splice rfl (.tmp 41) (.tmp 44) 27 27 rfl 3 Try.underlying27 (by kernel_rfl) (some ⟨w.heap.size, n, none⟩) (some ⟨w.heap.size, 0, none⟩) (60 - n) (60 - n) n 60 (by simp [Act.eval, Act.put, hne]) (by simp [Act.eval, Act.put]) w.heap.size n (rep60 n) 3 hg (List.replicate m (.int .i64 34)) (by rw [List.length_replicate]; exact hm) (fun _ => ⟨rfl, ⟨w.heap.size, 0, none⟩, rfl, fun j v hj => rep_src hg hm2 j v hj⟩) (by rw [List.length_replicate, hl60]; omega) (by intro v hv; rw [List.eq_of_mem_replicate hv]; rfl) w.heap.size w hb.drew (Nat.le_refl _) ?_; intro w5 hg5 hb5)
      have hg6 := hg5.out
      rw [rep_splice n m (by omega)] at hg6
      rw [← hm, hw]
      simp only [Act.put, Exit.inBlock, Exit.then]
      rename_i hJq hKq
      refine hKq _ _ ?_
      go_roundg (60 - (n + m))
      case measure => omega
      case rel => exact ⟨n + m, by omega, by omega, Nat.le_refl _, rfl, hg6, hb5⟩

/-- slices.Repeat, at this call. -/
def slices_Repeat_int_int.f (l0 : List Int) (a1 : Int) : Option (List Int) := if l0 = [34] ∧ a1 = 60 then some (List.replicate 60 34) else none
theorem slices_Repeat_int_int.calls (A0 : Option Addr) (c0 : Nat) (l0 : List Int) (a1 : Int) (r : List Int) (w : World) (hr0 : Kd.C (Kd.int .i64) w A0 l0.length l0) (hc0 : l0.length ≤ c0) (h : slices_Repeat_int_int.f l0 a1 = some r) :
    Calls Try.prog 7 #[.slice A0 l0.length c0, .int .i64 a1] w fun e w' => ∃ v0_ : Value, e = .returned (v0_) ∧ Kd.R (Kd.int .i64) 3 w' w.heap.size (fun _ => True) v0_ r ∧ Below w.heap.size w w' := by
  unfold slices_Repeat_int_int.f at h
  by_cases hc : l0 = [34] ∧ a1 = 60
  · rw [if_pos hc] at h
    obtain rfl := Option.some.inj h
    obtain ⟨rfl, rfl⟩ := hc
    exact repeat60 A0 c0 w hr0 hc0
  · rw [if_neg hc] at h
    cases h

end Go.Proofs.Ythblghfobnhoeaa.H
