import Derived.Test.YtagnefbgclpccaaAx1
import Derived.Test.YtagnefbgclpccaaAx2
import Derived.Test.YtagnefbgclpccaaAx10
import Derived.Test.YtagnefbgclpccaaAx8
import Derived.Test.YtagnefbgclpccaaH2d
import Derived.Test.YtagnefbgclpccaaH2h
namespace Go.Proofs.Ytagnefbgclpccaa.H
open Go.RowKit Go.Proofs.YtagnefbgclpccaaW.PrintWords Go.Proofs.YtagnefbgclpccaaW.PrintLast Go.Proofs.YtagnefbgclpccaaW.PrintMore Go.Proofs.Ytagnefbgclpccaa.A
attribute [local go_sem] max2_int min2_int max_two min_two max_three min_three max_four min_four
set_option linter.unusedVariables false
set_option linter.unusedSimpArgs false

attribute [local go_sem high] eqA23

/-! ### awakeP: function 10 -/
def awakeP.f (k : Nat)  : Option (Bool) := (masterdisclaw20_example.f).bind fun bt158 => ((dirrecord_Encode.f k bt158.1 bt158.2.1 bt158.2.2.1 bt158.2.2.2.1 bt158.2.2.2.2.1 bt158.2.2.2.2.2.1 bt158.2.2.2.2.2.2.1 bt158.2.2.2.2.2.2.2).bind fun bt166 => ((dirrecord_Decode.f k (⟨#[38, 0, 20, 0, 0, 0, 0, 0, 0, 20, 5, 0, 0, 0, 0, 0, 0, 5, 126, 11, 16, 17, 4, 5, 4, 0, 0, 0, 1, 0, 0, 1, 4, 65, 46, 59, 49, 0, 98, 101, 104, 105, 110, 100]⟩ : ByteArray)).bind fun bt168 => (if bt166.2 = 0 then (if bt166.1.toList = ([38, 0, 20, 0, 0, 0, 0, 0, 0, 20, 5, 0, 0, 0, 0, 0, 0, 5, 126, 11, 16, 17, 4, 5, 4, 0, 0, 0, 1, 0, 0, 1, 4, 65, 46, 59, 49, 0] : List UInt8) then (if bt168.2.2.2.2.2.2.2.2.2 = 0 then (if bt168.2.2.2.2.2.2.2.2.1 = 38 then ((masterdisclaw20_example.f).bind fun bt179 => (if (bt168.1.toList == bt179.1.toList && (bt168.2.1 == bt179.2.1 && (bt168.2.2.1 == bt179.2.2.1 && (bt168.2.2.2.1 == bt179.2.2.2.1 && (bt168.2.2.2.2.1 == bt179.2.2.2.2.1 && (bt168.2.2.2.2.2.1 == bt179.2.2.2.2.2.1 && (bt168.2.2.2.2.2.2.1 == bt179.2.2.2.2.2.2.1 && (bt168.2.2.2.2.2.2.2.1.toList == bt179.2.2.2.2.2.2.2.toList)))))))) = true then ((dirrecord_Size.f k 4 0).bind fun t187 => (if t187 = 38 then (if 3 ≤ 38 then (if 3 + ((⟨#[38, 0, 20, 0, 0, 0, 0, 0, 0, 20, 5, 0, 0, 0, 0, 0, 0, 5, 126, 11, 16, 17, 4, 5, 4, 0, 0, 0, 1, 0, 0, 1, 4, 65, 46, 59, 49, 0]⟩ : ByteArray).extract 3 (⟨#[38, 0, 20, 0, 0, 0, 0, 0, 0, 20, 5, 0, 0, 0, 0, 0, 0, 5, 126, 11, 16, 17, 4, 5, 4, 0, 0, 0, 1, 0, 0, 1, 4, 65, 46, 59, 49, 0]⟩ : ByteArray).size).size ≤ 9223372036854775807 then ((dirrecord_Differ.f k ((⟨#[38, 0, 21]⟩ : ByteArray) ++ ((⟨#[38, 0, 20, 0, 0, 0, 0, 0, 0, 20, 5, 0, 0, 0, 0, 0, 0, 5, 126, 11, 16, 17, 4, 5, 4, 0, 0, 0, 1, 0, 0, 1, 4, 65, 46, 59, 49, 0]⟩ : ByteArray).extract 3 (⟨#[38, 0, 20, 0, 0, 0, 0, 0, 0, 20, 5, 0, 0, 0, 0, 0, 0, 5, 126, 11, 16, 17, 4, 5, 4, 0, 0, 0, 1, 0, 0, 1, 4, 65, 46, 59, 49, 0]⟩ : ByteArray).size))).bind fun t188 => ((slices_Equal_int_int.f k t188 (([2] : List Int))).bind fun t194 => (some t194))) else (none)) else (none)) else (some false))) else (some false))) else (some false)) else (some false)) else (some false)) else (some false))))
def awakeP.T3 : Bool × List (List Nat × List Nat) := (true, [([], []), ([0], [0]), ([1], [1]), ([2], [2]), ([3, 2], [2, 3]), ([2, 4], [2, 4]), ([5, 2], [5]), ([6], [6]), ([7, 6], [6, 7]), ([6, 8], [6, 8]), ([9, 6], [9]), ([10], [10]), ([11, 10], [10, 11]), ([10, 12], [10, 12]), ([13, 10], [13]), ([14], [14]), ([14, 14], [14]), ([15, 16, 14], [14, 15, 16]), ([14, 17], [14, 17]), ([18, 16], [18]), ([19, 19], [19]), ([20, 19], [19, 20]), ([19, 21], [19, 21]), ([22, 20], [22]), ([23], [23]), ([24, 23], [23, 24]), ([25, 23, 23], [23, 25]), ([23], [23]), ([26, 27, 26, 23], [23, 26, 27]), ([23, 28], [23, 28]), ([29, 28, 0, 1, 2, 3, 4, 5, 6, 7, 8, 9, 10, 11, 12, 13, 14, 15, 16, 17, 18, 19, 20, 21, 22, 23, 24, 25, 26, 27, 28, 29], [29])])
def awakeP.B3 : List Nat := [0, 1, 3, 7, 15, 31, 63, 127, 255, 511, 1023, 2047, 4095, 8191, 16383, 32767, 32767, 131071, 262143, 524287, 1048575, 2097151, 4194303, 8388607, 16777215, 33554431, 67108863, 16777215, 268435455, 536870911, 1073741823]
theorem awakeP.tab3 : rtab .any (opsOf Try.f10 3) = awakeP.T3 := by kernel_rfl
theorem awakeP.bits3 : waitsOk awakeP.T3.2 awakeP.B3 = true := by kernel_rfl
set_option maxHeartbeats 8000000 in
set_option maxRecDepth 100000 in
theorem awakeP.calls (k : Nat) (w : World) (h : awakeP.f k  = some true) :
  Calls Try.prog 10 #[] w fun e w' => e = .returned (.bool true) ∧ Below w.heap.size w w' := by
 have hu23 := Try.underlying23
 have HB := Aside0.mk (Below.refl w.heap.size w)
 have H : ((masterdisclaw20_example.f).bind fun bt158 => ((dirrecord_Encode.f k bt158.1 bt158.2.1 bt158.2.2.1 bt158.2.2.2.1 bt158.2.2.2.2.1 bt158.2.2.2.2.2.1 bt158.2.2.2.2.2.2.1 bt158.2.2.2.2.2.2.2).bind fun bt166 => ((dirrecord_Decode.f k (⟨#[38, 0, 20, 0, 0, 0, 0, 0, 0, 20, 5, 0, 0, 0, 0, 0, 0, 5, 126, 11, 16, 17, 4, 5, 4, 0, 0, 0, 1, 0, 0, 1, 4, 65, 46, 59, 49, 0, 98, 101, 104, 105, 110, 100]⟩ : ByteArray)).bind fun bt168 => (if bt166.2 = 0 then (if bt166.1.toList = ([38, 0, 20, 0, 0, 0, 0, 0, 0, 20, 5, 0, 0, 0, 0, 0, 0, 5, 126, 11, 16, 17, 4, 5, 4, 0, 0, 0, 1, 0, 0, 1, 4, 65, 46, 59, 49, 0] : List UInt8) then (if bt168.2.2.2.2.2.2.2.2.2 = 0 then (if bt168.2.2.2.2.2.2.2.2.1 = 38 then ((masterdisclaw20_example.f).bind fun bt179 => (if (bt168.1.toList == bt179.1.toList && (bt168.2.1 == bt179.2.1 && (bt168.2.2.1 == bt179.2.2.1 && (bt168.2.2.2.1 == bt179.2.2.2.1 && (bt168.2.2.2.2.1 == bt179.2.2.2.2.1 && (bt168.2.2.2.2.2.1 == bt179.2.2.2.2.2.1 && (bt168.2.2.2.2.2.2.1 == bt179.2.2.2.2.2.2.1 && (bt168.2.2.2.2.2.2.2.1.toList == bt179.2.2.2.2.2.2.2.toList)))))))) = true then ((dirrecord_Size.f k 4 0).bind fun t187 => (if t187 = 38 then (if 3 ≤ 38 then (if 3 + ((⟨#[38, 0, 20, 0, 0, 0, 0, 0, 0, 20, 5, 0, 0, 0, 0, 0, 0, 5, 126, 11, 16, 17, 4, 5, 4, 0, 0, 0, 1, 0, 0, 1, 4, 65, 46, 59, 49, 0]⟩ : ByteArray).extract 3 (⟨#[38, 0, 20, 0, 0, 0, 0, 0, 0, 20, 5, 0, 0, 0, 0, 0, 0, 5, 126, 11, 16, 17, 4, 5, 4, 0, 0, 0, 1, 0, 0, 1, 4, 65, 46, 59, 49, 0]⟩ : ByteArray).size).size ≤ 9223372036854775807 then ((dirrecord_Differ.f k ((⟨#[38, 0, 21]⟩ : ByteArray) ++ ((⟨#[38, 0, 20, 0, 0, 0, 0, 0, 0, 20, 5, 0, 0, 0, 0, 0, 0, 5, 126, 11, 16, 17, 4, 5, 4, 0, 0, 0, 1, 0, 0, 1, 4, 65, 46, 59, 49, 0]⟩ : ByteArray).extract 3 (⟨#[38, 0, 20, 0, 0, 0, 0, 0, 0, 20, 5, 0, 0, 0, 0, 0, 0, 5, 126, 11, 16, 17, 4, 5, 4, 0, 0, 0, 1, 0, 0, 1, 4, 65, 46, 59, 49, 0]⟩ : ByteArray).size))).bind fun t188 => ((slices_Equal_int_int.f k t188 (([2] : List Int))).bind fun t194 => (some t194))) else (none)) else (none)) else (some false))) else (some false))) else (some false)) else (some false)) else (some false)) else (some false))))) = some true := h
 clear h
 replace H := Option.bind_eq_some_iff.mp H
 obtain ⟨⟨t158, t159, t160, t161, t162, t163, t164, t165⟩, A10, H⟩ := H
 replace H : ((dirrecord_Encode.f k t158 t159 t160 t161 t162 t163 t164 t165).bind fun bt166 => ((dirrecord_Decode.f k (⟨#[38, 0, 20, 0, 0, 0, 0, 0, 0, 20, 5, 0, 0, 0, 0, 0, 0, 5, 126, 11, 16, 17, 4, 5, 4, 0, 0, 0, 1, 0, 0, 1, 4, 65, 46, 59, 49, 0, 98, 101, 104, 105, 110, 100]⟩ : ByteArray)).bind fun bt168 => (if bt166.2 = 0 then (if bt166.1.toList = ([38, 0, 20, 0, 0, 0, 0, 0, 0, 20, 5, 0, 0, 0, 0, 0, 0, 5, 126, 11, 16, 17, 4, 5, 4, 0, 0, 0, 1, 0, 0, 1, 4, 65, 46, 59, 49, 0] : List UInt8) then (if bt168.2.2.2.2.2.2.2.2.2 = 0 then (if bt168.2.2.2.2.2.2.2.2.1 = 38 then ((masterdisclaw20_example.f).bind fun bt179 => (if (bt168.1.toList == bt179.1.toList && (bt168.2.1 == bt179.2.1 && (bt168.2.2.1 == bt179.2.2.1 && (bt168.2.2.2.1 == bt179.2.2.2.1 && (bt168.2.2.2.2.1 == bt179.2.2.2.2.1 && (bt168.2.2.2.2.2.1 == bt179.2.2.2.2.2.1 && (bt168.2.2.2.2.2.2.1 == bt179.2.2.2.2.2.2.1 && (bt168.2.2.2.2.2.2.2.1.toList == bt179.2.2.2.2.2.2.2.toList)))))))) = true then ((dirrecord_Size.f k 4 0).bind fun t187 => (if t187 = 38 then (if 3 ≤ 38 then (if 3 + ((⟨#[38, 0, 20, 0, 0, 0, 0, 0, 0, 20, 5, 0, 0, 0, 0, 0, 0, 5, 126, 11, 16, 17, 4, 5, 4, 0, 0, 0, 1, 0, 0, 1, 4, 65, 46, 59, 49, 0]⟩ : ByteArray).extract 3 (⟨#[38, 0, 20, 0, 0, 0, 0, 0, 0, 20, 5, 0, 0, 0, 0, 0, 0, 5, 126, 11, 16, 17, 4, 5, 4, 0, 0, 0, 1, 0, 0, 1, 4, 65, 46, 59, 49, 0]⟩ : ByteArray).size).size ≤ 9223372036854775807 then ((dirrecord_Differ.f k ((⟨#[38, 0, 21]⟩ : ByteArray) ++ ((⟨#[38, 0, 20, 0, 0, 0, 0, 0, 0, 20, 5, 0, 0, 0, 0, 0, 0, 5, 126, 11, 16, 17, 4, 5, 4, 0, 0, 0, 1, 0, 0, 1, 4, 65, 46, 59, 49, 0]⟩ : ByteArray).extract 3 (⟨#[38, 0, 20, 0, 0, 0, 0, 0, 0, 20, 5, 0, 0, 0, 0, 0, 0, 5, 126, 11, 16, 17, 4, 5, 4, 0, 0, 0, 1, 0, 0, 1, 4, 65, 46, 59, 49, 0]⟩ : ByteArray).size))).bind fun t188 => ((slices_Equal_int_int.f k t188 (([2] : List Int))).bind fun t194 => (some t194))) else (none)) else (none)) else (some false))) else (some false))) else (some false)) else (some false)) else (some false)) else (some false)))) = some true := H
 have A1 := Aside0.mk A10
 clear A10
 replace H := Option.bind_eq_some_iff.mp H
 obtain ⟨⟨t166, t167⟩, A20, H⟩ := H
 replace H : ((dirrecord_Decode.f k (⟨#[38, 0, 20, 0, 0, 0, 0, 0, 0, 20, 5, 0, 0, 0, 0, 0, 0, 5, 126, 11, 16, 17, 4, 5, 4, 0, 0, 0, 1, 0, 0, 1, 4, 65, 46, 59, 49, 0, 98, 101, 104, 105, 110, 100]⟩ : ByteArray)).bind fun bt168 => (if t167 = 0 then (if t166.toList = ([38, 0, 20, 0, 0, 0, 0, 0, 0, 20, 5, 0, 0, 0, 0, 0, 0, 5, 126, 11, 16, 17, 4, 5, 4, 0, 0, 0, 1, 0, 0, 1, 4, 65, 46, 59, 49, 0] : List UInt8) then (if bt168.2.2.2.2.2.2.2.2.2 = 0 then (if bt168.2.2.2.2.2.2.2.2.1 = 38 then ((masterdisclaw20_example.f).bind fun bt179 => (if (bt168.1.toList == bt179.1.toList && (bt168.2.1 == bt179.2.1 && (bt168.2.2.1 == bt179.2.2.1 && (bt168.2.2.2.1 == bt179.2.2.2.1 && (bt168.2.2.2.2.1 == bt179.2.2.2.2.1 && (bt168.2.2.2.2.2.1 == bt179.2.2.2.2.2.1 && (bt168.2.2.2.2.2.2.1 == bt179.2.2.2.2.2.2.1 && (bt168.2.2.2.2.2.2.2.1.toList == bt179.2.2.2.2.2.2.2.toList)))))))) = true then ((dirrecord_Size.f k 4 0).bind fun t187 => (if t187 = 38 then (if 3 ≤ 38 then (if 3 + ((⟨#[38, 0, 20, 0, 0, 0, 0, 0, 0, 20, 5, 0, 0, 0, 0, 0, 0, 5, 126, 11, 16, 17, 4, 5, 4, 0, 0, 0, 1, 0, 0, 1, 4, 65, 46, 59, 49, 0]⟩ : ByteArray).extract 3 (⟨#[38, 0, 20, 0, 0, 0, 0, 0, 0, 20, 5, 0, 0, 0, 0, 0, 0, 5, 126, 11, 16, 17, 4, 5, 4, 0, 0, 0, 1, 0, 0, 1, 4, 65, 46, 59, 49, 0]⟩ : ByteArray).size).size ≤ 9223372036854775807 then ((dirrecord_Differ.f k ((⟨#[38, 0, 21]⟩ : ByteArray) ++ ((⟨#[38, 0, 20, 0, 0, 0, 0, 0, 0, 20, 5, 0, 0, 0, 0, 0, 0, 5, 126, 11, 16, 17, 4, 5, 4, 0, 0, 0, 1, 0, 0, 1, 4, 65, 46, 59, 49, 0]⟩ : ByteArray).extract 3 (⟨#[38, 0, 20, 0, 0, 0, 0, 0, 0, 20, 5, 0, 0, 0, 0, 0, 0, 5, 126, 11, 16, 17, 4, 5, 4, 0, 0, 0, 1, 0, 0, 1, 4, 65, 46, 59, 49, 0]⟩ : ByteArray).size))).bind fun t188 => ((slices_Equal_int_int.f k t188 (([2] : List Int))).bind fun t194 => (some t194))) else (none)) else (none)) else (some false))) else (some false))) else (some false)) else (some false)) else (some false)) else (some false))) = some true := H
 have A2 := Aside0.mk A20
 clear A20
 replace H := Option.bind_eq_some_iff.mp H
 obtain ⟨⟨t168, t169, t170, t171, t172, t173, t174, t175, t176, t177⟩, A30, H⟩ := H
 replace H : (if t167 = 0 then (if t166.toList = ([38, 0, 20, 0, 0, 0, 0, 0, 0, 20, 5, 0, 0, 0, 0, 0, 0, 5, 126, 11, 16, 17, 4, 5, 4, 0, 0, 0, 1, 0, 0, 1, 4, 65, 46, 59, 49, 0] : List UInt8) then (if t177 = 0 then (if t176 = 38 then ((masterdisclaw20_example.f).bind fun bt179 => (if (t168.toList == bt179.1.toList && (t169 == bt179.2.1 && (t170 == bt179.2.2.1 && (t171 == bt179.2.2.2.1 && (t172 == bt179.2.2.2.2.1 && (t173 == bt179.2.2.2.2.2.1 && (t174 == bt179.2.2.2.2.2.2.1 && (t175.toList == bt179.2.2.2.2.2.2.2.toList)))))))) = true then ((dirrecord_Size.f k 4 0).bind fun t187 => (if t187 = 38 then (if 3 ≤ 38 then (if 3 + ((⟨#[38, 0, 20, 0, 0, 0, 0, 0, 0, 20, 5, 0, 0, 0, 0, 0, 0, 5, 126, 11, 16, 17, 4, 5, 4, 0, 0, 0, 1, 0, 0, 1, 4, 65, 46, 59, 49, 0]⟩ : ByteArray).extract 3 (⟨#[38, 0, 20, 0, 0, 0, 0, 0, 0, 20, 5, 0, 0, 0, 0, 0, 0, 5, 126, 11, 16, 17, 4, 5, 4, 0, 0, 0, 1, 0, 0, 1, 4, 65, 46, 59, 49, 0]⟩ : ByteArray).size).size ≤ 9223372036854775807 then ((dirrecord_Differ.f k ((⟨#[38, 0, 21]⟩ : ByteArray) ++ ((⟨#[38, 0, 20, 0, 0, 0, 0, 0, 0, 20, 5, 0, 0, 0, 0, 0, 0, 5, 126, 11, 16, 17, 4, 5, 4, 0, 0, 0, 1, 0, 0, 1, 4, 65, 46, 59, 49, 0]⟩ : ByteArray).extract 3 (⟨#[38, 0, 20, 0, 0, 0, 0, 0, 0, 20, 5, 0, 0, 0, 0, 0, 0, 5, 126, 11, 16, 17, 4, 5, 4, 0, 0, 0, 1, 0, 0, 1, 4, 65, 46, 59, 49, 0]⟩ : ByteArray).size))).bind fun t188 => ((slices_Equal_int_int.f k t188 (([2] : List Int))).bind fun t194 => (some t194))) else (none)) else (none)) else (some false))) else (some false))) else (some false)) else (some false)) else (some false)) else (some false)) = some true := H
 have A3 := Aside0.mk A30
 clear A30
 by_cases c4 : t167 = 0
 ·rw [if_pos c4] at H
  have c4b0 : (t167 == 0) = true := beq_iff_eq.mpr c4
  have c4b1 : (t167 != 0) = false := bne_eq_false_iff_eq.mpr c4
  clear c4
  by_cases c5 : t166.toList = ([38, 0, 20, 0, 0, 0, 0, 0, 0, 20, 5, 0, 0, 0, 0, 0, 0, 5, 126, 11, 16, 17, 4, 5, 4, 0, 0, 0, 1, 0, 0, 1, 4, 65, 46, 59, 49, 0] : List UInt8)
  ·rw [if_pos c5] at H
   have c5b0 : (t166.toList == ([38, 0, 20, 0, 0, 0, 0, 0, 0, 20, 5, 0, 0, 0, 0, 0, 0, 5, 126, 11, 16, 17, 4, 5, 4, 0, 0, 0, 1, 0, 0, 1, 4, 65, 46, 59, 49, 0] : List UInt8)) = true := beq_iff_eq.mpr c5
   have c5b1 : (t166.toList != ([38, 0, 20, 0, 0, 0, 0, 0, 0, 20, 5, 0, 0, 0, 0, 0, 0, 5, 126, 11, 16, 17, 4, 5, 4, 0, 0, 0, 1, 0, 0, 1, 4, 65, 46, 59, 49, 0] : List UInt8)) = false := bne_eq_false_iff_eq.mpr c5
   clear c5
   by_cases c6 : t177 = 0
   ·rw [if_pos c6] at H
    have c6b0 : (t177 == 0) = true := beq_iff_eq.mpr c6
    have c6b1 : (t177 != 0) = false := bne_eq_false_iff_eq.mpr c6
    clear c6
    by_cases c7 : t176 = 38
    ·rw [if_pos c7] at H
     have c7b0 : (t176 == 38) = true := beq_iff_eq.mpr c7
     have c7b1 : (t176 != 38) = false := bne_eq_false_iff_eq.mpr c7
     clear c7
     replace H := Option.bind_eq_some_iff.mp H
     obtain ⟨⟨t179, t180, t181, t182, t183, t184, t185, t186⟩, A80, H⟩ := H
     replace H : (if (t168.toList == t179.toList && (t169 == t180 && (t170 == t181 && (t171 == t182 && (t172 == t183 && (t173 == t184 && (t174 == t185 && (t175.toList == t186.toList)))))))) = true then ((dirrecord_Size.f k 4 0).bind fun t187 => (if t187 = 38 then (if 3 ≤ 38 then (if 3 + ((⟨#[38, 0, 20, 0, 0, 0, 0, 0, 0, 20, 5, 0, 0, 0, 0, 0, 0, 5, 126, 11, 16, 17, 4, 5, 4, 0, 0, 0, 1, 0, 0, 1, 4, 65, 46, 59, 49, 0]⟩ : ByteArray).extract 3 (⟨#[38, 0, 20, 0, 0, 0, 0, 0, 0, 20, 5, 0, 0, 0, 0, 0, 0, 5, 126, 11, 16, 17, 4, 5, 4, 0, 0, 0, 1, 0, 0, 1, 4, 65, 46, 59, 49, 0]⟩ : ByteArray).size).size ≤ 9223372036854775807 then ((dirrecord_Differ.f k ((⟨#[38, 0, 21]⟩ : ByteArray) ++ ((⟨#[38, 0, 20, 0, 0, 0, 0, 0, 0, 20, 5, 0, 0, 0, 0, 0, 0, 5, 126, 11, 16, 17, 4, 5, 4, 0, 0, 0, 1, 0, 0, 1, 4, 65, 46, 59, 49, 0]⟩ : ByteArray).extract 3 (⟨#[38, 0, 20, 0, 0, 0, 0, 0, 0, 20, 5, 0, 0, 0, 0, 0, 0, 5, 126, 11, 16, 17, 4, 5, 4, 0, 0, 0, 1, 0, 0, 1, 4, 65, 46, 59, 49, 0]⟩ : ByteArray).size))).bind fun t188 => ((slices_Equal_int_int.f k t188 (([2] : List Int))).bind fun t194 => (some t194))) else (none)) else (none)) else (some false))) else (some false)) = some true := H
     have A8 := Aside0.mk A80
     clear A80
     by_cases c9 : (t168.toList == t179.toList && (t169 == t180 && (t170 == t181 && (t171 == t182 && (t172 == t183 && (t173 == t184 && (t174 == t185 && (t175.toList == t186.toList)))))))) = true
     ·rw [if_pos c9] at H
      have c9b0 : (t168.toList == t179.toList && (t169 == t180 && (t170 == t181 && (t171 == t182 && (t172 == t183 && (t173 == t184 && (t174 == t185 && (t175.toList == t186.toList)))))))) = true := c9
      (try (have c9b1 : decide (t168.toList = t179.toList && (t169 == t180 && (t170 == t181 && (t171 == t182 && (t172 == t183 && (t173 == t184 && (t174 == t185 && (t175.toList == t186.toList)))))))) = true := by simpa using c9))
      (try (have c9b2 : (t168.toList == t179.toList && (t169 == t180 && (t170 == t181 && (t171 == t182 && (t172 == t183 && (t173 == t184 && (t174 == t185 && (t175.toList == t186.toList)))))))) = true := by simpa using c9))
      clear c9
      replace H := Option.bind_eq_some_iff.mp H
      obtain ⟨t187, A100, H⟩ := H
      replace H : (if t187 = 38 then (if 3 ≤ 38 then (if 3 + ((⟨#[38, 0, 20, 0, 0, 0, 0, 0, 0, 20, 5, 0, 0, 0, 0, 0, 0, 5, 126, 11, 16, 17, 4, 5, 4, 0, 0, 0, 1, 0, 0, 1, 4, 65, 46, 59, 49, 0]⟩ : ByteArray).extract 3 (⟨#[38, 0, 20, 0, 0, 0, 0, 0, 0, 20, 5, 0, 0, 0, 0, 0, 0, 5, 126, 11, 16, 17, 4, 5, 4, 0, 0, 0, 1, 0, 0, 1, 4, 65, 46, 59, 49, 0]⟩ : ByteArray).size).size ≤ 9223372036854775807 then ((dirrecord_Differ.f k ((⟨#[38, 0, 21]⟩ : ByteArray) ++ ((⟨#[38, 0, 20, 0, 0, 0, 0, 0, 0, 20, 5, 0, 0, 0, 0, 0, 0, 5, 126, 11, 16, 17, 4, 5, 4, 0, 0, 0, 1, 0, 0, 1, 4, 65, 46, 59, 49, 0]⟩ : ByteArray).extract 3 (⟨#[38, 0, 20, 0, 0, 0, 0, 0, 0, 20, 5, 0, 0, 0, 0, 0, 0, 5, 126, 11, 16, 17, 4, 5, 4, 0, 0, 0, 1, 0, 0, 1, 4, 65, 46, 59, 49, 0]⟩ : ByteArray).size))).bind fun t188 => ((slices_Equal_int_int.f k t188 (([2] : List Int))).bind fun t194 => (some t194))) else (none)) else (none)) else (some false)) = some true := H
      have A10 := Aside0.mk A100
      clear A100
      by_cases c11 : t187 = 38
      ·rw [if_pos c11] at H
       have c11b0 : (t187 == 38) = true := beq_iff_eq.mpr c11
       have c11b1 : (t187 != 38) = false := bne_eq_false_iff_eq.mpr c11
       clear c11
       by_cases c12 : 3 ≤ 38
       ·rw [if_pos c12] at H
        have c12b0 := eq_true c12
        have c12b1 : decide (3 ≤ 38) = true := decide_eq_true c12
        clear c12
        by_cases c13 : 3 + ((⟨#[38, 0, 20, 0, 0, 0, 0, 0, 0, 20, 5, 0, 0, 0, 0, 0, 0, 5, 126, 11, 16, 17, 4, 5, 4, 0, 0, 0, 1, 0, 0, 1, 4, 65, 46, 59, 49, 0]⟩ : ByteArray).extract 3 (⟨#[38, 0, 20, 0, 0, 0, 0, 0, 0, 20, 5, 0, 0, 0, 0, 0, 0, 5, 126, 11, 16, 17, 4, 5, 4, 0, 0, 0, 1, 0, 0, 1, 4, 65, 46, 59, 49, 0]⟩ : ByteArray).size).size ≤ 9223372036854775807
        ·rw [if_pos c13] at H
         have c13b0 := eq_true c13
         have c13b1 : decide (3 + ((⟨#[38, 0, 20, 0, 0, 0, 0, 0, 0, 20, 5, 0, 0, 0, 0, 0, 0, 5, 126, 11, 16, 17, 4, 5, 4, 0, 0, 0, 1, 0, 0, 1, 4, 65, 46, 59, 49, 0]⟩ : ByteArray).extract 3 (⟨#[38, 0, 20, 0, 0, 0, 0, 0, 0, 20, 5, 0, 0, 0, 0, 0, 0, 5, 126, 11, 16, 17, 4, 5, 4, 0, 0, 0, 1, 0, 0, 1, 4, 65, 46, 59, 49, 0]⟩ : ByteArray).size).size ≤ 9223372036854775807) = true := decide_eq_true c13
         try have c13b2 : (9223372036854775807 < 3 + ((⟨#[38, 0, 20, 0, 0, 0, 0, 0, 0, 20, 5, 0, 0, 0, 0, 0, 0, 5, 126, 11, 16, 17, 4, 5, 4, 0, 0, 0, 1, 0, 0, 1, 4, 65, 46, 59, 49, 0]⟩ : ByteArray).extract 3 (⟨#[38, 0, 20, 0, 0, 0, 0, 0, 0, 20, 5, 0, 0, 0, 0, 0, 0, 5, 126, 11, 16, 17, 4, 5, 4, 0, 0, 0, 1, 0, 0, 1, 4, 65, 46, 59, 49, 0]⟩ : ByteArray).size).size) = False := eq_false (Nat.not_lt.2 c13)
         replace H := Option.bind_eq_some_iff.mp H
         obtain ⟨t188, A140, H⟩ := H
         replace H : ((slices_Equal_int_int.f k t188 (([2] : List Int))).bind fun t194 => (some t194)) = some true := H
         have A14 := Aside0.mk A140
         clear A140
         obtain ⟨y191, hy191⟩ : ∃ y_ : List Int, y_ = (([2] : List Int)) := ⟨_, rfl⟩
         replace H : ((slices_Equal_int_int.f k t188 y191).bind fun t194 => (some t194)) = some true := by first | (rw [hy191]; with_reducible exact H) | (have H2_ := (Option.bind_some _ _).symm.trans H; rw [hy191]; with_reducible exact H2_) | (have H2_ := (Option.bind_some _ _).symm.trans H; with_reducible exact H2_) | with_reducible exact H | (rw [hy191]; exact H) | exact H
         have Ny191 := Aside0.mk hy191
         clear hy191
         replace H := Option.bind_eq_some_iff.mp H
         obtain ⟨t194, A150, H⟩ := H
         replace H : (some t194) = some true := H
         have A15 := Aside0.mk A150
         clear A150
         obtain rfl := Option.some.inj H
         go_enter Try.func10, Try.ntmps10
         try go_wp2_with (first | ((with_reducible refine gate_callee (f := 20) rfl ?_); refine goesL_ (some 7) rfl rfl Try.func20 (by kernel_rfl) rfl #[] rfl (by (try simp only [List.map_toArray, List.map_cons, List.map_nil]); first | done | rfl | (simp only [List.length_drop, List.length_take]; rfl)) ?_; (with_reducible refine (masterdisclaw20_example.calls  t158 t159 t160 t161 t162 t163 t164 t165 _ A1.out).mono ?_); rintro e w16 ⟨rfl, hb⟩; refine ⟨_, rfl, ?_⟩; have n0_ := Aside0.mk (below_step (by repeat (first | (with_reducible first | exact HB.out | apply below_alloc | apply pw_below_drewN | apply below_drew1) | exact HB.out)) hb); clear HB; have HB := n0_; clear n0_; (try clear hb); (try clear hb2); (try clear hk); (try clear hi)) | ((with_reducible refine gate_callee (f := 11) rfl ?_); refine goesL_ (some 8) rfl rfl Try.func11 (by kernel_rfl) rfl #[.agg #[.string t158, .int .i64 t159, .int .i64 t160, .int .i64 t161, .int .i64 t162, .int .i64 t163, .int .i64 t164, .string t165]] rfl (by (try simp only [List.map_toArray, List.map_cons, List.map_nil]); first | done | rfl | (simp only [List.length_drop, List.length_take]; rfl)) ?_; (with_reducible refine (dirrecord_Encode.calls k t158 t159 t160 t161 t162 t163 t164 t165 t166 t167 _ A2.out).mono ?_); rintro e w17 ⟨rfl, hb⟩; refine ⟨_, rfl, ?_⟩; have n0_ := Aside0.mk (below_step (by repeat (first | (with_reducible first | exact HB.out | apply below_alloc | apply pw_below_drewN | apply below_drew1) | exact HB.out)) hb); clear HB; have HB := n0_; clear n0_; (try clear hb); (try clear hb2); (try clear hk); (try clear hi)) | ((with_reducible refine gate_callee (f := 15) rfl ?_); refine goesL_ (some 12) rfl rfl Try.func15 (by kernel_rfl) rfl #[.string (⟨#[38, 0, 20, 0, 0, 0, 0, 0, 0, 20, 5, 0, 0, 0, 0, 0, 0, 5, 126, 11, 16, 17, 4, 5, 4, 0, 0, 0, 1, 0, 0, 1, 4, 65, 46, 59, 49, 0, 98, 101, 104, 105, 110, 100]⟩ : ByteArray)] rfl (by (try simp only [List.map_toArray, List.map_cons, List.map_nil]); first | done | rfl | (simp only [List.length_drop, List.length_take]; rfl)) ?_; (with_reducible refine (dirrecord_Decode.calls k (⟨#[38, 0, 20, 0, 0, 0, 0, 0, 0, 20, 5, 0, 0, 0, 0, 0, 0, 5, 126, 11, 16, 17, 4, 5, 4, 0, 0, 0, 1, 0, 0, 1, 4, 65, 46, 59, 49, 0, 98, 101, 104, 105, 110, 100]⟩ : ByteArray) t168 t169 t170 t171 t172 t173 t174 t175 t176 t177 _ A3.out).mono ?_); rintro e w18 ⟨rfl, hb⟩; refine ⟨_, rfl, ?_⟩; have n0_ := Aside0.mk (below_step (by repeat (first | (with_reducible first | exact HB.out | apply below_alloc | apply pw_below_drewN | apply below_drew1) | exact HB.out)) hb); clear HB; have HB := n0_; clear n0_; (try clear hb); (try clear hb2); (try clear hk); (try clear hi)) | ((with_reducible refine gate_dst (N := 3) rfl ?_); (try (refine gate_guard (by rfl) ?_; dsimp only)); refine box_event ?hg (N := 3) ?hd (cs := #[.string (⟨#[]⟩ : ByteArray), .int .i64 0, .int .i64 0, .int .i64 0, .int .i64 0, .int .i64 0, .int .i64 0, .string (⟨#[]⟩ : ByteArray)]) (t := 23) ?hr ?_; (case hd => rfl); (case hg => rfl); (case hr => first | (go_simp; done) | (go_simp; rfl)); intro gb178 hg w19 hbox hb; have n0_ := Aside0.mk (below_step (by repeat (first | (with_reducible first | exact HB.out | apply below_alloc | apply pw_below_drewN | apply below_drew1) | exact HB.out)) hb); have n1_ := Aside0.mk (hbox); have n2_ := Aside0.mk ((by rw [hg]; exact (below_size (by repeat (first | (with_reducible first | exact HB.out | apply below_alloc | apply pw_below_drewN | apply below_drew1) | exact HB.out))) : w.heap.size ≤ gb178)); have n3_ := Aside0.mk ((by rw [hg]; exact (below_size (by repeat (first | (with_reducible first | exact HB.out | apply below_alloc | apply pw_below_drewN | apply below_drew1) | exact HB.out))) : w.heap.size ≤ gb178)); clear HB; have HB := n0_; have BK178 := n1_; have GW178 := n2_; have GE178 := n3_; clear n0_ n1_ n2_ n3_; clear hb hbox hg; have hcz20_0 : w19.cell? ⟨gb178, 0, none⟩ = some (.string (⟨#[]⟩ : ByteArray)) := (blk_cell BK178.out 0).trans rfl; have hcz20_1 : w19.cell? ⟨gb178, 1, none⟩ = some (.int .i64 0) := (blk_cell BK178.out 1).trans rfl; have hcz20_2 : w19.cell? ⟨gb178, 2, none⟩ = some (.int .i64 0) := (blk_cell BK178.out 2).trans rfl; have hcz20_3 : w19.cell? ⟨gb178, 3, none⟩ = some (.int .i64 0) := (blk_cell BK178.out 3).trans rfl; have hcz20_4 : w19.cell? ⟨gb178, 4, none⟩ = some (.int .i64 0) := (blk_cell BK178.out 4).trans rfl; have hcz20_5 : w19.cell? ⟨gb178, 5, none⟩ = some (.int .i64 0) := (blk_cell BK178.out 5).trans rfl; have hcz20_6 : w19.cell? ⟨gb178, 6, none⟩ = some (.int .i64 0) := (blk_cell BK178.out 6).trans rfl; have hcz20_7 : w19.cell? ⟨gb178, 7, none⟩ = some (.string (⟨#[]⟩ : ByteArray)) := (blk_cell BK178.out 7).trans rfl; have hfz20_0 := blk_frozen BK178.out 0; have hfz20_1 := blk_frozen BK178.out 1; have hfz20_2 := blk_frozen BK178.out 2; have hfz20_3 := blk_frozen BK178.out 3; have hfz20_4 := blk_frozen BK178.out 4; have hfz20_5 := blk_frozen BK178.out 5; have hfz20_6 := blk_frozen BK178.out 6; have hfz20_7 := blk_frozen BK178.out 7))
         have n0_ : Aside0 (((((((((w19.setCell ⟨gb178, 0, none⟩ (.string t168)).setCell ⟨gb178, 1, none⟩ (.int .i64 t169)).setCell ⟨gb178, 2, none⟩ (.int .i64 t170)).setCell ⟨gb178, 3, none⟩ (.int .i64 t171)).setCell ⟨gb178, 4, none⟩ (.int .i64 t172)).setCell ⟨gb178, 5, none⟩ (.int .i64 t173)).setCell ⟨gb178, 6, none⟩ (.int .i64 t174)).setCell ⟨gb178, 7, none⟩ (.string t175)).heap[gb178]? = some (.cells #[.string t168, .int .i64 t169, .int .i64 t170, .int .i64 t171, .int .i64 t172, .int .i64 t173, .int .i64 t174, .string t175] 23 (0, 0))) := ⟨by (with_reducible repeat (first | refine blk_drewN ?_ _ | refine blk_drew ?_ | refine blk_alloc ?_ _)); refine blk_put (cs := #[.string t168, .int .i64 t169, .int .i64 t170, .int .i64 t171, .int .i64 t172, .int .i64 t173, .int .i64 t174, .string (⟨#[]⟩ : ByteArray)]) ?_ 7 _ rfl; (with_reducible repeat (first | refine blk_drewN ?_ _ | refine blk_drew ?_ | refine blk_alloc ?_ _)); refine blk_put (cs := #[.string t168, .int .i64 t169, .int .i64 t170, .int .i64 t171, .int .i64 t172, .int .i64 t173, .int .i64 0, .string (⟨#[]⟩ : ByteArray)]) ?_ 6 _ rfl; (with_reducible repeat (first | refine blk_drewN ?_ _ | refine blk_drew ?_ | refine blk_alloc ?_ _)); refine blk_put (cs := #[.string t168, .int .i64 t169, .int .i64 t170, .int .i64 t171, .int .i64 t172, .int .i64 0, .int .i64 0, .string (⟨#[]⟩ : ByteArray)]) ?_ 5 _ rfl; (with_reducible repeat (first | refine blk_drewN ?_ _ | refine blk_drew ?_ | refine blk_alloc ?_ _)); refine blk_put (cs := #[.string t168, .int .i64 t169, .int .i64 t170, .int .i64 t171, .int .i64 0, .int .i64 0, .int .i64 0, .string (⟨#[]⟩ : ByteArray)]) ?_ 4 _ rfl; (with_reducible repeat (first | refine blk_drewN ?_ _ | refine blk_drew ?_ | refine blk_alloc ?_ _)); refine blk_put (cs := #[.string t168, .int .i64 t169, .int .i64 t170, .int .i64 0, .int .i64 0, .int .i64 0, .int .i64 0, .string (⟨#[]⟩ : ByteArray)]) ?_ 3 _ rfl; (with_reducible repeat (first | refine blk_drewN ?_ _ | refine blk_drew ?_ | refine blk_alloc ?_ _)); refine blk_put (cs := #[.string t168, .int .i64 t169, .int .i64 0, .int .i64 0, .int .i64 0, .int .i64 0, .int .i64 0, .string (⟨#[]⟩ : ByteArray)]) ?_ 2 _ rfl; (with_reducible repeat (first | refine blk_drewN ?_ _ | refine blk_drew ?_ | refine blk_alloc ?_ _)); refine blk_put (cs := #[.string t168, .int .i64 0, .int .i64 0, .int .i64 0, .int .i64 0, .int .i64 0, .int .i64 0, .string (⟨#[]⟩ : ByteArray)]) ?_ 1 _ rfl; (with_reducible repeat (first | refine blk_drewN ?_ _ | refine blk_drew ?_ | refine blk_alloc ?_ _)); refine blk_put (cs := #[.string (⟨#[]⟩ : ByteArray), .int .i64 0, .int .i64 0, .int .i64 0, .int .i64 0, .int .i64 0, .int .i64 0, .string (⟨#[]⟩ : ByteArray)]) ?_ 0 _ rfl; (with_reducible repeat (first | refine blk_drewN ?_ _ | refine blk_drew ?_ | refine blk_alloc ?_ _)); exact BK178.out⟩
         have n1_ : Aside0 (Below w.heap.size w ((((((((w19.setCell ⟨gb178, 0, none⟩ (.string t168)).setCell ⟨gb178, 1, none⟩ (.int .i64 t169)).setCell ⟨gb178, 2, none⟩ (.int .i64 t170)).setCell ⟨gb178, 3, none⟩ (.int .i64 t171)).setCell ⟨gb178, 4, none⟩ (.int .i64 t172)).setCell ⟨gb178, 5, none⟩ (.int .i64 t173)).setCell ⟨gb178, 6, none⟩ (.int .i64 t174)).setCell ⟨gb178, 7, none⟩ (.string t175))) := ⟨by repeat (first | (with_reducible first | exact HB.out | apply below_alloc | apply pw_below_drewN | apply below_drew1 | refine below_set ?_ GE178.out) | exact HB.out)⟩
         (try clear BK178)
         (try clear HB)
         generalize ((((((((w19.setCell ⟨gb178, 0, none⟩ (.string t168)).setCell ⟨gb178, 1, none⟩ (.int .i64 t169)).setCell ⟨gb178, 2, none⟩ (.int .i64 t170)).setCell ⟨gb178, 3, none⟩ (.int .i64 t171)).setCell ⟨gb178, 4, none⟩ (.int .i64 t172)).setCell ⟨gb178, 5, none⟩ (.int .i64 t173)).setCell ⟨gb178, 6, none⟩ (.int .i64 t174)).setCell ⟨gb178, 7, none⟩ (.string t175)) = w21 at n0_ n1_ ⊢
         have BK178 := n0_
         have HB := n1_
         clear n0_ n1_
         have n0_ := Aside0.mk (blk_drew BK178.out)
         have n1_ := Aside0.mk (below_drew1 HB.out)
         clear BK178
         clear HB
         have BK178 := n0_
         have HB := n1_
         clear n0_ n1_
         refine start_ (n := 31) (S := fun w' => w'.cell? ⟨gb178, 0, none⟩ = some (.string t168) ∧ w'.cell? ⟨gb178, 1, none⟩ = some (.int .i64 t169) ∧ w'.cell? ⟨gb178, 2, none⟩ = some (.int .i64 t170) ∧ w'.cell? ⟨gb178, 3, none⟩ = some (.int .i64 t171) ∧ w'.cell? ⟨gb178, 4, none⟩ = some (.int .i64 t172) ∧ w'.cell? ⟨gb178, 5, none⟩ = some (.int .i64 t173) ∧ w'.cell? ⟨gb178, 6, none⟩ = some (.int .i64 t174) ∧ w'.cell? ⟨gb178, 7, none⟩ = some (.string t175)) (ds := []) #[false, false, false, false, false, false, false, false, false, false, false, false, false, false, false, false, false, false, false, false, false, false, false, false, false, false, false, false, false, false, false] (by kernel_rfl) rfl rfl ⟨(blk_cell BK178.out 0).trans rfl, (blk_cell BK178.out 1).trans rfl, (blk_cell BK178.out 2).trans rfl, (blk_cell BK178.out 3).trans rfl, (blk_cell BK178.out 4).trans rfl, (blk_cell BK178.out 5).trans rfl, (blk_cell BK178.out 6).trans rfl, (blk_cell BK178.out 7).trans rfl⟩ (fun hHeld => ?_); refine with_tabW awakeP.tab3 awakeP.bits3 (fun HT_ HW_ => ?_)
         generalize w21.drew = w22 at BK178 HB hHeld ⊢
         refine pure_ (i := 0) (N := some 16) (v := ?_) (a' := ?_) #[true, false, false, false, false, false, false, false, false, false, false, false, false, false, false, false, false, false, false, false, false, false, false, false, false, false, false, false, false, false, false] rfl rfl (any_of HT_.out (by kernel_rfl)) (fun _ _ _ h => h) (Or.inl ⟨by rfl, ?_⟩) ?_ ?_
         rotate_left
         ·intro w'
          go_simp
          with_reducible rfl
         rotate_left
         ·simp only [Act.put, List.setIfInBounds_toArray, List.set_cons_zero, List.set_cons_succ, i64_w, i32_w]
          rfl
         refine pure_ (i := 1) (N := some 17) (v := ?_) (a' := ?_) #[true, true, false, false, false, false, false, false, false, false, false, false, false, false, false, false, false, false, false, false, false, false, false, false, false, false, false, false, false, false, false] rfl rfl (any_of HT_.out (by kernel_rfl)) (fun _ _ _ h => h) (Or.inl ⟨by rfl, ?_⟩) ?_ ?_
         rotate_left
         ·intro w'
          go_simp
          with_reducible rfl
         rotate_left
         ·simp only [Act.put, List.setIfInBounds_toArray, List.set_cons_zero, List.set_cons_succ, i64_w, i32_w]
          rfl
         refine pure_ (i := 2) (N := some 18) (v := ?_) (a' := ?_) #[true, true, true, false, false, false, false, false, false, false, false, false, false, false, false, false, false, false, false, false, false, false, false, false, false, false, false, false, false, false, false] rfl rfl (any_of HT_.out (by kernel_rfl)) (fun _ _ _ h => h) (Or.inl ⟨by rfl, ?_⟩) ?_ ?_
         rotate_left
         ·intro w'
          go_simp
          with_reducible rfl
         rotate_left
         ·simp only [Act.put, List.setIfInBounds_toArray, List.set_cons_zero, List.set_cons_succ, i64_w, i32_w]
          rfl
         refine pure_ (i := 3) (N := some 19) (v := ?_) (a' := ?_) #[true, true, true, true, false, false, false, false, false, false, false, false, false, false, false, false, false, false, false, false, false, false, false, false, false, false, false, false, false, false, false] rfl rfl (any_of HT_.out (by kernel_rfl)) (fun _ _ _ h => h) (Or.inl ⟨by rfl, ?_⟩) ?_ ?_
         rotate_left
         ·intro w'
          go_simp
          with_reducible rfl
         rotate_left
         ·simp only [Act.put, List.setIfInBounds_toArray, List.set_cons_zero, List.set_cons_succ, i64_w, i32_w]
          rfl
         refine pure_ (i := 4) (N := some 20) (v := ?_) (a' := ?_) #[true, true, true, true, true, false, false, false, false, false, false, false, false, false, false, false, false, false, false, false, false, false, false, false, false, false, false, false, false, false, false] rfl rfl (any_of HT_.out (by kernel_rfl)) (fun _ _ _ h => h) (Or.inl ⟨by rfl, ?_⟩) ?_ ?_
         rotate_left
         ·intro w'
          go_simp
          with_reducible rfl
         rotate_left
         ·simp only [Act.put, List.setIfInBounds_toArray, List.set_cons_zero, List.set_cons_succ, i64_w, i32_w]
          rfl
         refine pure_ (i := 5) (N := some 21) (v := ?_) (a' := ?_) #[true, true, true, true, true, true, false, false, false, false, false, false, false, false, false, false, false, false, false, false, false, false, false, false, false, false, false, false, false, false, false] rfl rfl (any_of HT_.out (by kernel_rfl)) (fun _ _ _ h => h) (Or.inl ⟨by rfl, ?_⟩) ?_ ?_
         rotate_left
         ·intro w'
          go_simp
          with_reducible rfl
         rotate_left
         ·simp only [Act.put, List.setIfInBounds_toArray, List.set_cons_zero, List.set_cons_succ, i64_w, i32_w]
          rfl
         refine pure_ (i := 6) (N := some 22) (v := ?_) (a' := ?_) #[true, true, true, true, true, true, true, false, false, false, false, false, false, false, false, false, false, false, false, false, false, false, false, false, false, false, false, false, false, false, false] rfl rfl (any_of HT_.out (by kernel_rfl)) (fun _ _ _ h => h) (Or.inl ⟨by rfl, ?_⟩) ?_ ?_
         rotate_left
         ·intro w'
          go_simp
          with_reducible rfl
         rotate_left
         ·simp only [Act.put, List.setIfInBounds_toArray, List.set_cons_zero, List.set_cons_succ, i64_w, i32_w]
          rfl
         refine pure_ (i := 7) (N := some 23) (v := ?_) (a' := ?_) #[true, true, true, true, true, true, true, true, false, false, false, false, false, false, false, false, false, false, false, false, false, false, false, false, false, false, false, false, false, false, false] rfl rfl (any_of HT_.out (by kernel_rfl)) (fun _ _ _ h => h) (Or.inl ⟨by rfl, ?_⟩) ?_ ?_
         rotate_left
         ·intro w'
          go_simp
          with_reducible rfl
         rotate_left
         ·simp only [Act.put, List.setIfInBounds_toArray, List.set_cons_zero, List.set_cons_succ, i64_w, i32_w]
          rfl
         refine pure_ (i := 8) (N := some 24) (v := ?_) (a' := ?_) #[true, true, true, true, true, true, true, true, true, false, false, false, false, false, false, false, false, false, false, false, false, false, false, false, false, false, false, false, false, false, false] rfl rfl (any_of HT_.out (by kernel_rfl)) (fun _ _ _ h => h) (Or.inl ⟨by rfl, ?_⟩) ?_ ?_
         rotate_left
         ·intro w'
          go_simp
          with_reducible rfl
         rotate_left
         ·simp only [Act.put, List.setIfInBounds_toArray, List.set_cons_zero, List.set_cons_succ, i64_w, i32_w]
          rfl
         refine pure_ (i := 9) (N := some 25) (v := ?_) (a' := ?_) #[true, true, true, true, true, true, true, true, true, true, false, false, false, false, false, false, false, false, false, false, false, false, false, false, false, false, false, false, false, false, false] rfl rfl (any_of HT_.out (by kernel_rfl)) (fun _ _ _ h => h) (Or.inl ⟨by rfl, ?_⟩) ?_ ?_
         rotate_left
         ·intro w'
          go_simp
          with_reducible rfl
         rotate_left
         ·simp only [Act.put, List.setIfInBounds_toArray, List.set_cons_zero, List.set_cons_succ, i64_w, i32_w]
          rfl
         refine pure_ (i := 10) (N := some 26) (v := ?_) (a' := ?_) #[true, true, true, true, true, true, true, true, true, true, true, false, false, false, false, false, false, false, false, false, false, false, false, false, false, false, false, false, false, false, false] rfl rfl (any_of HT_.out (by kernel_rfl)) (fun _ _ _ h => h) (Or.inl ⟨by rfl, ?_⟩) ?_ ?_
         rotate_left
         ·intro w'
          go_simp
          with_reducible rfl
         rotate_left
         ·simp only [Act.put, List.setIfInBounds_toArray, List.set_cons_zero, List.set_cons_succ, i64_w, i32_w]
          rfl
         refine pure_ (i := 11) (N := some 27) (v := ?_) (a' := ?_) #[true, true, true, true, true, true, true, true, true, true, true, true, false, false, false, false, false, false, false, false, false, false, false, false, false, false, false, false, false, false, false] rfl rfl (any_of HT_.out (by kernel_rfl)) (fun _ _ _ h => h) (Or.inl ⟨by rfl, ?_⟩) ?_ ?_
         rotate_left
         ·intro w'
          go_simp
          with_reducible rfl
         rotate_left
         ·simp only [Act.put, List.setIfInBounds_toArray, List.set_cons_zero, List.set_cons_succ, i64_w, i32_w]
          rfl
         refine pure_ (i := 12) (N := some 28) (v := ?_) (a' := ?_) #[true, true, true, true, true, true, true, true, true, true, true, true, true, false, false, false, false, false, false, false, false, false, false, false, false, false, false, false, false, false, false] rfl rfl (any_of HT_.out (by kernel_rfl)) (fun _ _ _ h => h) (Or.inl ⟨by rfl, ?_⟩) ?_ ?_
         rotate_left
         ·intro w'
          go_simp
          with_reducible rfl
         rotate_left
         ·simp only [Act.put, List.setIfInBounds_toArray, List.set_cons_zero, List.set_cons_succ, i64_w, i32_w]
          rfl
         refine pure_ (i := 13) (N := some 29) (v := ?_) (a' := ?_) #[true, true, true, true, true, true, true, true, true, true, true, true, true, true, false, false, false, false, false, false, false, false, false, false, false, false, false, false, false, false, false] rfl rfl (any_of HT_.out (by kernel_rfl)) (fun _ _ _ h => h) (Or.inl ⟨by rfl, ?_⟩) ?_ ?_
         rotate_left
         ·intro w'
          go_simp
          with_reducible rfl
         rotate_left
         ·simp only [Act.put, List.setIfInBounds_toArray, List.set_cons_zero, List.set_cons_succ, i64_w, i32_w]
          rfl
         refine pure_ (i := 14) (N := some 30) (v := ?_) (a' := ?_) #[true, true, true, true, true, true, true, true, true, true, true, true, true, true, true, false, false, false, false, false, false, false, false, false, false, false, false, false, false, false, false] rfl rfl (any_of HT_.out (by kernel_rfl)) (fun _ _ _ h => h) (Or.inl ⟨by rfl, ?_⟩) ?_ ?_
         rotate_left
         ·intro w'
          go_simp
          with_reducible rfl
         rotate_left
         ·simp only [Act.put, List.setIfInBounds_toArray, List.set_cons_zero, List.set_cons_succ, i64_w, i32_w]
          rfl
         refine take_ (i := 15) (N := some 31) (v := ?_) (a' := ?_) #[true, true, true, true, true, true, true, true, true, true, true, true, true, true, true, true, false, false, false, false, false, false, false, false, false, false, false, false, false, false, false] rfl rfl (take_ofW HT_.out HW_.out (by kernel_rfl)) (fun _ _ _ h => h) (Or.inl ⟨by rfl, ?_⟩) hHeld ?_ ?_
         rotate_left
         ·rintro w' ⟨s0, s1, s2, s3, s4, s5, s6, s7⟩
          go_simp
          with_reducible rfl
         rotate_left
         ·simp only [Act.put, List.setIfInBounds_toArray, List.set_cons_zero, List.set_cons_succ, i64_w, i32_w]
          rfl
         refine one_ (i := 16) (N := some 32) #[true, true, true, true, true, true, true, true, true, true, true, true, true, true, true, true, true, false, false, false, false, false, false, false, false, false, false, false, false, false, false] rfl rfl (one_of HT_.out (by kernel_rfl)) (by decide) (fun K hK => ?_)
         refine goes_ Try.func20 (by kernel_rfl) rfl #[] (by rfl) rfl rfl (by (try simp only [List.map_toArray, List.map_cons, List.map_nil]); first | done | rfl | (simp only [List.length_drop, List.length_take]; rfl)) ?_
         with_reducible refine (masterdisclaw20_example.calls  t179 t180 t181 t182 t183 t184 t185 t186 _ A8.out).mono ?_
         rintro e w23 ⟨rfl, hb⟩
         refine ⟨_, rfl, ?_⟩
         have n0_ := Aside0.mk (blk_below (g := gb178) (o := .cells #[.string t168, .int .i64 t169, .int .i64 t170, .int .i64 t171, .int .i64 t172, .int .i64 t173, .int .i64 t174, .string t175] 23 (0, 0)) (by (with_reducible repeat (first | refine blk_drewN ?_ _ | refine blk_drew ?_ | refine blk_alloc ?_ _)); exact BK178.out) hb)
         have n1_ := Aside0.mk (below_step (by repeat (first | (with_reducible first | exact HB.out | apply below_alloc | apply pw_below_drewN | apply below_drew1 | refine below_set ?_ GE178.out) | exact HB.out)) hb)
         clear BK178
         clear HB
         have BK178 := n0_
         have HB := n1_
         clear n0_ n1_
         (try clear hb)
         (try clear hb2)
         (try clear hk)
         (try clear hi)
         refine hK.out _ _ ⟨(blk_cell BK178.out 0).trans rfl, (blk_cell BK178.out 1).trans rfl, (blk_cell BK178.out 2).trans rfl, (blk_cell BK178.out 3).trans rfl, (blk_cell BK178.out 4).trans rfl, (blk_cell BK178.out 5).trans rfl, (blk_cell BK178.out 6).trans rfl, (blk_cell BK178.out 7).trans rfl⟩ (fun hHeld => ?_)
         clear hK K
         refine norm_ (a' := ?_) ?_ ?_
         rotate_left
         ·show Act.put _ (some 32) _ = _
          simp only [Act.put, List.setIfInBounds_toArray, List.set_cons_zero, List.set_cons_succ, i64_w, i32_w]
          rfl
         refine pure_ (i := 17) (N := some 33) (v := ?_) (a' := ?_) #[true, true, true, true, true, true, true, true, true, true, true, true, true, true, true, true, true, true, false, false, false, false, false, false, false, false, false, false, false, false, false] rfl rfl (any_of HT_.out (by kernel_rfl)) (fun _ _ _ h => h) (Or.inl ⟨by rfl, ?_⟩) ?_ ?_
         rotate_left
         ·intro w'
          go_simp
          with_reducible rfl
         rotate_left
         ·simp only [Act.put, List.setIfInBounds_toArray, List.set_cons_zero, List.set_cons_succ, i64_w, i32_w]
          rfl
         refine pure_ (i := 18) (N := some 34) (v := ?_) (a' := ?_) #[true, true, true, true, true, true, true, true, true, true, true, true, true, true, true, true, true, true, true, false, false, false, false, false, false, false, false, false, false, false, false] rfl rfl (any_of HT_.out (by kernel_rfl)) (fun _ _ _ h => h) (Or.inl ⟨by rfl, ?_⟩) ?_ ?_
         rotate_left
         ·intro w'
          go_simp
          with_reducible rfl
         rotate_left
         ·simp only [Act.put, List.setIfInBounds_toArray, List.set_cons_zero, List.set_cons_succ, i64_w, i32_w]
          rfl
         refine pure_ (i := 19) (N := some 35) (v := ?_) (a' := ?_) #[true, true, true, true, true, true, true, true, true, true, true, true, true, true, true, true, true, true, true, true, false, false, false, false, false, false, false, false, false, false, false] rfl rfl (any_of HT_.out (by kernel_rfl)) (fun _ _ _ h => h) (Or.inl ⟨by rfl, ?_⟩) ?_ ?_
         rotate_left
         ·intro w'
          go_simp
          with_reducible rfl
         rotate_left
         ·simp only [Act.put, List.setIfInBounds_toArray, List.set_cons_zero, List.set_cons_succ, i64_w, i32_w]
          rfl
         refine one_ (i := 20) (N := some 36) #[true, true, true, true, true, true, true, true, true, true, true, true, true, true, true, true, true, true, true, true, true, false, false, false, false, false, false, false, false, false, false] rfl rfl (one_of HT_.out (by kernel_rfl)) (by decide) (fun K hK => ?_)
         refine goes_ Try.func13 (by kernel_rfl) rfl #[.int .i64 4, .int .i64 0] (by rfl) rfl rfl (by (try simp only [List.map_toArray, List.map_cons, List.map_nil]); first | done | rfl | (simp only [List.length_drop, List.length_take]; rfl)) ?_
         with_reducible refine (dirrecord_Size.calls k 4 0 t187 _ A10.out).mono ?_
         rintro e w' ⟨rfl, ⟨nd, rfl⟩⟩
         refine ⟨_, rfl, ?_⟩
         refine hK.out _ _ ⟨(blk_cell BK178.out 0).trans rfl, (blk_cell BK178.out 1).trans rfl, (blk_cell BK178.out 2).trans rfl, (blk_cell BK178.out 3).trans rfl, (blk_cell BK178.out 4).trans rfl, (blk_cell BK178.out 5).trans rfl, (blk_cell BK178.out 6).trans rfl, (blk_cell BK178.out 7).trans rfl⟩ (fun hHeld => ?_)
         clear hK K
         refine norm_ (a' := ?_) ?_ ?_
         rotate_left
         ·show Act.put _ (some 36) _ = _
          simp only [Act.put, List.setIfInBounds_toArray, List.set_cons_zero, List.set_cons_succ, i64_w, i32_w]
          rfl
         refine pure_ (i := 21) (N := some 37) (v := ?_) (a' := ?_) #[true, true, true, true, true, true, true, true, true, true, true, true, true, true, true, true, true, true, true, true, true, true, false, false, false, false, false, false, false, false, false] rfl rfl (any_of HT_.out (by kernel_rfl)) (fun _ _ _ h => h) (Or.inl ⟨by rfl, ?_⟩) ?_ ?_
         rotate_left
         ·intro w'
          go_simp
          with_reducible rfl
         rotate_left
         ·simp only [Act.put, List.setIfInBounds_toArray, List.set_cons_zero, List.set_cons_succ, i64_w, i32_w]
          rfl
         refine pure_ (i := 22) (N := some 38) (v := ?_) (a' := ?_) #[true, true, true, true, true, true, true, true, true, true, true, true, true, true, true, true, true, true, true, true, true, true, true, false, false, false, false, false, false, false, false] rfl rfl (any_of HT_.out (by kernel_rfl)) (fun _ _ _ h => h) (Or.inl ⟨by rfl, ?_⟩) ?_ ?_
         rotate_left
         ·intro w'
          go_simp
          with_reducible rfl
         rotate_left
         ·simp only [Act.put, List.setIfInBounds_toArray, List.set_cons_zero, List.set_cons_succ, i64_w, i32_w]
          rfl
         refine pure_ (i := 23) (N := some 39) (v := ?_) (a' := ?_) #[true, true, true, true, true, true, true, true, true, true, true, true, true, true, true, true, true, true, true, true, true, true, true, true, false, false, false, false, false, false, false] rfl rfl (any_of HT_.out (by kernel_rfl)) (fun _ _ _ h => h) (Or.inl ⟨by rfl, ?_⟩) ?_ ?_
         rotate_left
         ·intro w'
          go_simp
          with_reducible rfl
         rotate_left
         ·simp only [Act.put, List.setIfInBounds_toArray, List.set_cons_zero, List.set_cons_succ, i64_w, i32_w]
          rfl
         refine pure_ (i := 24) (N := some 40) (v := ?_) (a' := ?_) #[true, true, true, true, true, true, true, true, true, true, true, true, true, true, true, true, true, true, true, true, true, true, true, true, true, false, false, false, false, false, false] rfl rfl (any_of HT_.out (by kernel_rfl)) (fun _ _ _ h => h) (Or.inl ⟨by rfl, ?_⟩) ?_ ?_
         rotate_left
         ·intro w'
          go_simp
          with_reducible rfl
         rotate_left
         ·simp only [Act.put, List.setIfInBounds_toArray, List.set_cons_zero, List.set_cons_succ, i64_w, i32_w]
          rfl
         refine pure_ (i := 25) (N := some 41) (v := ?_) (a' := ?_) #[true, true, true, true, true, true, true, true, true, true, true, true, true, true, true, true, true, true, true, true, true, true, true, true, true, true, false, false, false, false, false] rfl rfl (any_of HT_.out (by kernel_rfl)) (fun _ _ _ h => h) (Or.inl ⟨by rfl, ?_⟩) ?_ ?_
         rotate_left
         ·intro w'
          go_simp
          with_reducible rfl
         rotate_left
         ·simp only [Act.put, List.setIfInBounds_toArray, List.set_cons_zero, List.set_cons_succ, i64_w, i32_w]
          rfl
         refine join_ (σ := Value × Value) 3 #[true, true, true, true, true, true, true, true, true, true, true, true, true, true, true, true, true, true, true, true, true, true, true, true, true, true, true, true, false, false, false] (fun s_ => [(42, s_.1), (43, s_.2)]) (fun s_ w' => (w'.cell? ⟨gb178, 0, none⟩ = some (.string t168) ∧ w'.cell? ⟨gb178, 1, none⟩ = some (.int .i64 t169) ∧ w'.cell? ⟨gb178, 2, none⟩ = some (.int .i64 t170) ∧ w'.cell? ⟨gb178, 3, none⟩ = some (.int .i64 t171) ∧ w'.cell? ⟨gb178, 4, none⟩ = some (.int .i64 t172) ∧ w'.cell? ⟨gb178, 5, none⟩ = some (.int .i64 t173) ∧ w'.cell? ⟨gb178, 6, none⟩ = some (.int .i64 t174) ∧ w'.cell? ⟨gb178, 7, none⟩ = some (.string t175)) ∧ (Kd.R (Kd.int .i64) 3 w' w.heap.size (fun k_ => some k_ ≠ (s_.2 : Value).ownBlock) s_.1 t188) ∧ (Kd.R (Kd.int .i64) 3 w' w.heap.size (fun k_ => some k_ ≠ (s_.1 : Value).ownBlock) s_.2 y191) ∧ (w'.heap[gb178]? = some (.cells #[.string t168, .int .i64 t169, .int .i64 t170, .int .i64 t171, .int .i64 t172, .int .i64 t173, .int .i64 t174, .string t175] 23 (0, 0))) ∧ (Below w.heap.size w w')) ?_ ?_
         rotate_left
         ·intro hCont
          refine two_ (i := 26) (j := 27) (Ni := some 42) (Nj := some 43) #[true, true, true, true, true, true, true, true, true, true, true, true, true, true, true, true, true, true, true, true, true, true, true, true, true, true, true, false, false, false, false] #[true, true, true, true, true, true, true, true, true, true, true, true, true, true, true, true, true, true, true, true, true, true, true, true, true, true, false, true, false, false, false] rfl rfl rfl rfl (two_of HT_.out (by kernel_rfl)) (by decide) (by decide) (fun K hK => ?_) (fun K hK => ?_)
          ·skip
           refine goes_ Try.func18 (by kernel_rfl) rfl #[.string ((⟨#[38, 0, 21]⟩ : ByteArray) ++ ((⟨#[38, 0, 20, 0, 0, 0, 0, 0, 0, 20, 5, 0, 0, 0, 0, 0, 0, 5, 126, 11, 16, 17, 4, 5, 4, 0, 0, 0, 1, 0, 0, 1, 4, 65, 46, 59, 49, 0]⟩ : ByteArray).extract 3 (⟨#[38, 0, 20, 0, 0, 0, 0, 0, 0, 20, 5, 0, 0, 0, 0, 0, 0, 5, 126, 11, 16, 17, 4, 5, 4, 0, 0, 0, 1, 0, 0, 1, 4, 65, 46, 59, 49, 0]⟩ : ByteArray).size))] (by rfl) rfl rfl (by (try simp only [List.map_toArray, List.map_cons, List.map_nil]); first | done | rfl | (simp only [List.length_drop, List.length_take]; rfl)) ?_
           with_reducible refine (dirrecord_Differ.calls k ((⟨#[38, 0, 21]⟩ : ByteArray) ++ ((⟨#[38, 0, 20, 0, 0, 0, 0, 0, 0, 20, 5, 0, 0, 0, 0, 0, 0, 5, 126, 11, 16, 17, 4, 5, 4, 0, 0, 0, 1, 0, 0, 1, 4, 65, 46, 59, 49, 0]⟩ : ByteArray).extract 3 (⟨#[38, 0, 20, 0, 0, 0, 0, 0, 0, 20, 5, 0, 0, 0, 0, 0, 0, 5, 126, 11, 16, 17, 4, 5, 4, 0, 0, 0, 1, 0, 0, 1, 4, 65, 46, 59, 49, 0]⟩ : ByteArray).size)) t188 _ A14.out).mono ?_
           rintro e w24 ⟨v189, rfl, ho0, hb⟩
           refine ⟨_, rfl, ?_⟩
           have n0_ := Aside0.mk (Kd.R_lower ho0 (below_size (by repeat (first | (with_reducible first | exact HB.out | apply below_alloc | apply pw_below_drewN | apply below_drew1 | refine below_set ?_ GE178.out) | exact HB.out))))
           have n1_ := Aside0.mk (blk_below (g := gb178) (o := .cells #[.string t168, .int .i64 t169, .int .i64 t170, .int .i64 t171, .int .i64 t172, .int .i64 t173, .int .i64 t174, .string t175] 23 (0, 0)) (by (with_reducible repeat (first | refine blk_drewN ?_ _ | refine blk_drew ?_ | refine blk_alloc ?_ _)); exact BK178.out) hb)
           have n2_ := Aside0.mk (below_step (by repeat (first | (with_reducible first | exact HB.out | apply below_alloc | apply pw_below_drewN | apply below_drew1 | refine below_set ?_ GE178.out) | exact HB.out)) hb)
           clear BK178
           clear HB
           have HO190 := n0_
           have BK178 := n1_
           have HB := n2_
           clear n0_ n1_ n2_
           (try clear hb)
           (try clear hb2)
           (try clear hk)
           (try clear hi)
           (try clear ho0)
           refine hK.out _ _ ⟨(blk_cell BK178.out 0).trans rfl, (blk_cell BK178.out 1).trans rfl, (blk_cell BK178.out 2).trans rfl, (blk_cell BK178.out 3).trans rfl, (blk_cell BK178.out 4).trans rfl, (blk_cell BK178.out 5).trans rfl, (blk_cell BK178.out 6).trans rfl, (blk_cell BK178.out 7).trans rfl⟩ (fun hHeld => ?_)
           clear hK K
           refine norm_ (a' := ?_) ?_ ?_
           rotate_left
           ·show Act.put _ (some 42) _ = _
            simp only [Act.put, List.setIfInBounds_toArray, List.set_cons_zero, List.set_cons_succ, i64_w, i32_w]
            rfl
           refine one_ (i := 27) (N := some 43) #[true, true, true, true, true, true, true, true, true, true, true, true, true, true, true, true, true, true, true, true, true, true, true, true, true, true, true, true, false, false, false] rfl rfl (one_of HT_.out (by kernel_rfl)) (by decide) (fun K hK => ?_)
           refine Kd.R_lit_step (Kd.int .i64) _ 3 ?hg (N := 43) ?hd (xs := ([2] : List Int)) (inner := [.int .i64 2]) (ok := fun _ => True) (okp := fun _ => True) ?hr ?hp (fun _ hk => hk) trivial (Below.refl _ _) (Nat.le_refl _) (by simp) ?_; (case hd => rfl); (case hg => rfl); (case hr => first | (go_simp; done) | (go_simp; rfl)); (case hp => exact (Reps.one (show Kd.M (Kd.int .i64) _ _ _ 2 [.int .i64 2] from rfl) (Reps.none _ _)))
           intro v192 w25 ho26 hb hg_ hnew_
           clear hg_ hnew_
           (first | rw [← Ny191.out] at ho26 | (simp only [Int.reduceToNat] at ho26; rw [← Ny191.out] at ho26))
           have n0_ := Aside0.mk (Kd.R_elder' (by (with_reducible repeat (first | apply Kd.R_alloc | apply Kd.R_drewN | apply Kd.R_drew)); exact HO190.out) (Kd.R_base ho26) hb)
           have n1_ := Aside0.mk (Kd.R_lower (Kd.R_new' ho26 (Kd.R_lt (by (with_reducible repeat (first | apply Kd.R_alloc | apply Kd.R_drewN | apply Kd.R_drew)); exact HO190.out))) (below_size (by repeat (first | (with_reducible first | exact HB.out | apply below_alloc | apply pw_below_drewN | apply below_drew1 | refine below_set ?_ GE178.out) | exact HB.out))))
           have n2_ := Aside0.mk (blk_below (g := gb178) (o := .cells #[.string t168, .int .i64 t169, .int .i64 t170, .int .i64 t171, .int .i64 t172, .int .i64 t173, .int .i64 t174, .string t175] 23 (0, 0)) (by (with_reducible repeat (first | refine blk_drewN ?_ _ | refine blk_drew ?_ | refine blk_alloc ?_ _)); exact BK178.out) hb)
           have n3_ := Aside0.mk (below_step (by repeat (first | (with_reducible first | exact HB.out | apply below_alloc | apply pw_below_drewN | apply below_drew1 | refine below_set ?_ GE178.out) | exact HB.out)) hb)
           clear HO190
           clear BK178
           clear HB
           have HO190 := n0_
           have HO193 := n1_
           have BK178 := n2_
           have HB := n3_
           clear n0_ n1_ n2_ n3_
           clear hb ho26
           refine hK.out _ _ ⟨(blk_cell BK178.out 0).trans rfl, (blk_cell BK178.out 1).trans rfl, (blk_cell BK178.out 2).trans rfl, (blk_cell BK178.out 3).trans rfl, (blk_cell BK178.out 4).trans rfl, (blk_cell BK178.out 5).trans rfl, (blk_cell BK178.out 6).trans rfl, (blk_cell BK178.out 7).trans rfl⟩ (fun hHeld => ?_)
           clear hK K
           refine norm_ (a' := ?_) ?_ ?_
           rotate_left
           ·show Act.put _ (some 43) _ = _
            simp only [Act.put, List.setIfInBounds_toArray, List.set_cons_zero, List.set_cons_succ, i64_w, i32_w]
            rfl
           exact norm_ (by simp only [putAll, Act.put, List.setIfInBounds_toArray, List.set_cons_zero, List.set_cons_succ]) (hCont (v189, v192) _ ⟨hHeld, (by (with_reducible repeat (first | apply Kd.R_alloc | apply Kd.R_drewN | apply Kd.R_drew)); exact Kd.R_mono HO190.out (fun _ hk => hk.2)), (by (with_reducible repeat (first | apply Kd.R_alloc | apply Kd.R_drewN | apply Kd.R_drew)); exact Kd.R_mono HO193.out (fun _ hk => hk.2)), (by (with_reducible repeat (first | refine blk_drewN ?_ _ | refine blk_drew ?_ | refine blk_alloc ?_ _)); exact BK178.out), (by repeat (first | (with_reducible first | exact HB.out | apply below_alloc | apply pw_below_drewN | apply below_drew1 | refine below_set ?_ GE178.out) | exact HB.out))⟩)
          ·skip
           refine Kd.R_lit_step (Kd.int .i64) _ 3 ?hg (N := 43) ?hd (xs := ([2] : List Int)) (inner := [.int .i64 2]) (ok := fun _ => True) (okp := fun _ => True) ?hr ?hp (fun _ hk => hk) trivial (Below.refl _ _) (Nat.le_refl _) (by simp) ?_; (case hd => rfl); (case hg => rfl); (case hr => first | (go_simp; done) | (go_simp; rfl)); (case hp => exact (Reps.one (show Kd.M (Kd.int .i64) _ _ _ 2 [.int .i64 2] from rfl) (Reps.none _ _)))
           intro v192 w24 ho25 hb hg_ hnew_
           clear hg_ hnew_
           (first | rw [← Ny191.out] at ho25 | (simp only [Int.reduceToNat] at ho25; rw [← Ny191.out] at ho25))
           have n0_ := Aside0.mk (Kd.R_lower ho25 (below_size (by repeat (first | (with_reducible first | exact HB.out | apply below_alloc | apply pw_below_drewN | apply below_drew1 | refine below_set ?_ GE178.out) | exact HB.out))))
           have n1_ := Aside0.mk (blk_below (g := gb178) (o := .cells #[.string t168, .int .i64 t169, .int .i64 t170, .int .i64 t171, .int .i64 t172, .int .i64 t173, .int .i64 t174, .string t175] 23 (0, 0)) (by (with_reducible repeat (first | refine blk_drewN ?_ _ | refine blk_drew ?_ | refine blk_alloc ?_ _)); exact BK178.out) hb)
           have n2_ := Aside0.mk (below_step (by repeat (first | (with_reducible first | exact HB.out | apply below_alloc | apply pw_below_drewN | apply below_drew1 | refine below_set ?_ GE178.out) | exact HB.out)) hb)
           clear BK178
           clear HB
           have HO193 := n0_
           have BK178 := n1_
           have HB := n2_
           clear n0_ n1_ n2_
           clear hb ho25
           refine hK.out _ _ ⟨(blk_cell BK178.out 0).trans rfl, (blk_cell BK178.out 1).trans rfl, (blk_cell BK178.out 2).trans rfl, (blk_cell BK178.out 3).trans rfl, (blk_cell BK178.out 4).trans rfl, (blk_cell BK178.out 5).trans rfl, (blk_cell BK178.out 6).trans rfl, (blk_cell BK178.out 7).trans rfl⟩ (fun hHeld => ?_)
           clear hK K
           refine norm_ (a' := ?_) ?_ ?_
           rotate_left
           ·show Act.put _ (some 43) _ = _
            simp only [Act.put, List.setIfInBounds_toArray, List.set_cons_zero, List.set_cons_succ, i64_w, i32_w]
            rfl
           refine one_ (i := 26) (N := some 42) #[true, true, true, true, true, true, true, true, true, true, true, true, true, true, true, true, true, true, true, true, true, true, true, true, true, true, true, true, false, false, false] rfl rfl (one_of HT_.out (by kernel_rfl)) (by decide) (fun K hK => ?_)
           refine goes_ Try.func18 (by kernel_rfl) rfl #[.string ((⟨#[38, 0, 21]⟩ : ByteArray) ++ ((⟨#[38, 0, 20, 0, 0, 0, 0, 0, 0, 20, 5, 0, 0, 0, 0, 0, 0, 5, 126, 11, 16, 17, 4, 5, 4, 0, 0, 0, 1, 0, 0, 1, 4, 65, 46, 59, 49, 0]⟩ : ByteArray).extract 3 (⟨#[38, 0, 20, 0, 0, 0, 0, 0, 0, 20, 5, 0, 0, 0, 0, 0, 0, 5, 126, 11, 16, 17, 4, 5, 4, 0, 0, 0, 1, 0, 0, 1, 4, 65, 46, 59, 49, 0]⟩ : ByteArray).size))] (by rfl) rfl rfl (by (try simp only [List.map_toArray, List.map_cons, List.map_nil]); first | done | rfl | (simp only [List.length_drop, List.length_take]; rfl)) ?_
           with_reducible refine (dirrecord_Differ.calls k ((⟨#[38, 0, 21]⟩ : ByteArray) ++ ((⟨#[38, 0, 20, 0, 0, 0, 0, 0, 0, 20, 5, 0, 0, 0, 0, 0, 0, 5, 126, 11, 16, 17, 4, 5, 4, 0, 0, 0, 1, 0, 0, 1, 4, 65, 46, 59, 49, 0]⟩ : ByteArray).extract 3 (⟨#[38, 0, 20, 0, 0, 0, 0, 0, 0, 20, 5, 0, 0, 0, 0, 0, 0, 5, 126, 11, 16, 17, 4, 5, 4, 0, 0, 0, 1, 0, 0, 1, 4, 65, 46, 59, 49, 0]⟩ : ByteArray).size)) t188 _ A14.out).mono ?_
           rintro e w26 ⟨v189, rfl, ho0, hb⟩
           refine ⟨_, rfl, ?_⟩
           have n0_ := Aside0.mk (Kd.R_elder' (by (with_reducible repeat (first | apply Kd.R_alloc | apply Kd.R_drewN | apply Kd.R_drew)); exact HO193.out) (Kd.R_base ho0) hb)
           have n1_ := Aside0.mk (Kd.R_lower (Kd.R_new' ho0 (Kd.R_lt (by (with_reducible repeat (first | apply Kd.R_alloc | apply Kd.R_drewN | apply Kd.R_drew)); exact HO193.out))) (below_size (by repeat (first | (with_reducible first | exact HB.out | apply below_alloc | apply pw_below_drewN | apply below_drew1 | refine below_set ?_ GE178.out) | exact HB.out))))
           have n2_ := Aside0.mk (blk_below (g := gb178) (o := .cells #[.string t168, .int .i64 t169, .int .i64 t170, .int .i64 t171, .int .i64 t172, .int .i64 t173, .int .i64 t174, .string t175] 23 (0, 0)) (by (with_reducible repeat (first | refine blk_drewN ?_ _ | refine blk_drew ?_ | refine blk_alloc ?_ _)); exact BK178.out) hb)
           have n3_ := Aside0.mk (below_step (by repeat (first | (with_reducible first | exact HB.out | apply below_alloc | apply pw_below_drewN | apply below_drew1 | refine below_set ?_ GE178.out) | exact HB.out)) hb)
           clear HO193
           clear BK178
           clear HB
           have HO193 := n0_
           have HO190 := n1_
           have BK178 := n2_
           have HB := n3_
           clear n0_ n1_ n2_ n3_
           (try clear hb)
           (try clear hb2)
           (try clear hk)
           (try clear hi)
           (try clear ho0)
           refine hK.out _ _ ⟨(blk_cell BK178.out 0).trans rfl, (blk_cell BK178.out 1).trans rfl, (blk_cell BK178.out 2).trans rfl, (blk_cell BK178.out 3).trans rfl, (blk_cell BK178.out 4).trans rfl, (blk_cell BK178.out 5).trans rfl, (blk_cell BK178.out 6).trans rfl, (blk_cell BK178.out 7).trans rfl⟩ (fun hHeld => ?_)
           clear hK K
           refine norm_ (a' := ?_) ?_ ?_
           rotate_left
           ·show Act.put _ (some 42) _ = _
            simp only [Act.put, List.setIfInBounds_toArray, List.set_cons_zero, List.set_cons_succ, i64_w, i32_w]
            rfl
           exact norm_ (by simp only [putAll, Act.put, List.setIfInBounds_toArray, List.set_cons_zero, List.set_cons_succ]) (hCont (v189, v192) _ ⟨hHeld, (by (with_reducible repeat (first | apply Kd.R_alloc | apply Kd.R_drewN | apply Kd.R_drew)); exact Kd.R_mono HO190.out (fun _ hk => hk.2)), (by (with_reducible repeat (first | apply Kd.R_alloc | apply Kd.R_drewN | apply Kd.R_drew)); exact Kd.R_mono HO193.out (fun _ hk => hk.2)), (by (with_reducible repeat (first | refine blk_drewN ?_ _ | refine blk_drew ?_ | refine blk_alloc ?_ _)); exact BK178.out), (by repeat (first | (with_reducible first | exact HB.out | apply below_alloc | apply pw_below_drewN | apply below_drew1 | refine below_set ?_ GE178.out) | exact HB.out))⟩)
         rintro ⟨v189, v192⟩ w27 ⟨hS_, h0_, h1_, h2_, h3_⟩
         have n0_ : Aside0 (Kd.R (Kd.int .i64) 3 w27 w.heap.size (fun k_ => some k_ ≠ (v192 : Value).ownBlock) v189 t188) := ⟨h0_⟩
         have n1_ : Aside0 (Kd.R (Kd.int .i64) 3 w27 w.heap.size (fun k_ => some k_ ≠ (v189 : Value).ownBlock) v192 y191) := ⟨h1_⟩
         have n2_ : Aside0 (w27.heap[gb178]? = some (.cells #[.string t168, .int .i64 t169, .int .i64 t170, .int .i64 t171, .int .i64 t172, .int .i64 t173, .int .i64 t174, .string t175] 23 (0, 0))) := ⟨h2_⟩
         have n3_ : Aside0 (Below w.heap.size w w27) := ⟨h3_⟩
         clear BK178
         clear HB
         clear h0_ h1_ h2_ h3_
         have HO190 := n0_
         have HO193 := n1_
         have BK178 := n2_
         have HB := n3_
         clear n0_ n1_ n2_ n3_
         have hHeld : w27.cell? ⟨gb178, 0, none⟩ = some (.string t168) ∧ w27.cell? ⟨gb178, 1, none⟩ = some (.int .i64 t169) ∧ w27.cell? ⟨gb178, 2, none⟩ = some (.int .i64 t170) ∧ w27.cell? ⟨gb178, 3, none⟩ = some (.int .i64 t171) ∧ w27.cell? ⟨gb178, 4, none⟩ = some (.int .i64 t172) ∧ w27.cell? ⟨gb178, 5, none⟩ = some (.int .i64 t173) ∧ w27.cell? ⟨gb178, 6, none⟩ = some (.int .i64 t174) ∧ w27.cell? ⟨gb178, 7, none⟩ = some (.string t175) := hS_
         obtain ⟨Ao28, co28, eo28⟩ := Kd.R_slice HO190.out
         (first | subst eo28 | (injection eo28 with f1_ f2_ f3_; have f4_ := f1_.symm; have f5_ := f3_.symm; clear f1_ f2_ f3_; subst f4_; subst f5_))
         obtain ⟨Ao29, co29, eo29⟩ := Kd.R_slice HO193.out
         (first | subst eo29 | (injection eo29 with f1_ f2_ f3_; have f4_ := f1_.symm; have f5_ := f3_.symm; clear f1_ f2_ f3_; subst f4_; subst f5_))
         refine norm_ (a' := ?_) ?_ ?_
         rotate_left
         ·simp only [putAll, Act.put, List.setIfInBounds_toArray, List.set_cons_zero, List.set_cons_succ]
          rfl
         refine one_ (i := 28) (N := some 44) #[true, true, true, true, true, true, true, true, true, true, true, true, true, true, true, true, true, true, true, true, true, true, true, true, true, true, true, true, true, false, false] rfl rfl (one_of HT_.out (by kernel_rfl)) (by decide) (fun K hK => ?_)
         refine goes_ Try.func17 (by kernel_rfl) rfl #[.slice Ao28 t188.length co28, .slice Ao29 y191.length co29] (by rfl) rfl rfl (by (try simp only [List.map_toArray, List.map_cons, List.map_nil]); first | done | rfl | (simp only [List.length_drop, List.length_take]; rfl)) ?_
         with_reducible refine (slices_Equal_int_int.calls k _ _ t188 _ _ y191 true _ ?side1 ?side2 ?side3 ?side4 A15.out).mono ?_
         (case side1 => repeat (first | exact (Kd.R_reads' HO190.out).2.2 | (with_reducible refine Kd.C_alloc ?_ _) | (with_reducible refine Kd.C_drewN ?_ _) | (with_reducible refine Kd.C_drew ?_)))
         (case side2 => exact (Kd.R_reads' HO190.out).2.1)
         (case side3 => repeat (first | exact (Kd.R_reads' HO193.out).2.2 | (with_reducible refine Kd.C_alloc ?_ _) | (with_reducible refine Kd.C_drewN ?_ _) | (with_reducible refine Kd.C_drew ?_)))
         (case side4 => exact (Kd.R_reads' HO193.out).2.1)
         rintro e w' ⟨rfl, ⟨nd, rfl⟩⟩
         refine ⟨_, rfl, ?_⟩
         refine hK.out _ _ ⟨(blk_cell BK178.out 0).trans rfl, (blk_cell BK178.out 1).trans rfl, (blk_cell BK178.out 2).trans rfl, (blk_cell BK178.out 3).trans rfl, (blk_cell BK178.out 4).trans rfl, (blk_cell BK178.out 5).trans rfl, (blk_cell BK178.out 6).trans rfl, (blk_cell BK178.out 7).trans rfl⟩ (fun hHeld => ?_)
         clear hK K
         refine norm_ (a' := ?_) ?_ ?_
         rotate_left
         ·show Act.put _ (some 44) _ = _
          simp only [Act.put, List.setIfInBounds_toArray, List.set_cons_zero, List.set_cons_succ, i64_w, i32_w]
          rfl
         refine pure_ (i := 29) (N := some 45) (v := ?_) (a' := ?_) #[true, true, true, true, true, true, true, true, true, true, true, true, true, true, true, true, true, true, true, true, true, true, true, true, true, true, true, true, true, true, false] rfl rfl (any_of HT_.out (by kernel_rfl)) (fun _ _ _ h => h) (Or.inl ⟨by rfl, ?_⟩) ?_ ?_
         rotate_left
         ·intro w'
          go_simp
          with_reducible rfl
         rotate_left
         ·simp only [Act.put, List.setIfInBounds_toArray, List.set_cons_zero, List.set_cons_succ, i64_w, i32_w]
          rfl
         refine pure_ (i := 30) (N := some 0) (v := ?_) (a' := ?_) #[true, true, true, true, true, true, true, true, true, true, true, true, true, true, true, true, true, true, true, true, true, true, true, true, true, true, true, true, true, true, true] rfl rfl (any_of HT_.out (by kernel_rfl)) (fun _ _ _ h => h) (Or.inl ⟨by rfl, ?_⟩) ?_ ?_
         rotate_left
         ·intro w'
          go_simp
          with_reducible rfl
         rotate_left
         ·simp only [Act.put, List.setIfInBounds_toArray, List.set_cons_zero, List.set_cons_succ, i64_w, i32_w]
          rfl
         refine done_ (done_of HT_.out (by kernel_rfl)) ?_
         try go_wp2
         go_ret
         exact ⟨by first | rfl | (simp [errW_none, errW_some] <;> rfl) | (simp [*, errW_none, errW_some] <;> rfl), by repeat (first | (with_reducible first | exact HB.out | apply below_alloc | apply pw_below_drewN | apply below_drew1 | refine below_set ?_ GE178.out) | exact HB.out)⟩
        ·rw [if_neg c13] at H
         exact absurd H (by simp)
       ·rw [if_neg c12] at H
        exact absurd H (by simp)
      ·rw [if_neg c11] at H
       cases H
     ·rw [if_neg c9] at H
      cases H
    ·rw [if_neg c7] at H
     cases H
   ·rw [if_neg c6] at H
    cases H
  ·rw [if_neg c5] at H
   cases H
 ·rw [if_neg c4] at H
  cases H

/-- masterdisclaw20.awake: it is awake. -/
def masterdisclaw20_awake.f : Option Bool := some true
theorem awakeP_true : awakeP.f 400 = some true := by kernel_rfl
theorem masterdisclaw20_awake.calls (r : Bool) (w : World) (h : masterdisclaw20_awake.f = some r) :
  Calls Try.prog 10 #[] w fun e w' => e = .returned (.bool r) ∧ Below w.heap.size w w' := by
 obtain rfl := Option.some.inj h
 exact awakeP.calls 400 w awakeP_true

end Go.Proofs.Ytagnefbgclpccaa.H
