import Derived.Test.YtagnefbgclpccaaH1c
namespace Go.Proofs.Ytagnefbgclpccaa.H
open Go.RowKit Go.Proofs.YtagnefbgclpccaaW.PrintWords
set_option linter.unusedVariables false

/-- The bytes of a number, as the program writes them. -/
def le4 (n : Int) : ByteArray := strOfNums [n % 256, n / 256 % 256, n / 65536 % 256, n / 16777216 % 256]
def be4 (n : Int) : ByteArray := strOfNums [n / 16777216 % 256, n / 65536 % 256, n / 256 % 256, n % 256]
def le2 (n : Int) : ByteArray := strOfNums [n % 256, n / 256 % 256]
def be2 (n : Int) : ByteArray := strOfNums [n / 256 % 256, n % 256]
theorem le4_size (n : Int) : (le4 n).size ≤ 1000 := by simp [le4, strOfNums, ByteArray.size]
theorem be4_size (n : Int) : (be4 n).size ≤ 1000 := by simp [be4, strOfNums, ByteArray.size]
theorem le2_size (n : Int) : (le2 n).size ≤ 1000 := by simp [le2, strOfNums, ByteArray.size]
theorem be2_size (n : Int) : (be2 n).size ≤ 1000 := by simp [be2, strOfNums, ByteArray.size]

theorem wr_le4 (n : Int) (w : World) : Calls Try.prog 43 #[.int .i64 n, .int .i64 4, .func (.func 68) #[] #[]] w fun e w' => e = .returned (.string (le4 n)) ∧ Below w.heap.size w w' := write_up4 n w
theorem wr_le2 (n : Int) (w : World) : Calls Try.prog 43 #[.int .i64 n, .int .i64 2, .func (.func 68) #[] #[]] w fun e w' => e = .returned (.string (le2 n)) ∧ Below w.heap.size w w' := write_up2 n w
theorem wr_be4 (n : Int) (w : World) (b : Nat) (hb : b < w.heap.size) (hc : w.cell? ⟨b, 0, none⟩ = some (.int .i64 4)) : Calls Try.prog 43 #[.int .i64 n, .int .i64 4, .func (.func 69) #[] #[.pointer (some ⟨b, 0, none⟩)]] w fun e w' => e = .returned (.string (be4 n)) ∧ Below w.heap.size w w' := write_down4 n w b hb hc
theorem wr_be2 (n : Int) (w : World) (b : Nat) (hb : b < w.heap.size) (hc : w.cell? ⟨b, 0, none⟩ = some (.int .i64 2)) : Calls Try.prog 43 #[.int .i64 n, .int .i64 2, .func (.func 69) #[] #[.pointer (some ⟨b, 0, none⟩)]] w fun e w' => e = .returned (.string (be2 n)) ∧ Below w.heap.size w w' := write_down2 n w b hb hc

theorem dbl4 (w : World) : Calls Try.prog 41 #[.int .i64 4] w fun e w' => e = .returned (.bool true) ∧ w = w' := by
  go_enter Try.func41, Try.ntmps41
  go_wp2
  go_ret
  exact ⟨rfl, rfl⟩
theorem dbl2 (w : World) : Calls Try.prog 41 #[.int .i64 2] w fun e w' => e = .returned (.bool true) ∧ w = w' := by
  go_enter Try.func41, Try.ntmps41
  go_wp2
  go_ret
  exact ⟨rfl, rfl⟩

theorem fits_neg (n k : Int) (w : World) (h : n < 0) : Calls Try.prog 42 #[.int .i64 n, .int .i64 k] w fun e w' => e = .returned (.bool false) ∧ w = w' := by
  have h1 : decide (0 ≤ n) = false := decide_eq_false (by omega)
  go_enter Try.func42, Try.ntmps42
  go_wp2
  go_ret
  exact ⟨rfl, rfl⟩
theorem fits4 (n : Int) (w : World) (h : 0 ≤ n) : Calls Try.prog 42 #[.int .i64 n, .int .i64 4] w fun e w' => e = .returned (.bool (decide (n < 4294967296))) ∧ w = w' := by
  have h1 : decide (0 ≤ n) = true := decide_eq_true (by omega)
  have w32 : IntKind.i64.wrap 32 = 32 := by decide
  go_enter Try.func42, Try.ntmps42
  go_wp2
  go_ret
  exact ⟨rfl, rfl⟩
theorem fits2 (n : Int) (w : World) (h : 0 ≤ n) : Calls Try.prog 42 #[.int .i64 n, .int .i64 2] w fun e w' => e = .returned (.bool (decide (n < 65536))) ∧ w = w' := by
  have h1 : decide (0 ≤ n) = true := decide_eq_true (by omega)
  have w16 : IntKind.i64.wrap 16 = 16 := by decide
  go_enter Try.func42, Try.ntmps42
  go_wp2
  go_ret
  exact ⟨rfl, rfl⟩

end Go.Proofs.Ytagnefbgclpccaa.H
