import Derived.Test.YtagnefbgclpccaaH1a
import Derived.LoopN
import Derived.Deep.RegionWith
namespace Go.Proofs.Ytagnefbgclpccaa.H
open Go.RowKit Go.Proofs.YtagnefbgclpccaaW.PrintWords
set_option linter.unusedVariables false

theorem up_any (i : Int) (w : World) : Calls Try.prog 68 #[.int .i64 i] w fun e w' => e = .returned (.int .i64 i) ∧ w = w' := by
  go_enter Try.func68, Try.ntmps68
  go_wp2
  go_ret
  exact ⟨rfl, rfl⟩

theorem conv_any (w : World) (xs : List Int) (n : Nat) (c : Array Value) (hl : xs.length = n) (hm : n ≤ 255) (hc : c = (xs.map (Value.int .u8)).toArray) (m : Nat) :
    (convert 37 9 (.slice (some ⟨w.heap.size, 0, none⟩) n n)).run Try.prog ((w.alloc (.cells c 5)).drewN m) = .ok (.string (strOfNums xs)) ((w.alloc (.cells c 5)).drewN m) := by
  subst hc
  refine string_of_reads Try.underlying37 Try.underlying5 Try.underlying9 ⟨hl, by omega, fun h => ⟨_, rfl, fun j hj => ?_⟩⟩
  have : (⟨w.heap.size, 0, none⟩ : Addr).add j = ⟨w.heap.size, j, none⟩ := by unfold Addr.add; split <;> simp_all
  rw [this]
  show (match (w.heap.push (Obj.cells ((xs.map (Value.int .u8)).toArray) 5 (0, 0)))[w.heap.size]? with
    | some (.cells c _ _) => if (none : Option Nat).isSome then none else c[j]?
    | _ => none) = _
  rw [Array.getElem?_push, if_pos rfl]
  simp [List.getD_eq_getElem?_getD, List.getElem?_eq_getElem (show j < xs.length by omega)]
theorem conv4 (w : World) (x0 x1 x2 x3 : Int) : (convert 37 9 (.slice (some ⟨w.heap.size, 0, none⟩) 4 4)).run Try.prog (w.alloc (.cells #[.int .u8 x0, .int .u8 x1, .int .u8 x2, .int .u8 x3] 5)).drew.drew.drew.drew =
    .ok (.string (strOfNums [x0, x1, x2, x3])) (w.alloc (.cells #[.int .u8 x0, .int .u8 x1, .int .u8 x2, .int .u8 x3] 5)).drew.drew.drew.drew :=
  conv_any w [x0, x1, x2, x3] 4 _ rfl (by omega) rfl 4
theorem conv2 (w : World) (x0 x1 : Int) : (convert 37 9 (.slice (some ⟨w.heap.size, 0, none⟩) 2 2)).run Try.prog (w.alloc (.cells #[.int .u8 x0, .int .u8 x1] 5)).drew.drew =
    .ok (.string (strOfNums [x0, x1])) (w.alloc (.cells #[.int .u8 x0, .int .u8 x1] 5)).drew.drew :=
  conv_any w [x0, x1] 2 _ rfl (by omega) rfl 2

theorem down_any (i : Int) (k : Int) (a : Addr) (w : World) (hc : w.cell? a = some (.int .i64 k)) (h0 : 0 ≤ i) (h1 : i < k) (h2 : k ≤ 8) : Calls Try.prog 69 #[.int .i64 i, .pointer (some a)] w fun e w' => e = .returned (.int .i64 (k - 1 - i)) ∧ w = w' := by
  go_enter Try.func69, Try.ntmps69
  go_wp2
  go_ret
  exact ⟨rfl, rfl⟩

set_option maxRecDepth 100000 in
set_option maxHeartbeats 4000000 in
theorem write_up4 (n : Int) (w : World) :
    Calls Try.prog 43 #[.int .i64 n, .int .i64 4, (.func (.func 68) #[] #[])] w fun e w' => e = .returned (.string (strOfNums [n % 256, n / 256 % 256, n / 65536 % 256, n / 16777216 % 256])) ∧ Below w.heap.size w w' := by
  have hmk : ∀ w, (Instr.makeSlice 37 (.int .i64 4) (.int .i64 4)).run Try.prog w = .ok (.slice (some ⟨w.heap.size, 0, none⟩) 4 4) (w.alloc (.cells #[.int .u8 0, .int .u8 0, .int .u8 0, .int .u8 0] 5)) := fun _ => by kernel_rfl
  have hcv := conv4
  have w0 : IntKind.i64.wrap 0 = 0 := by decide
  have w8 : IntKind.i64.wrap 8 = 8 := by decide
  have w16 : IntKind.i64.wrap 16 = 16 := by decide
  have w24 : IntKind.i64.wrap 24 = 24 := by decide
  go_enter Try.func43, Try.ntmps43
  go_wp2
  refine wp_loop_rounds 5 ?_
  iterate 4
    rw [rounds_succ]
    go_wp2
    go_region_with (go_at_call 68; refine (up_any _ _).mono ?_; rintro e w' ⟨rfl, rfl⟩)
    go_wp2
  rw [rounds_succ]
  go_wp2
  go_ret
  exact ⟨rfl, (Below.drew (Below.drew (Below.drew (Below.drew ((Below.refl _ _).alloc (Nat.le_refl _) _)))))⟩

set_option maxRecDepth 100000 in
set_option maxHeartbeats 4000000 in
theorem write_up2 (n : Int) (w : World) :
    Calls Try.prog 43 #[.int .i64 n, .int .i64 2, (.func (.func 68) #[] #[])] w fun e w' => e = .returned (.string (strOfNums [n % 256, n / 256 % 256])) ∧ Below w.heap.size w w' := by
  have hmk : ∀ w, (Instr.makeSlice 37 (.int .i64 2) (.int .i64 2)).run Try.prog w = .ok (.slice (some ⟨w.heap.size, 0, none⟩) 2 2) (w.alloc (.cells #[.int .u8 0, .int .u8 0] 5)) := fun _ => by kernel_rfl
  have hcv := conv2
  have w0 : IntKind.i64.wrap 0 = 0 := by decide
  have w8 : IntKind.i64.wrap 8 = 8 := by decide
  go_enter Try.func43, Try.ntmps43
  go_wp2
  refine wp_loop_rounds 3 ?_
  iterate 2
    rw [rounds_succ]
    go_wp2
    go_region_with (go_at_call 68; refine (up_any _ _).mono ?_; rintro e w' ⟨rfl, rfl⟩)
    go_wp2
  rw [rounds_succ]
  go_wp2
  go_ret
  exact ⟨rfl, (Below.drew (Below.drew ((Below.refl _ _).alloc (Nat.le_refl _) _)))⟩

set_option maxRecDepth 100000 in
set_option maxHeartbeats 4000000 in
theorem write_down2 (n : Int) (w : World) (b : Nat) (hb : b < w.heap.size) (hc : w.cell? ⟨b, 0, none⟩ = some (.int .i64 2)) :
    Calls Try.prog 43 #[.int .i64 n, .int .i64 2, (.func (.func 69) #[] #[.pointer (some ⟨b, 0, none⟩)])] w fun e w' => e = .returned (.string (strOfNums [n / 256 % 256, n % 256])) ∧ Below w.heap.size w w' := by
  have hmk : ∀ w, (Instr.makeSlice 37 (.int .i64 2) (.int .i64 2)).run Try.prog w = .ok (.slice (some ⟨w.heap.size, 0, none⟩) 2 2) (w.alloc (.cells #[.int .u8 0, .int .u8 0] 5)) := fun _ => by kernel_rfl
  have hcv := conv2
  have w0 : IntKind.i64.wrap 0 = 0 := by decide
  have w8 : IntKind.i64.wrap 8 = 8 := by decide
  have v1 : IntKind.i64.wrap 1 = 1 := by decide
  have v2 : IntKind.i64.wrap 2 = 2 := by decide
  have v3 : IntKind.i64.wrap 3 = 3 := by decide
  have hne : b ≠ w.heap.size := by omega
  go_enter Try.func43, Try.ntmps43
  go_wp2
  refine wp_loop_rounds 3 ?_
  iterate 2
    rw [rounds_succ]
    go_wp2
    go_region_with (go_at_call 69; refine (down_any _ 2 _ _ (by go_simp) (by omega) (by omega) (by omega)).mono ?_; rintro e w' ⟨rfl, rfl⟩)
    go_wp2
  rw [rounds_succ]
  go_wp2
  go_ret
  exact ⟨rfl, (Below.drew (Below.drew ((Below.refl _ _).alloc (Nat.le_refl _) _)))⟩

set_option maxRecDepth 100000 in
set_option maxHeartbeats 4000000 in
theorem write_down4 (n : Int) (w : World) (b : Nat) (hb : b < w.heap.size) (hc : w.cell? ⟨b, 0, none⟩ = some (.int .i64 4)) :
    Calls Try.prog 43 #[.int .i64 n, .int .i64 4, (.func (.func 69) #[] #[.pointer (some ⟨b, 0, none⟩)])] w fun e w' => e = .returned (.string (strOfNums [n / 16777216 % 256, n / 65536 % 256, n / 256 % 256, n % 256])) ∧ Below w.heap.size w w' := by
  have hmk : ∀ w, (Instr.makeSlice 37 (.int .i64 4) (.int .i64 4)).run Try.prog w = .ok (.slice (some ⟨w.heap.size, 0, none⟩) 4 4) (w.alloc (.cells #[.int .u8 0, .int .u8 0, .int .u8 0, .int .u8 0] 5)) := fun _ => by kernel_rfl
  have hcv := conv4
  have w0 : IntKind.i64.wrap 0 = 0 := by decide
  have w8 : IntKind.i64.wrap 8 = 8 := by decide
  have w16 : IntKind.i64.wrap 16 = 16 := by decide
  have w24 : IntKind.i64.wrap 24 = 24 := by decide
  have v1 : IntKind.i64.wrap 1 = 1 := by decide
  have v2 : IntKind.i64.wrap 2 = 2 := by decide
  have v3 : IntKind.i64.wrap 3 = 3 := by decide
  have hne : b ≠ w.heap.size := by omega
  go_enter Try.func43, Try.ntmps43
  go_wp2
  refine wp_loop_rounds 5 ?_
  iterate 4
    rw [rounds_succ]
    go_wp2
    go_region_with (go_at_call 69; refine (down_any _ 4 _ _ (by go_simp) (by omega) (by omega) (by omega)).mono ?_; rintro e w' ⟨rfl, rfl⟩)
    go_wp2
  rw [rounds_succ]
  go_wp2
  go_ret
  exact ⟨rfl, (Below.drew (Below.drew (Below.drew (Below.drew ((Below.refl _ _).alloc (Nat.le_refl _) _)))))⟩


end Go.Proofs.Ytagnefbgclpccaa.H
