import Derived.Test.YtagnefbgclpccaaH1e
import Derived.Laws.BitsLemmas
import Derived.Laws.Bits64
namespace Go.Proofs.Ytagnefbgclpccaa.H
open Go.RowKit Go.Proofs.YtagnefbgclpccaaW.PrintWords
set_option linter.unusedVariables false

theorem or_comm_u64 (x y : Int) : bits .or .u64 x y = bits .or .u64 y x := by
  simp only [bits, BitVec.or_comm]
theorem wraps_u64 (n : Int) (h₀ : 0 ≤ n) (h₁ : n < 2 ^ 40) : IntKind.u64.wrap n = n := by rw [IntKind.wrap_u64]; omega
theorem or_u64 (i : Nat) (lo hi : Int) (h0 : 0 ≤ lo) (h1 : lo < 2 ^ i) (h2 : lo < 2 ^ 40) (h3 : 0 ≤ hi) (h4 : hi < 2 ^ 40) (h5 : hi % 2 ^ i = 0) : bits .or .u64 lo hi = lo + hi := by
  rw [or_comm_u64, bits_join .u64 40 (by decide) wraps_u64 i hi lo h3 h5 h4 h0 h1 h2]; omega
theorem or_u64_0 (x : UInt8) : bits .or .u64 0 (IntKind.u64.wrap (IntKind.u64.wrap (x.toNat : Int))) = x.toNat := by
  have hx := x.toNat_lt
  rw [IntKind.wrap_u64, IntKind.wrap_u64, or_u64 0 _ _ (by omega) (by omega) (by omega) (by omega) (by omega) (by omega)]; omega
theorem or_u64_1 (x y : UInt8) : bits .or .u64 (x.toNat : Int) (IntKind.u64.wrap (IntKind.u64.wrap (y.toNat : Int) * 256)) = x.toNat + y.toNat * 256 := by
  have hx := x.toNat_lt
  have hy := y.toNat_lt
  rw [IntKind.wrap_u64, IntKind.wrap_u64, or_u64 8 _ _ (by omega) (by omega) (by omega) (by omega) (by omega) (by omega)]; omega
theorem or_u64_2 (x y z : UInt8) : bits .or .u64 ((x.toNat : Int) + y.toNat * 256) (IntKind.u64.wrap (IntKind.u64.wrap (z.toNat : Int) * 65536)) = x.toNat + y.toNat * 256 + z.toNat * 65536 := by
  have hx := x.toNat_lt
  have hy := y.toNat_lt
  have hz := z.toNat_lt
  rw [IntKind.wrap_u64, IntKind.wrap_u64, or_u64 16 _ _ (by omega) (by omega) (by omega) (by omega) (by omega) (by omega)]; omega
theorem or_u64_3 (x y z u : UInt8) : bits .or .u64 ((x.toNat : Int) + y.toNat * 256 + z.toNat * 65536) (IntKind.u64.wrap (IntKind.u64.wrap (u.toNat : Int) * 16777216)) = x.toNat + y.toNat * 256 + z.toNat * 65536 + u.toNat * 16777216 := by
  have hx := x.toNat_lt
  have hy := y.toNat_lt
  have hz := z.toNat_lt
  have hu := u.toNat_lt
  rw [IntKind.wrap_u64, IntKind.wrap_u64, or_u64 24 _ _ (by omega) (by omega) (by omega) (by omega) (by omega) (by omega)]; omega
theorem gt2 (x y : UInt8) : decide ((9223372036854775807 : Int) < x.toNat + y.toNat * 256) = false := by
  have hx := x.toNat_lt
  have hy := y.toNat_lt
  exact decide_eq_false (by omega)
theorem gt4 (x y z u : UInt8) : decide ((9223372036854775807 : Int) < x.toNat + y.toNat * 256 + z.toNat * 65536 + u.toNat * 16777216) = false := by
  have hx := x.toNat_lt
  have hy := y.toNat_lt
  have hz := z.toNat_lt
  have hu := u.toNat_lt
  exact decide_eq_false (by omega)
theorem inside_any (s : ByteArray) (a k : Int) (w : World) (hs : s.size ≤ 9223372036854775000) (hk0 : 0 ≤ k) (hk : k ≤ 100) :
    Calls Try.prog 59 #[.string s, .int .i64 a, .int .i64 k] w fun e w' => e = .returned (.bool (decide (0 ≤ a ∧ a + k ≤ s.size))) ∧ w = w' := by
  by_cases h0 : 0 ≤ a
  · have d0 : decide (0 ≤ a) = true := decide_eq_true h0
    go_enter Try.func59, Try.ntmps59
    go_wp2
    go_ret
    have e : decide (a ≤ (s.size : Int) - k) = decide (0 ≤ a ∧ a + k ≤ s.size) := by rw [decide_eq_decide]; omega
    exact ⟨congrArg (fun z => Ending.returned (.bool z)) e, rfl⟩
  · have d0 : decide (0 ≤ a) = false := decide_eq_false h0
    go_enter Try.func59, Try.ntmps59
    go_wp2
    go_ret
    exact ⟨by simp, rfl⟩

set_option maxRecDepth 100000 in
set_option maxHeartbeats 4000000 in
theorem read_up2 (s : ByteArray) (a : Int) (w : World) (hs : s.size ≤ 9223372036854775000) (h0 : 0 ≤ a) (h1 : a + 2 ≤ s.size) :
    Calls Try.prog 54 #[.string s, .int .i64 a, .int .i64 2, (.func (.func 68) #[] #[])] w fun e w' => e = .returned (.tuple #[.int .i64 (bt s a + bt s (a + 1) * 256), .int .i64 0]) ∧ w = w' := by
  have d : decide (0 ≤ a ∧ a + 2 ≤ s.size) = true := decide_eq_true ⟨h0, h1⟩
  have r0 := or_u64_0
  have r1 := or_u64_1
  have g := gt2
  go_enter Try.func54, Try.ntmps54
  go_wp2_with (go_at_call 59; refine (inside_any _ _ _ _ (by omega) (by omega) (by omega)).mono ?_; rintro e w' ⟨rfl, rfl⟩)
  refine wp_loop_rounds 3 ?_
  iterate 2
    rw [rounds_succ]
    go_wp2_with (go_at_call 68; refine (up_any _ _).mono ?_; rintro e w' ⟨rfl, rfl⟩)
  rw [rounds_succ]
  go_wp2
  go_ret2
  refine ⟨?_, rfl⟩
  simp only [bt_at]
  have q0 := bt_range s a
  have q1 := bt_range s (a + 1)
  have e : wrap64 (bt s a + bt s (a + 1) * 256) = bt s a + bt s (a + 1) * 256 := by unfold wrap64; omega
  exact congrArg (fun z => Ending.returned (.tuple #[.int .i64 z, .int .i64 0])) e

set_option maxRecDepth 100000 in
set_option maxHeartbeats 4000000 in
theorem read_up4 (s : ByteArray) (a : Int) (w : World) (hs : s.size ≤ 9223372036854775000) (h0 : 0 ≤ a) (h1 : a + 4 ≤ s.size) :
    Calls Try.prog 54 #[.string s, .int .i64 a, .int .i64 4, (.func (.func 68) #[] #[])] w fun e w' => e = .returned (.tuple #[.int .i64 (bt s a + bt s (a + 1) * 256 + bt s (a + 2) * 65536 + bt s (a + 3) * 16777216), .int .i64 0]) ∧ w = w' := by
  have d : decide (0 ≤ a ∧ a + 4 ≤ s.size) = true := decide_eq_true ⟨h0, h1⟩
  have r0 := or_u64_0
  have r1 := or_u64_1
  have r2 := or_u64_2
  have r3 := or_u64_3
  have g := gt4
  go_enter Try.func54, Try.ntmps54
  go_wp2_with (go_at_call 59; refine (inside_any _ _ _ _ (by omega) (by omega) (by omega)).mono ?_; rintro e w' ⟨rfl, rfl⟩)
  refine wp_loop_rounds 5 ?_
  iterate 4
    rw [rounds_succ]
    go_wp2_with (go_at_call 68; refine (up_any _ _).mono ?_; rintro e w' ⟨rfl, rfl⟩)
  rw [rounds_succ]
  go_wp2
  go_ret2
  refine ⟨?_, rfl⟩
  simp only [bt_at]
  have q0 := bt_range s a
  have q1 := bt_range s (a + 1)
  have q2 := bt_range s (a + 2)
  have q3 := bt_range s (a + 3)
  have e : wrap64 (bt s a + bt s (a + 1) * 256 + bt s (a + 2) * 65536 + bt s (a + 3) * 16777216) = bt s a + bt s (a + 1) * 256 + bt s (a + 2) * 65536 + bt s (a + 3) * 16777216 := by unfold wrap64; omega
  exact congrArg (fun z => Ending.returned (.tuple #[.int .i64 z, .int .i64 0])) e

set_option maxRecDepth 100000 in
set_option maxHeartbeats 4000000 in
theorem read_down2 (s : ByteArray) (a : Int) (w : World) (hs : s.size ≤ 9223372036854775000) (h0 : 0 ≤ a) (h1 : a + 2 ≤ s.size) (c : Addr) (hc : w.cell? c = some (.int .i64 2)) :
    Calls Try.prog 54 #[.string s, .int .i64 a, .int .i64 2, (.func (.func 69) #[] #[.pointer (some c)])] w fun e w' => e = .returned (.tuple #[.int .i64 (bt s (a + 1) + bt s a * 256), .int .i64 0]) ∧ w = w' := by
  have d : decide (0 ≤ a ∧ a + 2 ≤ s.size) = true := decide_eq_true ⟨h0, h1⟩
  have r0 := or_u64_0
  have r1 := or_u64_1
  have g := gt2
  go_enter Try.func54, Try.ntmps54
  go_wp2_with (go_at_call 59; refine (inside_any _ _ _ _ (by omega) (by omega) (by omega)).mono ?_; rintro e w' ⟨rfl, rfl⟩)
  refine wp_loop_rounds 3 ?_
  iterate 2
    rw [rounds_succ]
    go_wp2_with (go_at_call 69; refine (down_any _ 2 _ _ hc (by omega) (by omega) (by omega)).mono ?_; rintro e w' ⟨rfl, rfl⟩)
  rw [rounds_succ]
  go_wp2
  go_ret2
  refine ⟨?_, rfl⟩
  simp only [bt_at]
  have q1 := bt_range s (a + 1)
  have q0 := bt_range s a
  have e : wrap64 (bt s (a + 1) + bt s a * 256) = bt s (a + 1) + bt s a * 256 := by unfold wrap64; omega
  exact congrArg (fun z => Ending.returned (.tuple #[.int .i64 z, .int .i64 0])) e

set_option maxRecDepth 100000 in
set_option maxHeartbeats 4000000 in
theorem read_down4 (s : ByteArray) (a : Int) (w : World) (hs : s.size ≤ 9223372036854775000) (h0 : 0 ≤ a) (h1 : a + 4 ≤ s.size) (c : Addr) (hc : w.cell? c = some (.int .i64 4)) :
    Calls Try.prog 54 #[.string s, .int .i64 a, .int .i64 4, (.func (.func 69) #[] #[.pointer (some c)])] w fun e w' => e = .returned (.tuple #[.int .i64 (bt s (a + 3) + bt s (a + 2) * 256 + bt s (a + 1) * 65536 + bt s a * 16777216), .int .i64 0]) ∧ w = w' := by
  have d : decide (0 ≤ a ∧ a + 4 ≤ s.size) = true := decide_eq_true ⟨h0, h1⟩
  have r0 := or_u64_0
  have r1 := or_u64_1
  have r2 := or_u64_2
  have r3 := or_u64_3
  have g := gt4
  go_enter Try.func54, Try.ntmps54
  go_wp2_with (go_at_call 59; refine (inside_any _ _ _ _ (by omega) (by omega) (by omega)).mono ?_; rintro e w' ⟨rfl, rfl⟩)
  refine wp_loop_rounds 5 ?_
  iterate 4
    rw [rounds_succ]
    go_wp2_with (go_at_call 69; refine (down_any _ 4 _ _ hc (by omega) (by omega) (by omega)).mono ?_; rintro e w' ⟨rfl, rfl⟩)
  rw [rounds_succ]
  go_wp2
  go_ret2
  refine ⟨?_, rfl⟩
  simp only [bt_at]
  have q3 := bt_range s (a + 3)
  have q2 := bt_range s (a + 2)
  have q1 := bt_range s (a + 1)
  have q0 := bt_range s a
  have e : wrap64 (bt s (a + 3) + bt s (a + 2) * 256 + bt s (a + 1) * 65536 + bt s a * 16777216) = bt s (a + 3) + bt s (a + 2) * 256 + bt s (a + 1) * 65536 + bt s a * 16777216 := by unfold wrap64; omega
  exact congrArg (fun z => Ending.returned (.tuple #[.int .i64 z, .int .i64 0])) e

set_option maxRecDepth 100000 in
set_option maxHeartbeats 1000000 in
theorem ReadLittle4 (s : ByteArray) (a : Int) (w : World) (hs : s.size ≤ 9223372036854775000) (h0 : 0 ≤ a) (h1 : a + 4 ≤ s.size) :
    Calls Try.prog 34 #[.string s, .int .i64 a, .int .i64 4] w fun e w' => e = .returned (.tuple #[.int .i64 (bt s a + bt s (a + 1) * 256 + bt s (a + 2) * 65536 + bt s (a + 3) * 16777216), .int .i64 0]) ∧ Below w.heap.size w w' := by
  go_enter Try.func34, Try.ntmps34
  go_wp2_with (go_at_call 44; refine (up_mk _ _).mono ?_; rintro e w' ⟨rfl, rfl⟩)
  refine (read_up4 _ _ _ hs h0 h1).mono ?_
  rintro e w1 ⟨rfl, rfl⟩
  go_wp2
  go_ret2
  exact ⟨rfl, Below.refl _ _⟩

set_option maxRecDepth 100000 in
set_option maxHeartbeats 1000000 in
theorem ReadLittle2 (s : ByteArray) (a : Int) (w : World) (hs : s.size ≤ 9223372036854775000) (h0 : 0 ≤ a) (h1 : a + 2 ≤ s.size) :
    Calls Try.prog 34 #[.string s, .int .i64 a, .int .i64 2] w fun e w' => e = .returned (.tuple #[.int .i64 (bt s a + bt s (a + 1) * 256), .int .i64 0]) ∧ Below w.heap.size w w' := by
  go_enter Try.func34, Try.ntmps34
  go_wp2_with (go_at_call 44; refine (up_mk _ _).mono ?_; rintro e w' ⟨rfl, rfl⟩)
  refine (read_up2 _ _ _ hs h0 h1).mono ?_
  rintro e w1 ⟨rfl, rfl⟩
  go_wp2
  go_ret2
  exact ⟨rfl, Below.refl _ _⟩

set_option maxRecDepth 100000 in
set_option maxHeartbeats 1000000 in
theorem ReadBig4 (s : ByteArray) (a : Int) (w : World) (hs : s.size ≤ 9223372036854775000) (h0 : 0 ≤ a) (h1 : a + 4 ≤ s.size) :
    Calls Try.prog 60 #[.string s, .int .i64 a, .int .i64 4] w fun e w' => e = .returned (.tuple #[.int .i64 (bt s (a + 3) + bt s (a + 2) * 256 + bt s (a + 1) * 65536 + bt s a * 16777216), .int .i64 0]) ∧ Below w.heap.size w w' := by
  go_enter Try.func60, Try.ntmps60
  go_wp2_with (go_at_call 45; refine (down_mk _ _).mono ?_; rintro e w' ⟨rfl, rfl⟩)
  refine (read_down4 _ _ _ hs h0 h1 _ (new_cell w w _ _ (Below.refl _ _))).mono ?_
  rintro e w1 ⟨rfl, rfl⟩
  go_wp2
  go_ret2
  exact ⟨rfl, (Below.refl _ _).alloc (Nat.le_refl _) _⟩

set_option maxRecDepth 100000 in
set_option maxHeartbeats 1000000 in
theorem ReadBig2 (s : ByteArray) (a : Int) (w : World) (hs : s.size ≤ 9223372036854775000) (h0 : 0 ≤ a) (h1 : a + 2 ≤ s.size) :
    Calls Try.prog 60 #[.string s, .int .i64 a, .int .i64 2] w fun e w' => e = .returned (.tuple #[.int .i64 (bt s (a + 1) + bt s a * 256), .int .i64 0]) ∧ Below w.heap.size w w' := by
  go_enter Try.func60, Try.ntmps60
  go_wp2_with (go_at_call 45; refine (down_mk _ _).mono ?_; rintro e w' ⟨rfl, rfl⟩)
  refine (read_down2 _ _ _ hs h0 h1 _ (new_cell w w _ _ (Below.refl _ _))).mono ?_
  rintro e w1 ⟨rfl, rfl⟩
  go_wp2
  go_ret2
  exact ⟨rfl, (Below.refl _ _).alloc (Nat.le_refl _) _⟩

/-- endian.ReadLittle at the sizes 4 and 2, inside of the string. -/
def endian_ReadLittle.f (a0 : ByteArray) (a1 a2 : Int) : Option (Int × Int) :=
  if a0.size ≤ 9223372036854775000 ∧ 0 ≤ a1 ∧ a1 + a2 ≤ a0.size then (if a2 = 4 then some (bt a0 a1 + bt a0 (a1 + 1) * 256 + bt a0 (a1 + 2) * 65536 + bt a0 (a1 + 3) * 16777216, 0) else if a2 = 2 then some (bt a0 a1 + bt a0 (a1 + 1) * 256, 0) else none) else none
theorem endian_ReadLittle.calls (a0 : ByteArray) (a1 : Int) (a2 : Int) (r1 : Int) (r2 : Int) (w : World) (h : endian_ReadLittle.f a0 a1 a2 = some (r1, r2)) :
    Calls Try.prog 34 #[.string a0, .int .i64 a1, .int .i64 a2] w fun e w' => e = .returned (.tuple #[.int .i64 r1, .int .i64 r2]) ∧ Below w.heap.size w w' := by
  unfold endian_ReadLittle.f at h
  by_cases hc : a0.size ≤ 9223372036854775000 ∧ 0 ≤ a1 ∧ a1 + a2 ≤ a0.size
  · rw [if_pos hc] at h
    obtain ⟨hs, h0, h1⟩ := hc
    by_cases h4 : a2 = 4
    · subst h4
      rw [if_pos rfl] at h
      obtain ⟨rfl, rfl⟩ := Prod.mk.inj (Option.some.inj h)
      exact ReadLittle4 a0 a1 w hs h0 h1
    · rw [if_neg h4] at h
      by_cases h2 : a2 = 2
      · subst h2
        rw [if_pos rfl] at h
        obtain ⟨rfl, rfl⟩ := Prod.mk.inj (Option.some.inj h)
        exact ReadLittle2 a0 a1 w hs h0 h1
      · rw [if_neg h2] at h
        cases h
  · rw [if_neg hc] at h
    cases h

/-- endian.ReadBig at the sizes 4 and 2, inside of the string. -/
def endian_ReadBig.f (a0 : ByteArray) (a1 a2 : Int) : Option (Int × Int) :=
  if a0.size ≤ 9223372036854775000 ∧ 0 ≤ a1 ∧ a1 + a2 ≤ a0.size then (if a2 = 4 then some (bt a0 (a1 + 3) + bt a0 (a1 + 2) * 256 + bt a0 (a1 + 1) * 65536 + bt a0 a1 * 16777216, 0) else if a2 = 2 then some (bt a0 (a1 + 1) + bt a0 a1 * 256, 0) else none) else none
theorem endian_ReadBig.calls (a0 : ByteArray) (a1 : Int) (a2 : Int) (r1 : Int) (r2 : Int) (w : World) (h : endian_ReadBig.f a0 a1 a2 = some (r1, r2)) :
    Calls Try.prog 60 #[.string a0, .int .i64 a1, .int .i64 a2] w fun e w' => e = .returned (.tuple #[.int .i64 r1, .int .i64 r2]) ∧ Below w.heap.size w w' := by
  unfold endian_ReadBig.f at h
  by_cases hc : a0.size ≤ 9223372036854775000 ∧ 0 ≤ a1 ∧ a1 + a2 ≤ a0.size
  · rw [if_pos hc] at h
    obtain ⟨hs, h0, h1⟩ := hc
    by_cases h4 : a2 = 4
    · subst h4
      rw [if_pos rfl] at h
      obtain ⟨rfl, rfl⟩ := Prod.mk.inj (Option.some.inj h)
      exact ReadBig4 a0 a1 w hs h0 h1
    · rw [if_neg h4] at h
      by_cases h2 : a2 = 2
      · subst h2
        rw [if_pos rfl] at h
        obtain ⟨rfl, rfl⟩ := Prod.mk.inj (Option.some.inj h)
        exact ReadBig2 a0 a1 w hs h0 h1
      · rw [if_neg h2] at h
        cases h
  · rw [if_neg hc] at h
    cases h

end Go.Proofs.Ytagnefbgclpccaa.H
