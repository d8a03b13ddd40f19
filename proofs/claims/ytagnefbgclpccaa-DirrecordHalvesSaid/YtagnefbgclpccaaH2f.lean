import Derived.Test.YtagnefbgclpccaaH2e
namespace Go.Proofs.Ytagnefbgclpccaa.H
open Go.RowKit Go.Proofs.YtagnefbgclpccaaW.PrintWords Go.Proofs.YtagnefbgclpccaaW.PrintLast Go.Proofs.Ytagnefbgclpccaa.A
set_option linter.unusedVariables false

abbrev zeroRec : Array Value := #[.string ⟨#[]⟩, .int .i64 0, .int .i64 0, .int .i64 0, .int .i64 0, .int .i64 0, .int .i64 0, .string ⟨#[]⟩]
theorem new2 (w : World) (o : Obj) (c : Array Value) (t : TypeId) : ((w.alloc o).alloc (.cells c t)).heap[w.heap.size + 1]? = some (.cells c t (0, 0)) := by
  show ((w.heap.push _).push _)[w.heap.size + 1]? = _
  rw [Array.getElem?_push, if_pos (by simp)]
theorem below2 (w : World) (o o2 : Obj) : Below w.heap.size w ((w.alloc o).alloc o2) := ((Below.refl _ w).alloc (Nat.le_refl _) o).alloc (by simp) o2

set_option maxRecDepth 100000 in
set_option maxHeartbeats 8000000 in
theorem decode_short (s : ByteArray) (w : World) (hs : s.size ≤ 9223372036854775000) (h34 : s.size < 34) :
    Calls Try.prog 15 #[.string s] w fun e w' => e = .returned (.tuple #[.agg zeroRec, .int .i64 0, .int .i64 10]) ∧ Below w.heap.size w w' := by
  have l0 : decide ((s.size : Int) < 34) = true := decide_eq_true (by omega)
  go_enter Try.func15, Try.ntmps15
  go_wp2
  refine bodyPost_ret (results_ctt rfl _ _ (w.heap.size + 1) 23 zeroRec (0, 0) _ rfl ?_ Try.underlying23 rfl (by kernel_rfl)) rfl ⟨rfl, ?_⟩
  · first | exact new2 _ _ _ _ | exact blk_drewN (new2 _ _ _ _) _ | exact blk_put8 (new2 _ _ _ _) _ _ _ _ _ _ _ _ | exact blk_drewN (blk_put8 (new2 _ _ _ _) _ _ _ _ _ _ _ _) _ | exact blk_put8 (blk_drewN (new2 _ _ _ _) _) _ _ _ _ _ _ _ _
  · first | exact below2 _ _ _ | exact below_drewN (below2 _ _ _) _ | exact below_put8 (below2 _ _ _) (by omega) _ _ _ _ _ _ _ _ | exact below_drewN (below_put8 (below2 _ _ _) (by omega) _ _ _ _ _ _ _ _) _ | exact below_put8 (below_drewN (below2 _ _ _) _) (by omega) _ _ _ _ _ _ _ _

set_option maxRecDepth 100000 in
set_option maxHeartbeats 8000000 in
theorem decode_bad0 (s : ByteArray) (w : World) (hs : s.size ≤ 9223372036854775000) (h34 : 34 ≤ s.size)  (q0 : (bt s 0 % 2 != 0) = true) :
    Calls Try.prog 15 #[.string s] w fun e w' => e = .returned (.tuple #[.agg zeroRec, .int .i64 0, .int .i64 10]) ∧ Below w.heap.size w w' := by
  have b0 := bt_range s 0
  have b32 := bt_range s 32
  have hx0 : ∀ h : 0 < s.size, ((s[0]'h).toNat : Int) = bt s 0 := bt_at s 0
  have hx32 : ∀ h : 32 < s.size, ((s[32]'h).toNat : Int) = bt s 32 := bt_at s 32
  have hx1 : ∀ h : 1 < s.size, ((s[1]'h).toNat : Int) = bt s 1 := bt_at s 1
  have hx26 : ∀ h : 26 < s.size, ((s[26]'h).toNat : Int) = bt s 26 := bt_at s 26
  have hx27 : ∀ h : 27 < s.size, ((s[27]'h).toNat : Int) = bt s 27 := bt_at s 27
  have l0 : (34 : Int) ≤ (s.size : Int) := by omega
  go_enter Try.func15, Try.ntmps15
  go_wp2
  go_quiet (fail)
  go_wp2_with (go_at_call 31; refine (padded_any _ _ (by omega) (by omega)).mono ?_; rintro e w' ⟨rfl, rfl⟩)
  refine bodyPost_ret (results_ctt rfl _ _ (w.heap.size + 1) 23 zeroRec (0, 0) _ rfl ?_ Try.underlying23 rfl (by kernel_rfl)) rfl ⟨rfl, ?_⟩
  · exact blk_put8 (blk_drewN (new2 _ _ _ _) _) _ _ _ _ _ _ _ _
  · exact below_put8 (below_drewN (below2 _ _ _) _) (by omega) _ _ _ _ _ _ _ _

set_option maxRecDepth 100000 in
set_option maxHeartbeats 8000000 in
theorem decode_bad1 (s : ByteArray) (w : World) (hs : s.size ≤ 9223372036854775000) (h34 : 34 ≤ s.size) (q0 : (bt s 0 % 2 != 0) = false) (q1 : decide (bt s 0 < 34) = true) :
    Calls Try.prog 15 #[.string s] w fun e w' => e = .returned (.tuple #[.agg zeroRec, .int .i64 0, .int .i64 10]) ∧ Below w.heap.size w w' := by
  have b0 := bt_range s 0
  have b32 := bt_range s 32
  have hx0 : ∀ h : 0 < s.size, ((s[0]'h).toNat : Int) = bt s 0 := bt_at s 0
  have hx32 : ∀ h : 32 < s.size, ((s[32]'h).toNat : Int) = bt s 32 := bt_at s 32
  have hx1 : ∀ h : 1 < s.size, ((s[1]'h).toNat : Int) = bt s 1 := bt_at s 1
  have hx26 : ∀ h : 26 < s.size, ((s[26]'h).toNat : Int) = bt s 26 := bt_at s 26
  have hx27 : ∀ h : 27 < s.size, ((s[27]'h).toNat : Int) = bt s 27 := bt_at s 27
  have l0 : (34 : Int) ≤ (s.size : Int) := by omega
  go_enter Try.func15, Try.ntmps15
  go_wp2
  go_quiet (fail)
  go_wp2_with (go_at_call 31; refine (padded_any _ _ (by omega) (by omega)).mono ?_; rintro e w' ⟨rfl, rfl⟩)
  refine bodyPost_ret (results_ctt rfl _ _ (w.heap.size + 1) 23 zeroRec (0, 0) _ rfl ?_ Try.underlying23 rfl (by kernel_rfl)) rfl ⟨rfl, ?_⟩
  · exact blk_put8 (blk_drewN (new2 _ _ _ _) _) _ _ _ _ _ _ _ _
  · exact below_put8 (below_drewN (below2 _ _ _) _) (by omega) _ _ _ _ _ _ _ _

set_option maxRecDepth 100000 in
set_option maxHeartbeats 8000000 in
theorem decode_bad2 (s : ByteArray) (w : World) (hs : s.size ≤ 9223372036854775000) (h34 : 34 ≤ s.size) (q0 : (bt s 0 % 2 != 0) = false) (q1 : decide (bt s 0 < 34) = false) (q2 : decide ((s.size : Int) < bt s 0) = true) :
    Calls Try.prog 15 #[.string s] w fun e w' => e = .returned (.tuple #[.agg zeroRec, .int .i64 0, .int .i64 10]) ∧ Below w.heap.size w w' := by
  have b0 := bt_range s 0
  have b32 := bt_range s 32
  have hx0 : ∀ h : 0 < s.size, ((s[0]'h).toNat : Int) = bt s 0 := bt_at s 0
  have hx32 : ∀ h : 32 < s.size, ((s[32]'h).toNat : Int) = bt s 32 := bt_at s 32
  have hx1 : ∀ h : 1 < s.size, ((s[1]'h).toNat : Int) = bt s 1 := bt_at s 1
  have hx26 : ∀ h : 26 < s.size, ((s[26]'h).toNat : Int) = bt s 26 := bt_at s 26
  have hx27 : ∀ h : 27 < s.size, ((s[27]'h).toNat : Int) = bt s 27 := bt_at s 27
  have l0 : (34 : Int) ≤ (s.size : Int) := by omega
  go_enter Try.func15, Try.ntmps15
  go_wp2
  go_quiet (fail)
  go_wp2_with (go_at_call 31; refine (padded_any _ _ (by omega) (by omega)).mono ?_; rintro e w' ⟨rfl, rfl⟩)
  refine bodyPost_ret (results_ctt rfl _ _ (w.heap.size + 1) 23 zeroRec (0, 0) _ rfl ?_ Try.underlying23 rfl (by kernel_rfl)) rfl ⟨rfl, ?_⟩
  · exact blk_put8 (blk_drewN (new2 _ _ _ _) _) _ _ _ _ _ _ _ _
  · exact below_put8 (below_drewN (below2 _ _ _) _) (by omega) _ _ _ _ _ _ _ _

set_option maxRecDepth 100000 in
set_option maxHeartbeats 8000000 in
theorem decode_bad3 (s : ByteArray) (w : World) (hs : s.size ≤ 9223372036854775000) (h34 : 34 ≤ s.size) (q0 : (bt s 0 % 2 != 0) = false) (q1 : decide (bt s 0 < 34) = false) (q2 : decide ((s.size : Int) < bt s 0) = false) (q3 : (bt s 32 == 0) = true) :
    Calls Try.prog 15 #[.string s] w fun e w' => e = .returned (.tuple #[.agg zeroRec, .int .i64 0, .int .i64 10]) ∧ Below w.heap.size w w' := by
  have b0 := bt_range s 0
  have b32 := bt_range s 32
  have hx0 : ∀ h : 0 < s.size, ((s[0]'h).toNat : Int) = bt s 0 := bt_at s 0
  have hx32 : ∀ h : 32 < s.size, ((s[32]'h).toNat : Int) = bt s 32 := bt_at s 32
  have hx1 : ∀ h : 1 < s.size, ((s[1]'h).toNat : Int) = bt s 1 := bt_at s 1
  have hx26 : ∀ h : 26 < s.size, ((s[26]'h).toNat : Int) = bt s 26 := bt_at s 26
  have hx27 : ∀ h : 27 < s.size, ((s[27]'h).toNat : Int) = bt s 27 := bt_at s 27
  have l0 : (34 : Int) ≤ (s.size : Int) := by omega
  go_enter Try.func15, Try.ntmps15
  go_wp2
  go_quiet (fail)
  go_wp2_with (go_at_call 31; refine (padded_any _ _ (by omega) (by omega)).mono ?_; rintro e w' ⟨rfl, rfl⟩)
  refine bodyPost_ret (results_ctt rfl _ _ (w.heap.size + 1) 23 zeroRec (0, 0) _ rfl ?_ Try.underlying23 rfl (by kernel_rfl)) rfl ⟨rfl, ?_⟩
  · exact blk_put8 (blk_drewN (new2 _ _ _ _) _) _ _ _ _ _ _ _ _
  · exact below_put8 (below_drewN (below2 _ _ _) _) (by omega) _ _ _ _ _ _ _ _

set_option maxRecDepth 100000 in
set_option maxHeartbeats 8000000 in
theorem decode_bad4 (s : ByteArray) (w : World) (hs : s.size ≤ 9223372036854775000) (h34 : 34 ≤ s.size) (q0 : (bt s 0 % 2 != 0) = false) (q1 : decide (bt s 0 < 34) = false) (q2 : decide ((s.size : Int) < bt s 0) = false) (q3 : (bt s 32 == 0) = false) (q4 : decide (bt s 0 < padE (bt s 32)) = true) :
    Calls Try.prog 15 #[.string s] w fun e w' => e = .returned (.tuple #[.agg zeroRec, .int .i64 0, .int .i64 10]) ∧ Below w.heap.size w w' := by
  have b0 := bt_range s 0
  have b32 := bt_range s 32
  have hx0 : ∀ h : 0 < s.size, ((s[0]'h).toNat : Int) = bt s 0 := bt_at s 0
  have hx32 : ∀ h : 32 < s.size, ((s[32]'h).toNat : Int) = bt s 32 := bt_at s 32
  have hx1 : ∀ h : 1 < s.size, ((s[1]'h).toNat : Int) = bt s 1 := bt_at s 1
  have hx26 : ∀ h : 26 < s.size, ((s[26]'h).toNat : Int) = bt s 26 := bt_at s 26
  have hx27 : ∀ h : 27 < s.size, ((s[27]'h).toNat : Int) = bt s 27 := bt_at s 27
  have l0 : (34 : Int) ≤ (s.size : Int) := by omega
  go_enter Try.func15, Try.ntmps15
  go_wp2
  go_quiet (fail)
  go_wp2_with (go_at_call 31; refine (padded_any _ _ (by omega) (by omega)).mono ?_; rintro e w' ⟨rfl, rfl⟩)
  refine bodyPost_ret (results_ctt rfl _ _ (w.heap.size + 1) 23 zeroRec (0, 0) _ rfl ?_ Try.underlying23 rfl (by kernel_rfl)) rfl ⟨rfl, ?_⟩
  · exact blk_put8 (blk_drewN (new2 _ _ _ _) _) _ _ _ _ _ _ _ _
  · exact below_put8 (below_drewN (below2 _ _ _) _) (by omega) _ _ _ _ _ _ _ _

set_option maxRecDepth 100000 in
set_option maxHeartbeats 8000000 in
theorem decode_uns0 (s : ByteArray) (w : World) (hs : s.size ≤ 9223372036854775000) (h34 : 34 ≤ s.size) (q0 : (bt s 0 % 2 != 0) = false) (q1 : decide (bt s 0 < 34) = false) (q2 : decide ((s.size : Int) < bt s 0) = false) (q3 : (bt s 32 == 0) = false) (q4 : decide (bt s 0 < padE (bt s 32)) = false)  (p0 : (bt s 1 != 0) = true) :
    Calls Try.prog 15 #[.string s] w fun e w' => e = .returned (.tuple #[.agg zeroRec, .int .i64 0, .int .i64 14]) ∧ Below w.heap.size w w' := by
  have b0 := bt_range s 0
  have b32 := bt_range s 32
  have hx0 : ∀ h : 0 < s.size, ((s[0]'h).toNat : Int) = bt s 0 := bt_at s 0
  have hx32 : ∀ h : 32 < s.size, ((s[32]'h).toNat : Int) = bt s 32 := bt_at s 32
  have hx1 : ∀ h : 1 < s.size, ((s[1]'h).toNat : Int) = bt s 1 := bt_at s 1
  have hx26 : ∀ h : 26 < s.size, ((s[26]'h).toNat : Int) = bt s 26 := bt_at s 26
  have hx27 : ∀ h : 27 < s.size, ((s[27]'h).toNat : Int) = bt s 27 := bt_at s 27
  have l0 : (34 : Int) ≤ (s.size : Int) := by omega
  go_enter Try.func15, Try.ntmps15
  go_wp2
  go_quiet (fail)
  go_wp2_with (go_at_call 31; refine (padded_any _ _ (by omega) (by omega)).mono ?_; rintro e w' ⟨rfl, rfl⟩)
  refine bodyPost_ret (results_ctt rfl _ _ (w.heap.size + 1) 23 zeroRec (0, 0) _ rfl ?_ Try.underlying23 rfl (by kernel_rfl)) rfl ⟨rfl, ?_⟩
  · exact blk_put8 (blk_drewN (new2 _ _ _ _) _) _ _ _ _ _ _ _ _
  · exact below_put8 (below_drewN (below2 _ _ _) _) (by omega) _ _ _ _ _ _ _ _

set_option maxRecDepth 100000 in
set_option maxHeartbeats 8000000 in
theorem decode_uns1 (s : ByteArray) (w : World) (hs : s.size ≤ 9223372036854775000) (h34 : 34 ≤ s.size) (q0 : (bt s 0 % 2 != 0) = false) (q1 : decide (bt s 0 < 34) = false) (q2 : decide ((s.size : Int) < bt s 0) = false) (q3 : (bt s 32 == 0) = false) (q4 : decide (bt s 0 < padE (bt s 32)) = false) (p0 : (bt s 1 != 0) = false) (p1 : (bt s 26 != 0) = true) :
    Calls Try.prog 15 #[.string s] w fun e w' => e = .returned (.tuple #[.agg zeroRec, .int .i64 0, .int .i64 14]) ∧ Below w.heap.size w w' := by
  have b0 := bt_range s 0
  have b32 := bt_range s 32
  have hx0 : ∀ h : 0 < s.size, ((s[0]'h).toNat : Int) = bt s 0 := bt_at s 0
  have hx32 : ∀ h : 32 < s.size, ((s[32]'h).toNat : Int) = bt s 32 := bt_at s 32
  have hx1 : ∀ h : 1 < s.size, ((s[1]'h).toNat : Int) = bt s 1 := bt_at s 1
  have hx26 : ∀ h : 26 < s.size, ((s[26]'h).toNat : Int) = bt s 26 := bt_at s 26
  have hx27 : ∀ h : 27 < s.size, ((s[27]'h).toNat : Int) = bt s 27 := bt_at s 27
  have l0 : (34 : Int) ≤ (s.size : Int) := by omega
  go_enter Try.func15, Try.ntmps15
  go_wp2
  go_quiet (fail)
  go_wp2_with (go_at_call 31; refine (padded_any _ _ (by omega) (by omega)).mono ?_; rintro e w' ⟨rfl, rfl⟩)
  refine bodyPost_ret (results_ctt rfl _ _ (w.heap.size + 1) 23 zeroRec (0, 0) _ rfl ?_ Try.underlying23 rfl (by kernel_rfl)) rfl ⟨rfl, ?_⟩
  · exact blk_put8 (blk_drewN (new2 _ _ _ _) _) _ _ _ _ _ _ _ _
  · exact below_put8 (below_drewN (below2 _ _ _) _) (by omega) _ _ _ _ _ _ _ _

set_option maxRecDepth 100000 in
set_option maxHeartbeats 8000000 in
theorem decode_uns2 (s : ByteArray) (w : World) (hs : s.size ≤ 9223372036854775000) (h34 : 34 ≤ s.size) (q0 : (bt s 0 % 2 != 0) = false) (q1 : decide (bt s 0 < 34) = false) (q2 : decide ((s.size : Int) < bt s 0) = false) (q3 : (bt s 32 == 0) = false) (q4 : decide (bt s 0 < padE (bt s 32)) = false) (p0 : (bt s 1 != 0) = false) (p1 : (bt s 26 != 0) = false) (p2 : (bt s 27 != 0) = true) :
    Calls Try.prog 15 #[.string s] w fun e w' => e = .returned (.tuple #[.agg zeroRec, .int .i64 0, .int .i64 14]) ∧ Below w.heap.size w w' := by
  have b0 := bt_range s 0
  have b32 := bt_range s 32
  have hx0 : ∀ h : 0 < s.size, ((s[0]'h).toNat : Int) = bt s 0 := bt_at s 0
  have hx32 : ∀ h : 32 < s.size, ((s[32]'h).toNat : Int) = bt s 32 := bt_at s 32
  have hx1 : ∀ h : 1 < s.size, ((s[1]'h).toNat : Int) = bt s 1 := bt_at s 1
  have hx26 : ∀ h : 26 < s.size, ((s[26]'h).toNat : Int) = bt s 26 := bt_at s 26
  have hx27 : ∀ h : 27 < s.size, ((s[27]'h).toNat : Int) = bt s 27 := bt_at s 27
  have l0 : (34 : Int) ≤ (s.size : Int) := by omega
  go_enter Try.func15, Try.ntmps15
  go_wp2
  go_quiet (fail)
  go_wp2_with (go_at_call 31; refine (padded_any _ _ (by omega) (by omega)).mono ?_; rintro e w' ⟨rfl, rfl⟩)
  refine bodyPost_ret (results_ctt rfl _ _ (w.heap.size + 1) 23 zeroRec (0, 0) _ rfl ?_ Try.underlying23 rfl (by kernel_rfl)) rfl ⟨rfl, ?_⟩
  · exact blk_put8 (blk_drewN (new2 _ _ _ _) _) _ _ _ _ _ _ _ _
  · exact below_put8 (below_drewN (below2 _ _ _) _) (by omega) _ _ _ _ _ _ _ _

set_option maxRecDepth 100000 in
set_option maxHeartbeats 8000000 in
theorem decode_date (k : Nat) (s : ByteArray) (t z e : Int) (w : World) (hs : s.size ≤ 9223372036854775000) (h34 : 34 ≤ s.size) (q0 : (bt s 0 % 2 != 0) = false) (q1 : decide (bt s 0 < 34) = false) (q2 : decide ((s.size : Int) < bt s 0) = false) (q3 : (bt s 32 == 0) = false) (q4 : decide (bt s 0 < padE (bt s 32)) = false) (p0 : (bt s 1 != 0) = false) (p1 : (bt s 26 != 0) = false) (p2 : (bt s 27 != 0) = false) (hr : datetime_ReadRecord.f k (s.extract 18 25) = some (t, z, e)) (he : (e != 0) = true) :
    Calls Try.prog 15 #[.string s] w fun ev w' => ev = .returned (.tuple #[.agg zeroRec, .int .i64 0, .int .i64 e]) ∧ Below w.heap.size w w' := by
  have HR := Lib.hid hr
  clear hr
  have b0 := bt_range s 0
  have b32 := bt_range s 32
  have hx0 : ∀ h : 0 < s.size, ((s[0]'h).toNat : Int) = bt s 0 := bt_at s 0
  have hx32 : ∀ h : 32 < s.size, ((s[32]'h).toNat : Int) = bt s 32 := bt_at s 32
  have hx1 : ∀ h : 1 < s.size, ((s[1]'h).toNat : Int) = bt s 1 := bt_at s 1
  have hx26 : ∀ h : 26 < s.size, ((s[26]'h).toNat : Int) = bt s 26 := bt_at s 26
  have hx27 : ∀ h : 27 < s.size, ((s[27]'h).toNat : Int) = bt s 27 := bt_at s 27
  have l0 : (34 : Int) ≤ (s.size : Int) := by omega
  go_enter Try.func15, Try.ntmps15
  go_wp2
  go_quiet (fail)
  go_wp2_with (go_at_call 31; refine (padded_any _ _ (by omega) (by omega)).mono ?_; rintro e w' ⟨rfl, rfl⟩)
  refine (datetime_ReadRecord.calls k _ _ _ _ _ HR.out).mono ?_
  rintro ev w1 ⟨rfl, hb⟩
  have hR : w1.heap[w.heap.size + 1]? = some (.cells zeroRec 23 (0, 0)) := by
    rw [hb.block _ (by simp [World.drewN])]
    exact new2 w (.cells #[.string s] 9) zeroRec 23
  have hbe : Below w.heap.size w w1 := Below.trans (below_drewN (below2 w (.cells #[.string s] 9) (.cells zeroRec 23)) _) (hb.mono (by simp [World.drewN]; omega))
  have d0 : w1.cell? ⟨w.heap.size + 1, 0, none⟩ = some (.string ⟨#[]⟩) := by simp [World.cell?, hR]
  have d1 : w1.cell? ⟨w.heap.size + 1, 1, none⟩ = some (.int .i64 0) := by simp [World.cell?, hR]
  have d2 : w1.cell? ⟨w.heap.size + 1, 2, none⟩ = some (.int .i64 0) := by simp [World.cell?, hR]
  have d3 : w1.cell? ⟨w.heap.size + 1, 3, none⟩ = some (.int .i64 0) := by simp [World.cell?, hR]
  have d4 : w1.cell? ⟨w.heap.size + 1, 4, none⟩ = some (.int .i64 0) := by simp [World.cell?, hR]
  have d5 : w1.cell? ⟨w.heap.size + 1, 5, none⟩ = some (.int .i64 0) := by simp [World.cell?, hR]
  have d6 : w1.cell? ⟨w.heap.size + 1, 6, none⟩ = some (.int .i64 0) := by simp [World.cell?, hR]
  have d7 : w1.cell? ⟨w.heap.size + 1, 7, none⟩ = some (.string ⟨#[]⟩) := by simp [World.cell?, hR]
  have f0 : ∀ j, w1.frozen? ⟨w.heap.size + 1, j, none⟩ = false := by intro j; simp [World.frozen?, hR]
  have HB := Lib.hid hbe
  have HR8 := Lib.hid hR
  clear hb hR hbe
  go_wp2
  refine bodyPost_ret (results_ctt rfl _ _ (w.heap.size + 1) 23 zeroRec (0, 0) _ rfl ?_ Try.underlying23 rfl (by kernel_rfl)) rfl ⟨rfl, ?_⟩
  · exact blk_put8 HR8.out _ _ _ _ _ _ _ _
  · exact below_put8 HB.out (by omega) _ _ _ _ _ _ _ _

end Go.Proofs.Ytagnefbgclpccaa.H
