import Derived.Test.YtagnefbgclpccaaH2e
namespace Go.Proofs.Ytagnefbgclpccaa.H
open Go.RowKit Go.Proofs.YtagnefbgclpccaaW.PrintWords Go.Proofs.YtagnefbgclpccaaW.PrintLast Go.Proofs.Ytagnefbgclpccaa.A
set_option linter.unusedVariables false

set_option maxRecDepth 100000 in
set_option maxHeartbeats 16000000 in
theorem decode_ok (k : Nat) (s : ByteArray) (t z : Int) (w : World) (hs : s.size ≤ 9223372036854775000) (h34 : 34 ≤ s.size)
    (q0 : (bt s 0 % 2 != 0) = false) (q1 : decide (bt s 0 < 34) = false) (q2 : decide ((s.size : Int) < bt s 0) = false) (q3 : (bt s 32 == 0) = false) (q4 : decide (bt s 0 < padE (bt s 32)) = false)
    (p0 : (bt s 1 != 0) = false) (p1 : (bt s 26 != 0) = false) (p2 : (bt s 27 != 0) = false)
    (hr : datetime_ReadRecord.f k (s.extract 18 25) = some (t, z, 0)) :
    Calls Try.prog 15 #[.string s] w fun e w' => e = .returned (.tuple #[.agg (decAgg s t z), .int .i64 (bt s 0), .int .i64 0]) ∧ Below w.heap.size w w' := by
  have HR := Lib.hid hr
  clear hr
  have b0 := bt_range s 0
  have b32 := bt_range s 32
  have hx0 : ∀ h : 0 < s.size, ((s[0]'h).toNat : Int) = bt s 0 := bt_at s 0
  have hx32 : ∀ h : 32 < s.size, ((s[32]'h).toNat : Int) = bt s 32 := bt_at s 32
  have hx1 : ∀ h : 1 < s.size, ((s[1]'h).toNat : Int) = bt s 1 := bt_at s 1
  have hx26 : ∀ h : 26 < s.size, ((s[26]'h).toNat : Int) = bt s 26 := bt_at s 26
  have hx27 : ∀ h : 27 < s.size, ((s[27]'h).toNat : Int) = bt s 27 := bt_at s 27
  have l0 : (34 : Int) ≤ (s.size : Int) := by omega
  have g2 : bt s 0 ≤ (s.size : Int) := by have := of_decide_eq_false q2; omega
  have g4 : padE (bt s 32) ≤ bt s 0 := by have := of_decide_eq_false q4; omega
  have g5 : 33 + bt s 32 ≤ (s.size : Int) := by unfold padE at g4; omega
  have g6 : (0 : Int) ≤ padE (bt s 32) := by unfold padE; omega
  have g7 : (33 : Int) ≤ 33 + bt s 32 := by omega
  have g8 : IntKind.i64.wrap (33 + bt s 32) = 33 + bt s 32 := by rw [IntKind.wrap_i64]; omega
  go_enter Try.func15, Try.ntmps15
  go_wp2
  go_quiet (fail)
  go_wp2_with (go_at_call 31; refine (padded_any _ _ (by omega) (by omega)).mono ?_; rintro e w' ⟨rfl, rfl⟩)
  refine (datetime_ReadRecord.calls k _ _ _ _ _ HR.out).mono ?_
  rintro e w1 ⟨rfl, hb⟩
  have cs : w1.cell? ⟨w.heap.size, 0, none⟩ = some (.string s) := by rw [hb.cell (by simp [World.drewN]; omega)]; go_simp
  have d0 : w1.cell? ⟨w.heap.size + 1, 0, none⟩ = some (.string ⟨#[]⟩) := by rw [hb.cell (by simp [World.drewN])]; go_simp
  have d1 : w1.cell? ⟨w.heap.size + 1, 1, none⟩ = some (.int .i64 0) := by rw [hb.cell (by simp [World.drewN])]; go_simp
  have d2 : w1.cell? ⟨w.heap.size + 1, 2, none⟩ = some (.int .i64 0) := by rw [hb.cell (by simp [World.drewN])]; go_simp
  have d3 : w1.cell? ⟨w.heap.size + 1, 3, none⟩ = some (.int .i64 0) := by rw [hb.cell (by simp [World.drewN])]; go_simp
  have d4 : w1.cell? ⟨w.heap.size + 1, 4, none⟩ = some (.int .i64 0) := by rw [hb.cell (by simp [World.drewN])]; go_simp
  have d5 : w1.cell? ⟨w.heap.size + 1, 5, none⟩ = some (.int .i64 0) := by rw [hb.cell (by simp [World.drewN])]; go_simp
  have d6 : w1.cell? ⟨w.heap.size + 1, 6, none⟩ = some (.int .i64 0) := by rw [hb.cell (by simp [World.drewN])]; go_simp
  have d7 : w1.cell? ⟨w.heap.size + 1, 7, none⟩ = some (.string ⟨#[]⟩) := by rw [hb.cell (by simp [World.drewN])]; go_simp
  have f0 : ∀ j, w1.frozen? ⟨w.heap.size + 1, j, none⟩ = false := by intro j; rw [hb.frozen (by simp [World.drewN])]; go_simp
  have hR : w1.heap[w.heap.size + 1]? = some (.cells #[.string ⟨#[]⟩, .int .i64 0, .int .i64 0, .int .i64 0, .int .i64 0, .int .i64 0, .int .i64 0, .string ⟨#[]⟩] 23 (0, 0)) := by
    rw [hb.block _ (by simp [World.drewN])]
    show ((w.heap.push _).push _)[w.heap.size + 1]? = _
    rw [Array.getElem?_push, if_pos (by simp)]
  have hbe : Below w.heap.size w w1 := by
    refine Below.trans (below_drewN (((Below.refl _ w).alloc (Nat.le_refl _) (.cells #[.string s] 9)).alloc (by simp) (.cells #[.string ⟨#[]⟩, .int .i64 0, .int .i64 0, .int .i64 0, .int .i64 0, .int .i64 0, .int .i64 0, .string ⟨#[]⟩] 23)) _) (hb.mono (by simp [World.drewN]; omega))
  have HB := Lib.hid hbe
  have HR8 := Lib.hid hR
  have hx25 : ∀ h : 25 < s.size, ((s[25]'h).toNat : Int) = bt s 25 := bt_at s 25
  have b25 := bt_range s 25
  clear hb hR hbe
  go_wp2
  go_region_held3 (fun w' => w'.cell? ⟨w.heap.size, 0, none⟩ = some (.string s)) (first | go_keep | assumption)
    (first | (go_at_call 33; refine (number_any s _ _ _ _ (by assumption) hs (by omega) (by omega) (by omega)).mono ?_; rintro e w' ⟨rfl, rfl⟩) | (go_at_call 31; refine (padded_any _ _ (by omega) (by omega)).mono ?_; rintro e w' ⟨rfl, rfl⟩))
  all_goals (have g25 : IntKind.i64.wrap (bt s 25) = bt s 25 := by rw [IntKind.wrap_i64]; omega)
  all_goals (rename_i K hK h25 hH; refine hK _ _ (wp_ret ?_))
  all_goals rw [g25]
  all_goals refine bodyPost_ret (results_ctt rfl _ _ (w.heap.size + 1) 23 (decAgg s t z) (0, 0) _ rfl ?_ Try.underlying23 rfl (by kernel_rfl)) rfl ⟨rfl, ?_⟩
  all_goals first | exact blk_drew (blk_put8 HR8.out _ _ _ _ _ _ _ _) | exact (below_put8 HB.out (by omega) _ _ _ _ _ _ _ _).drew

end Go.Proofs.Ytagnefbgclpccaa.H
