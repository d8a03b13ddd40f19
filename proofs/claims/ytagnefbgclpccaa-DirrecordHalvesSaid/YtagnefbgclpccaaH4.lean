import Derived.Test.YtagnefbgclpccaaH3
import Derived.Test.YtagnefbgclpccaaAx1
import Derived.Test.YtagnefbgclpccaaAx8
import Derived.Test.YtagnefbgclpccaaH2h
import Derived.Test.YtagnefbgclpccaaH2d
import Derived.Test.YtagnefbgclpccaaAx10
import Derived.Test.YtagnefbgclpccaaH4a
import Derived.Deep.Cut
namespace Go.Proofs.Ytagnefbgclpccaa.H
open Go.RowKit Go.Proofs.YtagnefbgclpccaaW.PrintWords Go.Proofs.YtagnefbgclpccaaW.PrintLast Go.Proofs.Ytagnefbgclpccaa.A
set_option linter.unusedVariables false
attribute [local go_sem high] eqA23

set_option maxRecDepth 100000 in
set_option maxHeartbeats 16000000 in
theorem halves_err (k : Nat) (a0 : ByteArray) (a1 a2 a3 a4 a5 a6 : Int) (a7 : ByteArray) (x1 x2 x3 : Int) (w : World) (S : ByteArray) (e0 : Int) (he : dirrecord_Encode.f k a0 a1 a2 a3 a4 a5 a6 a7 = some (S, e0)) (hne : (e0 != 0) = true) :
    Calls Try.prog 7 #[.agg (recCells a0 a1 a2 a3 a4 a5 a6 a7), .int .u8 x1, .int .u8 x2, .int .u8 x3] w fun e w' => e = .returned (.bool true) ∧ Below w.heap.size w w' := by
  have HE := Lib.hid he
  clear he
  have hu23 := Try.underlying23
  go_enter Try.func7, Try.ntmps7
  go_upto_region 1 with fail
  have BK := Lib.hid (blk_new w (recCells a0 a1 a2 a3 a4 a5 a6 a7) 23)
  have HB := Lib.hid ((Below.refl w.heap.size w).alloc (Nat.le_refl _) (.cells (recCells a0 a1 a2 a3 a4 a5 a6 a7) 23))
  generalize w.alloc (.cells (recCells a0 a1 a2 a3 a4 a5 a6 a7) 23) = w0 at BK HB ⊢
  go_upto_region 3 with (go_at_call 10; refine (masterdisclaw20_awake.calls true _ rfl).mono ?_; rintro e w1 ⟨rfl, hb1⟩)
  have BK1 := Lib.hid (blk_below BK.out hb1)
  have HB1 := Lib.hid (below_step HB.out hb1)
  clear hb1 BK HB
  have q0 : w1.cell? ⟨w.heap.size, 0, none⟩ = some (.string a0) := (blk_cell BK1.out 0).trans rfl
  have q1 : w1.cell? ⟨w.heap.size, 1, none⟩ = some (.int .i64 a1) := (blk_cell BK1.out 1).trans rfl
  have q2 : w1.cell? ⟨w.heap.size, 2, none⟩ = some (.int .i64 a2) := (blk_cell BK1.out 2).trans rfl
  have q3 : w1.cell? ⟨w.heap.size, 3, none⟩ = some (.int .i64 a3) := (blk_cell BK1.out 3).trans rfl
  have q4 : w1.cell? ⟨w.heap.size, 4, none⟩ = some (.int .i64 a4) := (blk_cell BK1.out 4).trans rfl
  have q5 : w1.cell? ⟨w.heap.size, 5, none⟩ = some (.int .i64 a5) := (blk_cell BK1.out 5).trans rfl
  have q6 : w1.cell? ⟨w.heap.size, 6, none⟩ = some (.int .i64 a6) := (blk_cell BK1.out 6).trans rfl
  have q7 : w1.cell? ⟨w.heap.size, 7, none⟩ = some (.string a7) := (blk_cell BK1.out 7).trans rfl
  go_wp2_with (go_at_call 11; refine (dirrecord_Encode.calls k _ _ _ _ _ _ _ _ _ _ _ HE.out).mono ?_; rintro e w2 ⟨rfl, hb2⟩)
  go_ret
  exact ⟨rfl, below_step HB1.out hb2⟩

set_option maxRecDepth 100000 in
set_option maxHeartbeats 16000000 in
theorem halves_zero (k : Nat) (a0 : ByteArray) (a1 a2 a3 a4 a5 a6 : Int) (a7 : ByteArray) (x1 x2 x3 : Int) (w : World) (S : ByteArray) (he : dirrecord_Encode.f k a0 a1 a2 a3 a4 a5 a6 a7 = some (S, 0)) (hl : decide ((S.size : Int) < 34) = false) (hx : (x3 == 0) = true) :
    Calls Try.prog 7 #[.agg (recCells a0 a1 a2 a3 a4 a5 a6 a7), .int .u8 x1, .int .u8 x2, .int .u8 x3] w fun e w' => e = .returned (.bool true) ∧ Below w.heap.size w w' := by
  have HE := Lib.hid he
  clear he
  have hu23 := Try.underlying23
  go_enter Try.func7, Try.ntmps7
  go_upto_region 1 with fail
  have BK := Lib.hid (blk_new w (recCells a0 a1 a2 a3 a4 a5 a6 a7) 23)
  have HB := Lib.hid ((Below.refl w.heap.size w).alloc (Nat.le_refl _) (.cells (recCells a0 a1 a2 a3 a4 a5 a6 a7) 23))
  generalize w.alloc (.cells (recCells a0 a1 a2 a3 a4 a5 a6 a7) 23) = w0 at BK HB ⊢
  go_upto_region 3 with (go_at_call 10; refine (masterdisclaw20_awake.calls true _ rfl).mono ?_; rintro e w1 ⟨rfl, hb1⟩)
  have BK1 := Lib.hid (blk_below BK.out hb1)
  have HB1 := Lib.hid (below_step HB.out hb1)
  clear hb1 BK HB
  have q0 : w1.cell? ⟨w.heap.size, 0, none⟩ = some (.string a0) := (blk_cell BK1.out 0).trans rfl
  have q1 : w1.cell? ⟨w.heap.size, 1, none⟩ = some (.int .i64 a1) := (blk_cell BK1.out 1).trans rfl
  have q2 : w1.cell? ⟨w.heap.size, 2, none⟩ = some (.int .i64 a2) := (blk_cell BK1.out 2).trans rfl
  have q3 : w1.cell? ⟨w.heap.size, 3, none⟩ = some (.int .i64 a3) := (blk_cell BK1.out 3).trans rfl
  have q4 : w1.cell? ⟨w.heap.size, 4, none⟩ = some (.int .i64 a4) := (blk_cell BK1.out 4).trans rfl
  have q5 : w1.cell? ⟨w.heap.size, 5, none⟩ = some (.int .i64 a5) := (blk_cell BK1.out 5).trans rfl
  have q6 : w1.cell? ⟨w.heap.size, 6, none⟩ = some (.int .i64 a6) := (blk_cell BK1.out 6).trans rfl
  have q7 : w1.cell? ⟨w.heap.size, 7, none⟩ = some (.string a7) := (blk_cell BK1.out 7).trans rfl
  go_wp2_with (go_at_call 11; refine (dirrecord_Encode.calls k _ _ _ _ _ _ _ _ _ _ _ HE.out).mono ?_; rintro e w2 ⟨rfl, hb2⟩)
  go_ret
  exact ⟨rfl, below_step HB1.out hb2⟩

set_option maxRecDepth 100000 in
set_option maxHeartbeats 16000000 in
theorem halves_0 (k : Nat) (a0 : ByteArray) (a1 a2 a3 a4 a5 a6 : Int) (a7 : ByteArray) (x1 x2 x3 : Int) (w : World) (S : ByteArray)
    (he : dirrecord_Encode.f k a0 a1 a2 a3 a4 a5 a6 a7 = some (S, 0)) (hl : decide ((S.size : Int) < 34) = false) (hx : (x3 == 0) = false) (h1 : Int.tmod x1 3 = 0) (kn : Nat) (h2 : Int.tmod x2 4 = (kn : Int)) (h2b : kn < 4) (y2 : 0 ≤ x2) (y2b : x2 ≤ 255)
    (B1 : ByteArray) (hB1 : strOfNums ((bytesOf S).set (6 + kn) (bits .xor .u8 ((bytesOf S)[6 + kn]?.getD 0) x3)) = B1) (B2 : ByteArray) (hB2 : strOfNums ((bytesOf S).set (2 + kn) (bits .xor .u8 ((bytesOf S)[2 + kn]?.getD 0) x3)) = B2) (b : Int) (hbv : bits .xor .i64 a1 (wrap64 (wrap64 x3 * 2 ^ (8 * kn))) = b)
    (hd2 : dirrecord_Decode.f k B2 = some (a0, b, a2, a3, a4, a5, a6, a7, (S.size : Int), 0)) (hf2 : dirrecord_Differ.f k B2 = some [2]) (hf1 : dirrecord_Differ.f k B1 = some [2]) (hq : slices_Equal_int_int.f k [2] [2] = some true) (hd1 : dirrecord_Decode.f k B1 = some (a0, a1, a2, a3, a4, a5, a6, a7, (S.size : Int), 0)) :
    Calls Try.prog 7 #[.agg (recCells a0 a1 a2 a3 a4 a5 a6 a7), .int .u8 x1, .int .u8 x2, .int .u8 x3] w fun e w' => e = .returned (.bool true) ∧ Below w.heap.size w w' := by
  have HE := Lib.hid he
  have HD1 := Lib.hid hd1
  have HF1 := Lib.hid hf1
  have HQ := Lib.hid hq
  have HD2 := Lib.hid hd2
  have HF2 := Lib.hid hf2
  clear he hd1 hf1 hq hd2 hf2
  have hsz : 34 ≤ S.size := by have := of_decide_eq_false hl; omega
  have hu23 := Try.underlying23
  go_enter Try.func7, Try.ntmps7
  go_upto_region 1 with fail
  have BK := Lib.hid (blk_new w (recCells a0 a1 a2 a3 a4 a5 a6 a7) 23)
  have HB := Lib.hid ((Below.refl w.heap.size w).alloc (Nat.le_refl _) (.cells (recCells a0 a1 a2 a3 a4 a5 a6 a7) 23))
  generalize w.alloc (.cells (recCells a0 a1 a2 a3 a4 a5 a6 a7) 23) = w0 at BK HB ⊢
  go_upto_region 3 with (go_at_call 10; refine (masterdisclaw20_awake.calls true _ rfl).mono ?_; rintro e w1 ⟨rfl, hb1⟩)
  have BK1 := Lib.hid (blk_below BK.out hb1)
  have HB1 := Lib.hid (below_step HB.out hb1)
  clear hb1 BK HB
  have q0 : w1.cell? ⟨w.heap.size, 0, none⟩ = some (.string a0) := (blk_cell BK1.out 0).trans rfl
  have q1 : w1.cell? ⟨w.heap.size, 1, none⟩ = some (.int .i64 a1) := (blk_cell BK1.out 1).trans rfl
  have q2 : w1.cell? ⟨w.heap.size, 2, none⟩ = some (.int .i64 a2) := (blk_cell BK1.out 2).trans rfl
  have q3 : w1.cell? ⟨w.heap.size, 3, none⟩ = some (.int .i64 a3) := (blk_cell BK1.out 3).trans rfl
  have q4 : w1.cell? ⟨w.heap.size, 4, none⟩ = some (.int .i64 a4) := (blk_cell BK1.out 4).trans rfl
  have q5 : w1.cell? ⟨w.heap.size, 5, none⟩ = some (.int .i64 a5) := (blk_cell BK1.out 5).trans rfl
  have q6 : w1.cell? ⟨w.heap.size, 6, none⟩ = some (.int .i64 a6) := (blk_cell BK1.out 6).trans rfl
  have q7 : w1.cell? ⟨w.heap.size, 7, none⟩ = some (.string a7) := (blk_cell BK1.out 7).trans rfl
  go_upto_region 6 with (go_at_call 11; refine (dirrecord_Encode.calls k _ _ _ _ _ _ _ _ _ _ _ HE.out).mono ?_; rintro e w2 ⟨rfl, hb2⟩)
  have BK2 := Lib.hid (blk_below BK1.out hb2)
  have HB2 := Lib.hid (below_step HB1.out hb2)
  clear hb2 BK1 HB1 q0 q1 q2 q3 q4 q5 q6 q7
  go_cut [11, 12] from 20 (fun s11 s12 wx => s11 = .int .i64 2 ∧ s12 = .int .i64 4 ∧ wx.heap[w.heap.size]? = some (.cells (recCells a0 a1 a2 a3 a4 a5 a6 a7) 23 (0, 0)) ∧ Below w.heap.size w wx)
  case first =>
    go_region
    all_goals (go_wp2_with fail; go_meet)
    all_goals (case rel => exact ⟨rfl, rfl, blk_drew (blk_alloc (blk_alloc BK2.out _) _), below_drew1 (below_alloc (below_alloc HB2.out _) _)⟩)
  case rest =>
  obtain ⟨rfl, rfl, BK3, HB3⟩ := hcut
  clear BK2 HB2
  have hcv := Lib.run_convert_string_bytes (P := Try.prog) wc 9 37 5 S Try.underlying9 Try.underlying37 Try.underlying5
  go_upto_region 9 with fail
  have WB := Row.new wc S
  have HB4 : Below w.heap.size w (Lib.bytesWorld wc 5 S) := below_bytes S HB3
  have BK4 : (Lib.bytesWorld wc 5 S).heap[w.heap.size]? = some (.cells (recCells a0 a1 a2 a3 a4 a5 a6 a7) 23 (0, 0)) := (Lib.bytesWorld_at_old wc 5 S _ (blk_lt BK3)).trans BK3
  have hBR : w.heap.size < wc.heap.size := blk_lt BK3
  generalize Lib.bytesWorld wc 5 S = w4 at WB HB4 BK4 ⊢
  generalize grownCap wc S.size 0 5 = cap
  generalize wc.heap.size = B at WB hBR ⊢
  clear hcv BK3 HB3
  have hyl := bytesOf_len S
  have gi : IntKind.i64.wrap (6 + (kn : Int)) = ((6 + kn : Nat) : Int) := by rw [IntKind.wrap_i64]; push_cast; omega
  have gc := WB.cell (6 + kn) (by omega)
  have gf := WB.frozen (6 + kn) (by omega)
  have gb : ((6 + kn : Nat) : Int) < (S.size : Int) := by omega
  go_upto_region 10 with fail
  have WB5 := Lib.hid (WB.set (6 + kn) (by omega) (bits .xor .u8 ((bytesOf S)[6 + kn]?.getD 0) x3))
  have HB5 := Lib.hid (below_set (g := B) (j := 6 + kn) (v := .int .u8 (bits .xor .u8 ((bytesOf S)[6 + kn]?.getD 0) x3)) HB4 (by omega))
  have BK5 := Lib.hid (blk_far (p := ⟨B, 6 + kn, none⟩) BK4 (show w.heap.size ≠ B by omega) (.int .u8 (bits .xor .u8 ((bytesOf S)[6 + kn]?.getD 0) x3)))
  generalize w4.setCell ⟨B, 6 + kn, none⟩ (.int .u8 (bits .xor .u8 ((bytesOf S)[6 + kn]?.getD 0) x3)) = w5 at WB5 HB5 BK5 ⊢
  clear WB HB4 BK4 gc gf
  have hcv := (WB5.out).conv S.size cap (by rw [List.length_set, hyl])
  rw [hB1] at hcv
  go_upto_region 11 with (go_at_call 15; refine (dirrecord_Decode.calls k _ _ _ _ _ _ _ _ _ _ _ _ HD1.out).mono ?_; rintro e w6 ⟨rfl, hb6⟩)
  have WB6 := (WB5.out).below hb6
  have HB6 := below_step HB5.out hb6
  have BK6 := blk_below BK5.out hb6
  have hxR : w.heap.size < w6.heap.size := blk_lt BK6
  have hxB : B < w6.heap.size := WB6.lt
  have BX := Lib.hid (blk_new w6 (recCells a0 a1 a2 a3 a4 a5 a6 a7) 23)
  have WB7 := Lib.hid (WB6.alloc (.cells (recCells a0 a1 a2 a3 a4 a5 a6 a7) 23))
  have HB7 := Lib.hid (below_alloc HB6 (.cells (recCells a0 a1 a2 a3 a4 a5 a6 a7) 23))
  have BK7 := Lib.hid (blk_alloc BK6 (.cells (recCells a0 a1 a2 a3 a4 a5 a6 a7) 23))
  clear WB5 HB5 BK5 WB6 HB6 BK6 hb6 hcv
  generalize w6.alloc (.cells (recCells a0 a1 a2 a3 a4 a5 a6 a7) 23) = w7 at BX WB7 HB7 BK7 ⊢
  generalize w6.heap.size = X at BX hxR hxB ⊢
  have hcv := (WB7.out).conv S.size cap (by rw [List.length_set, hyl])
  rw [hB1] at hcv
  have q0 : w7.cell? ⟨w.heap.size, 0, none⟩ = some (.string a0) := (blk_cell BK7.out 0).trans rfl
  have q1 : w7.cell? ⟨w.heap.size, 1, none⟩ = some (.int .i64 a1) := (blk_cell BK7.out 1).trans rfl
  have q2 : w7.cell? ⟨w.heap.size, 2, none⟩ = some (.int .i64 a2) := (blk_cell BK7.out 2).trans rfl
  have q3 : w7.cell? ⟨w.heap.size, 3, none⟩ = some (.int .i64 a3) := (blk_cell BK7.out 3).trans rfl
  have q4 : w7.cell? ⟨w.heap.size, 4, none⟩ = some (.int .i64 a4) := (blk_cell BK7.out 4).trans rfl
  have q5 : w7.cell? ⟨w.heap.size, 5, none⟩ = some (.int .i64 a5) := (blk_cell BK7.out 5).trans rfl
  have q6 : w7.cell? ⟨w.heap.size, 6, none⟩ = some (.int .i64 a6) := (blk_cell BK7.out 6).trans rfl
  have q7 : w7.cell? ⟨w.heap.size, 7, none⟩ = some (.string a7) := (blk_cell BK7.out 7).trans rfl
  have p0 : w7.cell? ⟨X, 0, none⟩ = some (.string a0) := (blk_cell BX.out 0).trans rfl
  have p1 : w7.cell? ⟨X, 1, none⟩ = some (.int .i64 a1) := (blk_cell BX.out 1).trans rfl
  have p2 : w7.cell? ⟨X, 2, none⟩ = some (.int .i64 a2) := (blk_cell BX.out 2).trans rfl
  have p3 : w7.cell? ⟨X, 3, none⟩ = some (.int .i64 a3) := (blk_cell BX.out 3).trans rfl
  have p4 : w7.cell? ⟨X, 4, none⟩ = some (.int .i64 a4) := (blk_cell BX.out 4).trans rfl
  have p5 : w7.cell? ⟨X, 5, none⟩ = some (.int .i64 a5) := (blk_cell BX.out 5).trans rfl
  have p6 : w7.cell? ⟨X, 6, none⟩ = some (.int .i64 a6) := (blk_cell BX.out 6).trans rfl
  have p7 : w7.cell? ⟨X, 7, none⟩ = some (.string a7) := (blk_cell BX.out 7).trans rfl
  go_upto_region 13 with (first
    | (go_at_call 18; refine (dirrecord_Differ.calls k _ _ _ HF1.out).mono ?_; rintro e w8 ⟨v8, rfl, hR8, hb8⟩; obtain ⟨A8, c8, rfl⟩ := Kd.R_slice hR8)
    | (go_at_call 17; refine (slices_Equal_int_int.calls k A8 c8 [2] _ _ [2] true _ (Kd.C_alloc (Kd.R_reads' hR8).2.2 _) (Kd.R_reads' hR8).2.1 (C_one (by go_simp)) (by decide) HQ.out).mono ?_; rintro e w9 ⟨rfl, nd, rfl⟩))
  have HB10 := Lib.hid (pw_below_drewN (below_alloc (below_step HB7.out hb8) (.cells #[.int .i64 2] 3)) nd)
  have BX10 := Lib.hid (blk_drewN (blk_alloc (blk_below BX.out hb8) (.cells #[.int .i64 2] 3)) nd)
  have BK10 := Lib.hid (blk_drewN (blk_alloc (blk_below BK7.out hb8) (.cells #[.int .i64 2] 3)) nd)
  clear WB7 HB7 BK7 BX hb8 hR8 hcv q0 q1 q2 q3 q4 q5 q6 q7 p0 p1 p2 p3 p4 p5 p6 p7
  generalize (w8.alloc (.cells #[.int .i64 2] 3)).drewN nd = w10 at HB10 BX10 BK10 ⊢
  have hcv := Lib.run_convert_string_bytes (P := Try.prog) w10 9 37 5 S Try.underlying9 Try.underlying37 Try.underlying5
  go_upto_region 14 with fail
  have WC := Row.new w10 S
  have HB11 : Below w.heap.size w (Lib.bytesWorld w10 5 S) := below_bytes S HB10.out
  have BK11 : (Lib.bytesWorld w10 5 S).heap[w.heap.size]? = some (.cells (recCells a0 a1 a2 a3 a4 a5 a6 a7) 23 (0, 0)) := (Lib.bytesWorld_at_old w10 5 S _ (blk_lt BK10.out)).trans BK10.out
  have BX11 : (Lib.bytesWorld w10 5 S).heap[X]? = some (.cells (recCells a0 a1 a2 a3 a4 a5 a6 a7) 23 (0, 0)) := (Lib.bytesWorld_at_old w10 5 S _ (blk_lt BX10.out)).trans BX10.out
  have hCR : w.heap.size < w10.heap.size := blk_lt BK10.out
  have hCX : X < w10.heap.size := blk_lt BX10.out
  generalize Lib.bytesWorld w10 5 S = w11 at WC HB11 BK11 BX11 ⊢
  generalize grownCap w10 S.size 0 5 = cap2
  generalize w10.heap.size = C at WC hCR hCX ⊢
  clear hcv HB10 BX10 BK10 gi gb
  have gi : IntKind.i64.wrap (2 + (kn : Int)) = ((2 + kn : Nat) : Int) := by rw [IntKind.wrap_i64]; push_cast; omega
  have gc := WC.cell (2 + kn) (by omega)
  have gf := WC.frozen (2 + kn) (by omega)
  have gb : ((2 + kn : Nat) : Int) < (S.size : Int) := by omega
  go_upto_region 15 with fail
  have WC12 := Lib.hid (WC.set (2 + kn) (by omega) (bits .xor .u8 ((bytesOf S)[2 + kn]?.getD 0) x3))
  have HB12 := Lib.hid (below_set (g := C) (j := 2 + kn) (v := .int .u8 (bits .xor .u8 ((bytesOf S)[2 + kn]?.getD 0) x3)) HB11 (by omega))
  have BK12 := Lib.hid (blk_far (p := ⟨C, 2 + kn, none⟩) BK11 (show w.heap.size ≠ C by omega) (.int .u8 (bits .xor .u8 ((bytesOf S)[2 + kn]?.getD 0) x3)))
  have BX12 := Lib.hid (blk_far (p := ⟨C, 2 + kn, none⟩) BX11 (show X ≠ C by omega) (.int .u8 (bits .xor .u8 ((bytesOf S)[2 + kn]?.getD 0) x3)))
  generalize w11.setCell ⟨C, 2 + kn, none⟩ (.int .u8 (bits .xor .u8 ((bytesOf S)[2 + kn]?.getD 0) x3)) = w12 at WC12 HB12 BK12 BX12 ⊢
  clear WC HB11 BK11 BX11 gc gf gi gb
  have hcv := (WC12.out).conv S.size cap2 (by rw [List.length_set, hyl])
  rw [hB2] at hcv
  go_wp2_with fail
  refine (dirrecord_Decode.calls k _ _ _ _ _ _ _ _ _ _ _ _ HD2.out).mono ?_
  rintro e w13 ⟨rfl, hb13⟩
  have WC13 := Lib.hid ((WC12.out).below hb13)
  have HB13 := Lib.hid (below_step HB12.out hb13)
  have BK13 := Lib.hid (blk_below BK12.out hb13)
  have BX13 := Lib.hid (blk_below BX12.out hb13)
  clear WC12 HB12 BK12 BX12 hb13 hcv
  have q0 : w13.cell? ⟨w.heap.size, 0, none⟩ = some (.string a0) := (blk_cell BK13.out 0).trans rfl
  have q1 : w13.cell? ⟨w.heap.size, 1, none⟩ = some (.int .i64 a1) := (blk_cell BK13.out 1).trans rfl
  have q2 : w13.cell? ⟨w.heap.size, 2, none⟩ = some (.int .i64 a2) := (blk_cell BK13.out 2).trans rfl
  have q3 : w13.cell? ⟨w.heap.size, 3, none⟩ = some (.int .i64 a3) := (blk_cell BK13.out 3).trans rfl
  have q4 : w13.cell? ⟨w.heap.size, 4, none⟩ = some (.int .i64 a4) := (blk_cell BK13.out 4).trans rfl
  have q5 : w13.cell? ⟨w.heap.size, 5, none⟩ = some (.int .i64 a5) := (blk_cell BK13.out 5).trans rfl
  have q6 : w13.cell? ⟨w.heap.size, 6, none⟩ = some (.int .i64 a6) := (blk_cell BK13.out 6).trans rfl
  have q7 : w13.cell? ⟨w.heap.size, 7, none⟩ = some (.string a7) := (blk_cell BK13.out 7).trans rfl
  have p0 : w13.cell? ⟨X, 0, none⟩ = some (.string a0) := (blk_cell BX13.out 0).trans rfl
  have p1 : w13.cell? ⟨X, 1, none⟩ = some (.int .i64 a1) := (blk_cell BX13.out 1).trans rfl
  have p2 : w13.cell? ⟨X, 2, none⟩ = some (.int .i64 a2) := (blk_cell BX13.out 2).trans rfl
  have p3 : w13.cell? ⟨X, 3, none⟩ = some (.int .i64 a3) := (blk_cell BX13.out 3).trans rfl
  have p4 : w13.cell? ⟨X, 4, none⟩ = some (.int .i64 a4) := (blk_cell BX13.out 4).trans rfl
  have p5 : w13.cell? ⟨X, 5, none⟩ = some (.int .i64 a5) := (blk_cell BX13.out 5).trans rfl
  have p6 : w13.cell? ⟨X, 6, none⟩ = some (.int .i64 a6) := (blk_cell BX13.out 6).trans rfl
  have p7 : w13.cell? ⟨X, 7, none⟩ = some (.string a7) := (blk_cell BX13.out 7).trans rfl
  have f0 := blk_frozen BX13.out 0
  have f1 := blk_frozen BX13.out 1
  have f2 := blk_frozen BX13.out 2
  have f3 := blk_frozen BX13.out 3
  have f4 := blk_frozen BX13.out 4
  have f5 := blk_frozen BX13.out 5
  have f6 := blk_frozen BX13.out 6
  have f7 := blk_frozen BX13.out 7
  go_upto_region 16 with fail
  have BX14 := Lib.hid (blk_put8 BX13.out (.string a0) (.int .i64 b) (.int .i64 a2) (.int .i64 a3) (.int .i64 a4) (.int .i64 a5) (.int .i64 a6) (.string a7))
  have BK14 := Lib.hid ((heap_put8 w13 (show w.heap.size ≠ X by omega) (.string a0) (.int .i64 b) (.int .i64 a2) (.int .i64 a3) (.int .i64 a4) (.int .i64 a5) (.int .i64 a6) (.string a7)).trans BK13.out)
  have WC14 := Lib.hid ((WC13.out).same (heap_put8 w13 (show C ≠ X by omega) (.string a0) (.int .i64 b) (.int .i64 a2) (.int .i64 a3) (.int .i64 a4) (.int .i64 a5) (.int .i64 a6) (.string a7)))
  have HB14 := Lib.hid (below_put8 HB13.out (show w.heap.size ≤ X by omega) (.string a0) (.int .i64 b) (.int .i64 a2) (.int .i64 a3) (.int .i64 a4) (.int .i64 a5) (.int .i64 a6) (.string a7))
  generalize ((((((((w13.setCell ⟨X, 0, none⟩ (.string a0)).setCell ⟨X, 1, none⟩ (.int .i64 b)).setCell ⟨X, 2, none⟩ (.int .i64 a2)).setCell ⟨X, 3, none⟩ (.int .i64 a3)).setCell ⟨X, 4, none⟩ (.int .i64 a4)).setCell ⟨X, 5, none⟩ (.int .i64 a5)).setCell ⟨X, 6, none⟩ (.int .i64 a6)).setCell ⟨X, 7, none⟩ (.string a7)) = w14 at BX14 BK14 WC14 HB14 ⊢
  clear BX13 BK13 WC13 HB13 q0 q1 q2 q3 q4 q5 q6 q7 p0 p1 p2 p3 p4 p5 p6 p7 f0 f1 f2 f3 f4 f5 f6 f7
  have q0 : w14.cell? ⟨w.heap.size, 0, none⟩ = some (.string a0) := (blk_cell BK14.out 0).trans rfl
  have q1 : w14.cell? ⟨w.heap.size, 1, none⟩ = some (.int .i64 a1) := (blk_cell BK14.out 1).trans rfl
  have q2 : w14.cell? ⟨w.heap.size, 2, none⟩ = some (.int .i64 a2) := (blk_cell BK14.out 2).trans rfl
  have q3 : w14.cell? ⟨w.heap.size, 3, none⟩ = some (.int .i64 a3) := (blk_cell BK14.out 3).trans rfl
  have q4 : w14.cell? ⟨w.heap.size, 4, none⟩ = some (.int .i64 a4) := (blk_cell BK14.out 4).trans rfl
  have q5 : w14.cell? ⟨w.heap.size, 5, none⟩ = some (.int .i64 a5) := (blk_cell BK14.out 5).trans rfl
  have q6 : w14.cell? ⟨w.heap.size, 6, none⟩ = some (.int .i64 a6) := (blk_cell BK14.out 6).trans rfl
  have q7 : w14.cell? ⟨w.heap.size, 7, none⟩ = some (.string a7) := (blk_cell BK14.out 7).trans rfl
  go_upto_region 18 with fail
  have BV15 := Lib.hid (blk_alloc (blk_new w14 (recCells a0 a1 a2 a3 a4 a5 a6 a7) 23) (.cells #[.pointer (some ⟨w14.heap.size, 1, none⟩), .pointer (some ⟨w14.heap.size, 2, none⟩), .pointer (some ⟨w14.heap.size, 6, none⟩)] 38))
  have BX15 := Lib.hid (blk_alloc (blk_alloc BX14.out (.cells (recCells a0 a1 a2 a3 a4 a5 a6 a7) 23)) (.cells #[.pointer (some ⟨w14.heap.size, 1, none⟩), .pointer (some ⟨w14.heap.size, 2, none⟩), .pointer (some ⟨w14.heap.size, 6, none⟩)] 38))
  have WC15 := Lib.hid (((WC14.out).alloc (.cells (recCells a0 a1 a2 a3 a4 a5 a6 a7) 23)).alloc (.cells #[.pointer (some ⟨w14.heap.size, 1, none⟩), .pointer (some ⟨w14.heap.size, 2, none⟩), .pointer (some ⟨w14.heap.size, 6, none⟩)] 38))
  have HB15 := Lib.hid (below_alloc (below_alloc HB14.out (.cells (recCells a0 a1 a2 a3 a4 a5 a6 a7) 23)) (.cells #[.pointer (some ⟨w14.heap.size, 1, none⟩), .pointer (some ⟨w14.heap.size, 2, none⟩), .pointer (some ⟨w14.heap.size, 6, none⟩)] 38))
  have hVX : X < w14.heap.size := blk_lt BX14.out
  have hVC : C < w14.heap.size := (WC14.out).lt
  have hVR : w.heap.size < w14.heap.size := blk_lt BK14.out
  generalize (w14.alloc (.cells (recCells a0 a1 a2 a3 a4 a5 a6 a7) 23)).alloc (.cells #[.pointer (some ⟨w14.heap.size, 1, none⟩), .pointer (some ⟨w14.heap.size, 2, none⟩), .pointer (some ⟨w14.heap.size, 6, none⟩)] 38) = w15 at BV15 BX15 WC15 HB15 ⊢
  generalize w14.heap.size = V at BV15 hVX hVC hVR ⊢
  clear BX14 BK14 WC14 HB14 q0 q1 q2 q3 q4 q5 q6 q7
  have q0 : w15.cell? ⟨V, 0, none⟩ = some (.string a0) := (blk_cell BV15.out 0).trans rfl
  have q1 : w15.cell? ⟨V, 1, none⟩ = some (.int .i64 a1) := (blk_cell BV15.out 1).trans rfl
  have q2 : w15.cell? ⟨V, 2, none⟩ = some (.int .i64 a2) := (blk_cell BV15.out 2).trans rfl
  have q3 : w15.cell? ⟨V, 3, none⟩ = some (.int .i64 a3) := (blk_cell BV15.out 3).trans rfl
  have q4 : w15.cell? ⟨V, 4, none⟩ = some (.int .i64 a4) := (blk_cell BV15.out 4).trans rfl
  have q5 : w15.cell? ⟨V, 5, none⟩ = some (.int .i64 a5) := (blk_cell BV15.out 5).trans rfl
  have q6 : w15.cell? ⟨V, 6, none⟩ = some (.int .i64 a6) := (blk_cell BV15.out 6).trans rfl
  have q7 : w15.cell? ⟨V, 7, none⟩ = some (.string a7) := (blk_cell BV15.out 7).trans rfl
  have f1 := blk_frozen BV15.out 1
  have g8 : IntKind.i64.wrap (8 * (kn : Int)) = ((8 * kn : Nat) : Int) := by rw [IntKind.wrap_i64]; push_cast; omega
  have g9 : ¬ ((8 * kn : Nat) : Int) < 0 := by omega
  go_cut [] from 20 (fun wx => wx = (w15.setCell ⟨V, 1, none⟩ (.int .i64 b)).drew)
  case first =>
    go_region
    all_goals (go_wp2_with fail; go_meet)
    all_goals (case rel => exact rfl)
  case rest =>
  subst hcut
  have BV16 := Lib.hid (blk_drew (blk_put BV15.out 1 (.int .i64 b) (cs' := #[.string a0, .int .i64 b, .int .i64 a2, .int .i64 a3, .int .i64 a4, .int .i64 a5, .int .i64 a6, .string a7]) rfl))
  have BX16 := Lib.hid (blk_drew (blk_far (p := ⟨V, 1, none⟩) BX15.out (show X ≠ V by omega) (.int .i64 b)))
  have WC16 := Lib.hid (((WC15.out).other (show C ≠ V by omega) 1 (.int .i64 b)).same (W' := (w15.setCell ⟨V, 1, none⟩ (.int .i64 b)).drew) rfl)
  have HB16 := Lib.hid (below_drew1 (below_set (g := V) (j := 1) (v := .int .i64 b) HB15.out (by omega)))
  generalize (w15.setCell ⟨V, 1, none⟩ (.int .i64 b)).drew = w16 at BV16 BX16 WC16 HB16 ⊢
  clear BV15 BX15 WC15 HB15 q0 q1 q2 q3 q4 q5 q6 q7 f1 g8 g9
  have hcv := (WC16.out).conv S.size cap2 (by rw [List.length_set, hyl])
  rw [hB2] at hcv
  have q0 : w16.cell? ⟨V, 0, none⟩ = some (.string a0) := (blk_cell BV16.out 0).trans rfl
  have q1 : w16.cell? ⟨V, 1, none⟩ = some (.int .i64 b) := (blk_cell BV16.out 1).trans rfl
  have q2 : w16.cell? ⟨V, 2, none⟩ = some (.int .i64 a2) := (blk_cell BV16.out 2).trans rfl
  have q3 : w16.cell? ⟨V, 3, none⟩ = some (.int .i64 a3) := (blk_cell BV16.out 3).trans rfl
  have q4 : w16.cell? ⟨V, 4, none⟩ = some (.int .i64 a4) := (blk_cell BV16.out 4).trans rfl
  have q5 : w16.cell? ⟨V, 5, none⟩ = some (.int .i64 a5) := (blk_cell BV16.out 5).trans rfl
  have q6 : w16.cell? ⟨V, 6, none⟩ = some (.int .i64 a6) := (blk_cell BV16.out 6).trans rfl
  have q7 : w16.cell? ⟨V, 7, none⟩ = some (.string a7) := (blk_cell BV16.out 7).trans rfl
  have p0 : w16.cell? ⟨X, 0, none⟩ = some (.string a0) := (blk_cell BX16.out 0).trans rfl
  have p1 : w16.cell? ⟨X, 1, none⟩ = some (.int .i64 b) := (blk_cell BX16.out 1).trans rfl
  have p2 : w16.cell? ⟨X, 2, none⟩ = some (.int .i64 a2) := (blk_cell BX16.out 2).trans rfl
  have p3 : w16.cell? ⟨X, 3, none⟩ = some (.int .i64 a3) := (blk_cell BX16.out 3).trans rfl
  have p4 : w16.cell? ⟨X, 4, none⟩ = some (.int .i64 a4) := (blk_cell BX16.out 4).trans rfl
  have p5 : w16.cell? ⟨X, 5, none⟩ = some (.int .i64 a5) := (blk_cell BX16.out 5).trans rfl
  have p6 : w16.cell? ⟨X, 6, none⟩ = some (.int .i64 a6) := (blk_cell BX16.out 6).trans rfl
  have p7 : w16.cell? ⟨X, 7, none⟩ = some (.string a7) := (blk_cell BX16.out 7).trans rfl
  go_wp2_with (first
    | (go_at_call 18; refine (dirrecord_Differ.calls k _ _ _ HF2.out).mono ?_; rintro e w17 ⟨v17, rfl, hR17, hb17⟩; obtain ⟨A17, c17, rfl⟩ := Kd.R_slice hR17)
    | (go_at_call 17; refine (slices_Equal_int_int.calls k A17 c17 [2] _ _ [2] true _ (Kd.C_alloc (Kd.R_reads' hR17).2.2 _) (Kd.R_reads' hR17).2.1 (C_one (by go_simp)) (by decide) HQ.out).mono ?_; rintro e w18 ⟨rfl, nd2, rfl⟩))
  go_ret
  exact ⟨rfl, pw_below_drewN (below_alloc (below_step HB16.out hb17) (.cells #[.int .i64 2] 3)) nd2⟩

set_option maxRecDepth 100000 in
set_option maxHeartbeats 16000000 in
theorem halves_1 (k : Nat) (a0 : ByteArray) (a1 a2 a3 a4 a5 a6 : Int) (a7 : ByteArray) (x1 x2 x3 : Int) (w : World) (S : ByteArray)
    (he : dirrecord_Encode.f k a0 a1 a2 a3 a4 a5 a6 a7 = some (S, 0)) (hl : decide ((S.size : Int) < 34) = false) (hx : (x3 == 0) = false) (h1 : Int.tmod x1 3 = 1) (kn : Nat) (h2 : Int.tmod x2 4 = (kn : Int)) (h2b : kn < 4) (y2 : 0 ≤ x2) (y2b : x2 ≤ 255)
    (B1 : ByteArray) (hB1 : strOfNums ((bytesOf S).set (14 + kn) (bits .xor .u8 ((bytesOf S)[14 + kn]?.getD 0) x3)) = B1) (B2 : ByteArray) (hB2 : strOfNums ((bytesOf S).set (10 + kn) (bits .xor .u8 ((bytesOf S)[10 + kn]?.getD 0) x3)) = B2) (b : Int) (hbv : bits .xor .i64 a2 (wrap64 (wrap64 x3 * 2 ^ (8 * kn))) = b)
    (hd2 : dirrecord_Decode.f k B2 = some (a0, a1, b, a3, a4, a5, a6, a7, (S.size : Int), 0)) (hf2 : dirrecord_Differ.f k B2 = some [10]) (hf1 : dirrecord_Differ.f k B1 = some [10]) (hq : slices_Equal_int_int.f k [10] [10] = some true) (hd1 : dirrecord_Decode.f k B1 = some (a0, a1, a2, a3, a4, a5, a6, a7, (S.size : Int), 0)) :
    Calls Try.prog 7 #[.agg (recCells a0 a1 a2 a3 a4 a5 a6 a7), .int .u8 x1, .int .u8 x2, .int .u8 x3] w fun e w' => e = .returned (.bool true) ∧ Below w.heap.size w w' := by
  have HE := Lib.hid he
  have HD1 := Lib.hid hd1
  have HF1 := Lib.hid hf1
  have HQ := Lib.hid hq
  have HD2 := Lib.hid hd2
  have HF2 := Lib.hid hf2
  clear he hd1 hf1 hq hd2 hf2
  have hsz : 34 ≤ S.size := by have := of_decide_eq_false hl; omega
  have hu23 := Try.underlying23
  go_enter Try.func7, Try.ntmps7
  go_upto_region 1 with fail
  have BK := Lib.hid (blk_new w (recCells a0 a1 a2 a3 a4 a5 a6 a7) 23)
  have HB := Lib.hid ((Below.refl w.heap.size w).alloc (Nat.le_refl _) (.cells (recCells a0 a1 a2 a3 a4 a5 a6 a7) 23))
  generalize w.alloc (.cells (recCells a0 a1 a2 a3 a4 a5 a6 a7) 23) = w0 at BK HB ⊢
  go_upto_region 3 with (go_at_call 10; refine (masterdisclaw20_awake.calls true _ rfl).mono ?_; rintro e w1 ⟨rfl, hb1⟩)
  have BK1 := Lib.hid (blk_below BK.out hb1)
  have HB1 := Lib.hid (below_step HB.out hb1)
  clear hb1 BK HB
  have q0 : w1.cell? ⟨w.heap.size, 0, none⟩ = some (.string a0) := (blk_cell BK1.out 0).trans rfl
  have q1 : w1.cell? ⟨w.heap.size, 1, none⟩ = some (.int .i64 a1) := (blk_cell BK1.out 1).trans rfl
  have q2 : w1.cell? ⟨w.heap.size, 2, none⟩ = some (.int .i64 a2) := (blk_cell BK1.out 2).trans rfl
  have q3 : w1.cell? ⟨w.heap.size, 3, none⟩ = some (.int .i64 a3) := (blk_cell BK1.out 3).trans rfl
  have q4 : w1.cell? ⟨w.heap.size, 4, none⟩ = some (.int .i64 a4) := (blk_cell BK1.out 4).trans rfl
  have q5 : w1.cell? ⟨w.heap.size, 5, none⟩ = some (.int .i64 a5) := (blk_cell BK1.out 5).trans rfl
  have q6 : w1.cell? ⟨w.heap.size, 6, none⟩ = some (.int .i64 a6) := (blk_cell BK1.out 6).trans rfl
  have q7 : w1.cell? ⟨w.heap.size, 7, none⟩ = some (.string a7) := (blk_cell BK1.out 7).trans rfl
  go_upto_region 6 with (go_at_call 11; refine (dirrecord_Encode.calls k _ _ _ _ _ _ _ _ _ _ _ HE.out).mono ?_; rintro e w2 ⟨rfl, hb2⟩)
  have BK2 := Lib.hid (blk_below BK1.out hb2)
  have HB2 := Lib.hid (below_step HB1.out hb2)
  clear hb2 BK1 HB1 q0 q1 q2 q3 q4 q5 q6 q7
  go_cut [11, 12] from 20 (fun s11 s12 wx => s11 = .int .i64 10 ∧ s12 = .int .i64 4 ∧ wx.heap[w.heap.size]? = some (.cells (recCells a0 a1 a2 a3 a4 a5 a6 a7) 23 (0, 0)) ∧ Below w.heap.size w wx)
  case first =>
    go_region
    all_goals (go_wp2_with fail; go_meet)
    all_goals (case rel => exact ⟨rfl, rfl, blk_drew (blk_alloc (blk_alloc BK2.out _) _), below_drew1 (below_alloc (below_alloc HB2.out _) _)⟩)
  case rest =>
  obtain ⟨rfl, rfl, BK3, HB3⟩ := hcut
  clear BK2 HB2
  have hcv := Lib.run_convert_string_bytes (P := Try.prog) wc 9 37 5 S Try.underlying9 Try.underlying37 Try.underlying5
  go_upto_region 9 with fail
  have WB := Row.new wc S
  have HB4 : Below w.heap.size w (Lib.bytesWorld wc 5 S) := below_bytes S HB3
  have BK4 : (Lib.bytesWorld wc 5 S).heap[w.heap.size]? = some (.cells (recCells a0 a1 a2 a3 a4 a5 a6 a7) 23 (0, 0)) := (Lib.bytesWorld_at_old wc 5 S _ (blk_lt BK3)).trans BK3
  have hBR : w.heap.size < wc.heap.size := blk_lt BK3
  generalize Lib.bytesWorld wc 5 S = w4 at WB HB4 BK4 ⊢
  generalize grownCap wc S.size 0 5 = cap
  generalize wc.heap.size = B at WB hBR ⊢
  clear hcv BK3 HB3
  have hyl := bytesOf_len S
  have gi : IntKind.i64.wrap (14 + (kn : Int)) = ((14 + kn : Nat) : Int) := by rw [IntKind.wrap_i64]; push_cast; omega
  have gc := WB.cell (14 + kn) (by omega)
  have gf := WB.frozen (14 + kn) (by omega)
  have gb : ((14 + kn : Nat) : Int) < (S.size : Int) := by omega
  go_upto_region 10 with fail
  have WB5 := Lib.hid (WB.set (14 + kn) (by omega) (bits .xor .u8 ((bytesOf S)[14 + kn]?.getD 0) x3))
  have HB5 := Lib.hid (below_set (g := B) (j := 14 + kn) (v := .int .u8 (bits .xor .u8 ((bytesOf S)[14 + kn]?.getD 0) x3)) HB4 (by omega))
  have BK5 := Lib.hid (blk_far (p := ⟨B, 14 + kn, none⟩) BK4 (show w.heap.size ≠ B by omega) (.int .u8 (bits .xor .u8 ((bytesOf S)[14 + kn]?.getD 0) x3)))
  generalize w4.setCell ⟨B, 14 + kn, none⟩ (.int .u8 (bits .xor .u8 ((bytesOf S)[14 + kn]?.getD 0) x3)) = w5 at WB5 HB5 BK5 ⊢
  clear WB HB4 BK4 gc gf
  have hcv := (WB5.out).conv S.size cap (by rw [List.length_set, hyl])
  rw [hB1] at hcv
  go_upto_region 11 with (go_at_call 15; refine (dirrecord_Decode.calls k _ _ _ _ _ _ _ _ _ _ _ _ HD1.out).mono ?_; rintro e w6 ⟨rfl, hb6⟩)
  have WB6 := (WB5.out).below hb6
  have HB6 := below_step HB5.out hb6
  have BK6 := blk_below BK5.out hb6
  have hxR : w.heap.size < w6.heap.size := blk_lt BK6
  have hxB : B < w6.heap.size := WB6.lt
  have BX := Lib.hid (blk_new w6 (recCells a0 a1 a2 a3 a4 a5 a6 a7) 23)
  have WB7 := Lib.hid (WB6.alloc (.cells (recCells a0 a1 a2 a3 a4 a5 a6 a7) 23))
  have HB7 := Lib.hid (below_alloc HB6 (.cells (recCells a0 a1 a2 a3 a4 a5 a6 a7) 23))
  have BK7 := Lib.hid (blk_alloc BK6 (.cells (recCells a0 a1 a2 a3 a4 a5 a6 a7) 23))
  clear WB5 HB5 BK5 WB6 HB6 BK6 hb6 hcv
  generalize w6.alloc (.cells (recCells a0 a1 a2 a3 a4 a5 a6 a7) 23) = w7 at BX WB7 HB7 BK7 ⊢
  generalize w6.heap.size = X at BX hxR hxB ⊢
  have hcv := (WB7.out).conv S.size cap (by rw [List.length_set, hyl])
  rw [hB1] at hcv
  have q0 : w7.cell? ⟨w.heap.size, 0, none⟩ = some (.string a0) := (blk_cell BK7.out 0).trans rfl
  have q1 : w7.cell? ⟨w.heap.size, 1, none⟩ = some (.int .i64 a1) := (blk_cell BK7.out 1).trans rfl
  have q2 : w7.cell? ⟨w.heap.size, 2, none⟩ = some (.int .i64 a2) := (blk_cell BK7.out 2).trans rfl
  have q3 : w7.cell? ⟨w.heap.size, 3, none⟩ = some (.int .i64 a3) := (blk_cell BK7.out 3).trans rfl
  have q4 : w7.cell? ⟨w.heap.size, 4, none⟩ = some (.int .i64 a4) := (blk_cell BK7.out 4).trans rfl
  have q5 : w7.cell? ⟨w.heap.size, 5, none⟩ = some (.int .i64 a5) := (blk_cell BK7.out 5).trans rfl
  have q6 : w7.cell? ⟨w.heap.size, 6, none⟩ = some (.int .i64 a6) := (blk_cell BK7.out 6).trans rfl
  have q7 : w7.cell? ⟨w.heap.size, 7, none⟩ = some (.string a7) := (blk_cell BK7.out 7).trans rfl
  have p0 : w7.cell? ⟨X, 0, none⟩ = some (.string a0) := (blk_cell BX.out 0).trans rfl
  have p1 : w7.cell? ⟨X, 1, none⟩ = some (.int .i64 a1) := (blk_cell BX.out 1).trans rfl
  have p2 : w7.cell? ⟨X, 2, none⟩ = some (.int .i64 a2) := (blk_cell BX.out 2).trans rfl
  have p3 : w7.cell? ⟨X, 3, none⟩ = some (.int .i64 a3) := (blk_cell BX.out 3).trans rfl
  have p4 : w7.cell? ⟨X, 4, none⟩ = some (.int .i64 a4) := (blk_cell BX.out 4).trans rfl
  have p5 : w7.cell? ⟨X, 5, none⟩ = some (.int .i64 a5) := (blk_cell BX.out 5).trans rfl
  have p6 : w7.cell? ⟨X, 6, none⟩ = some (.int .i64 a6) := (blk_cell BX.out 6).trans rfl
  have p7 : w7.cell? ⟨X, 7, none⟩ = some (.string a7) := (blk_cell BX.out 7).trans rfl
  go_upto_region 13 with (first
    | (go_at_call 18; refine (dirrecord_Differ.calls k _ _ _ HF1.out).mono ?_; rintro e w8 ⟨v8, rfl, hR8, hb8⟩; obtain ⟨A8, c8, rfl⟩ := Kd.R_slice hR8)
    | (go_at_call 17; refine (slices_Equal_int_int.calls k A8 c8 [10] _ _ [10] true _ (Kd.C_alloc (Kd.R_reads' hR8).2.2 _) (Kd.R_reads' hR8).2.1 (C_one (by go_simp)) (by decide) HQ.out).mono ?_; rintro e w9 ⟨rfl, nd, rfl⟩))
  have HB10 := Lib.hid (pw_below_drewN (below_alloc (below_step HB7.out hb8) (.cells #[.int .i64 10] 3)) nd)
  have BX10 := Lib.hid (blk_drewN (blk_alloc (blk_below BX.out hb8) (.cells #[.int .i64 10] 3)) nd)
  have BK10 := Lib.hid (blk_drewN (blk_alloc (blk_below BK7.out hb8) (.cells #[.int .i64 10] 3)) nd)
  clear WB7 HB7 BK7 BX hb8 hR8 hcv q0 q1 q2 q3 q4 q5 q6 q7 p0 p1 p2 p3 p4 p5 p6 p7
  generalize (w8.alloc (.cells #[.int .i64 10] 3)).drewN nd = w10 at HB10 BX10 BK10 ⊢
  have hcv := Lib.run_convert_string_bytes (P := Try.prog) w10 9 37 5 S Try.underlying9 Try.underlying37 Try.underlying5
  go_upto_region 14 with fail
  have WC := Row.new w10 S
  have HB11 : Below w.heap.size w (Lib.bytesWorld w10 5 S) := below_bytes S HB10.out
  have BK11 : (Lib.bytesWorld w10 5 S).heap[w.heap.size]? = some (.cells (recCells a0 a1 a2 a3 a4 a5 a6 a7) 23 (0, 0)) := (Lib.bytesWorld_at_old w10 5 S _ (blk_lt BK10.out)).trans BK10.out
  have BX11 : (Lib.bytesWorld w10 5 S).heap[X]? = some (.cells (recCells a0 a1 a2 a3 a4 a5 a6 a7) 23 (0, 0)) := (Lib.bytesWorld_at_old w10 5 S _ (blk_lt BX10.out)).trans BX10.out
  have hCR : w.heap.size < w10.heap.size := blk_lt BK10.out
  have hCX : X < w10.heap.size := blk_lt BX10.out
  generalize Lib.bytesWorld w10 5 S = w11 at WC HB11 BK11 BX11 ⊢
  generalize grownCap w10 S.size 0 5 = cap2
  generalize w10.heap.size = C at WC hCR hCX ⊢
  clear hcv HB10 BX10 BK10 gi gb
  have gi : IntKind.i64.wrap (10 + (kn : Int)) = ((10 + kn : Nat) : Int) := by rw [IntKind.wrap_i64]; push_cast; omega
  have gc := WC.cell (10 + kn) (by omega)
  have gf := WC.frozen (10 + kn) (by omega)
  have gb : ((10 + kn : Nat) : Int) < (S.size : Int) := by omega
  go_upto_region 15 with fail
  have WC12 := Lib.hid (WC.set (10 + kn) (by omega) (bits .xor .u8 ((bytesOf S)[10 + kn]?.getD 0) x3))
  have HB12 := Lib.hid (below_set (g := C) (j := 10 + kn) (v := .int .u8 (bits .xor .u8 ((bytesOf S)[10 + kn]?.getD 0) x3)) HB11 (by omega))
  have BK12 := Lib.hid (blk_far (p := ⟨C, 10 + kn, none⟩) BK11 (show w.heap.size ≠ C by omega) (.int .u8 (bits .xor .u8 ((bytesOf S)[10 + kn]?.getD 0) x3)))
  have BX12 := Lib.hid (blk_far (p := ⟨C, 10 + kn, none⟩) BX11 (show X ≠ C by omega) (.int .u8 (bits .xor .u8 ((bytesOf S)[10 + kn]?.getD 0) x3)))
  generalize w11.setCell ⟨C, 10 + kn, none⟩ (.int .u8 (bits .xor .u8 ((bytesOf S)[10 + kn]?.getD 0) x3)) = w12 at WC12 HB12 BK12 BX12 ⊢
  clear WC HB11 BK11 BX11 gc gf gi gb
  have hcv := (WC12.out).conv S.size cap2 (by rw [List.length_set, hyl])
  rw [hB2] at hcv
  go_wp2_with fail
  refine (dirrecord_Decode.calls k _ _ _ _ _ _ _ _ _ _ _ _ HD2.out).mono ?_
  rintro e w13 ⟨rfl, hb13⟩
  have WC13 := Lib.hid ((WC12.out).below hb13)
  have HB13 := Lib.hid (below_step HB12.out hb13)
  have BK13 := Lib.hid (blk_below BK12.out hb13)
  have BX13 := Lib.hid (blk_below BX12.out hb13)
  clear WC12 HB12 BK12 BX12 hb13 hcv
  have q0 : w13.cell? ⟨w.heap.size, 0, none⟩ = some (.string a0) := (blk_cell BK13.out 0).trans rfl
  have q1 : w13.cell? ⟨w.heap.size, 1, none⟩ = some (.int .i64 a1) := (blk_cell BK13.out 1).trans rfl
  have q2 : w13.cell? ⟨w.heap.size, 2, none⟩ = some (.int .i64 a2) := (blk_cell BK13.out 2).trans rfl
  have q3 : w13.cell? ⟨w.heap.size, 3, none⟩ = some (.int .i64 a3) := (blk_cell BK13.out 3).trans rfl
  have q4 : w13.cell? ⟨w.heap.size, 4, none⟩ = some (.int .i64 a4) := (blk_cell BK13.out 4).trans rfl
  have q5 : w13.cell? ⟨w.heap.size, 5, none⟩ = some (.int .i64 a5) := (blk_cell BK13.out 5).trans rfl
  have q6 : w13.cell? ⟨w.heap.size, 6, none⟩ = some (.int .i64 a6) := (blk_cell BK13.out 6).trans rfl
  have q7 : w13.cell? ⟨w.heap.size, 7, none⟩ = some (.string a7) := (blk_cell BK13.out 7).trans rfl
  have p0 : w13.cell? ⟨X, 0, none⟩ = some (.string a0) := (blk_cell BX13.out 0).trans rfl
  have p1 : w13.cell? ⟨X, 1, none⟩ = some (.int .i64 a1) := (blk_cell BX13.out 1).trans rfl
  have p2 : w13.cell? ⟨X, 2, none⟩ = some (.int .i64 a2) := (blk_cell BX13.out 2).trans rfl
  have p3 : w13.cell? ⟨X, 3, none⟩ = some (.int .i64 a3) := (blk_cell BX13.out 3).trans rfl
  have p4 : w13.cell? ⟨X, 4, none⟩ = some (.int .i64 a4) := (blk_cell BX13.out 4).trans rfl
  have p5 : w13.cell? ⟨X, 5, none⟩ = some (.int .i64 a5) := (blk_cell BX13.out 5).trans rfl
  have p6 : w13.cell? ⟨X, 6, none⟩ = some (.int .i64 a6) := (blk_cell BX13.out 6).trans rfl
  have p7 : w13.cell? ⟨X, 7, none⟩ = some (.string a7) := (blk_cell BX13.out 7).trans rfl
  have f0 := blk_frozen BX13.out 0
  have f1 := blk_frozen BX13.out 1
  have f2 := blk_frozen BX13.out 2
  have f3 := blk_frozen BX13.out 3
  have f4 := blk_frozen BX13.out 4
  have f5 := blk_frozen BX13.out 5
  have f6 := blk_frozen BX13.out 6
  have f7 := blk_frozen BX13.out 7
  go_upto_region 16 with fail
  have BX14 := Lib.hid (blk_put8 BX13.out (.string a0) (.int .i64 a1) (.int .i64 b) (.int .i64 a3) (.int .i64 a4) (.int .i64 a5) (.int .i64 a6) (.string a7))
  have BK14 := Lib.hid ((heap_put8 w13 (show w.heap.size ≠ X by omega) (.string a0) (.int .i64 a1) (.int .i64 b) (.int .i64 a3) (.int .i64 a4) (.int .i64 a5) (.int .i64 a6) (.string a7)).trans BK13.out)
  have WC14 := Lib.hid ((WC13.out).same (heap_put8 w13 (show C ≠ X by omega) (.string a0) (.int .i64 a1) (.int .i64 b) (.int .i64 a3) (.int .i64 a4) (.int .i64 a5) (.int .i64 a6) (.string a7)))
  have HB14 := Lib.hid (below_put8 HB13.out (show w.heap.size ≤ X by omega) (.string a0) (.int .i64 a1) (.int .i64 b) (.int .i64 a3) (.int .i64 a4) (.int .i64 a5) (.int .i64 a6) (.string a7))
  generalize ((((((((w13.setCell ⟨X, 0, none⟩ (.string a0)).setCell ⟨X, 1, none⟩ (.int .i64 a1)).setCell ⟨X, 2, none⟩ (.int .i64 b)).setCell ⟨X, 3, none⟩ (.int .i64 a3)).setCell ⟨X, 4, none⟩ (.int .i64 a4)).setCell ⟨X, 5, none⟩ (.int .i64 a5)).setCell ⟨X, 6, none⟩ (.int .i64 a6)).setCell ⟨X, 7, none⟩ (.string a7)) = w14 at BX14 BK14 WC14 HB14 ⊢
  clear BX13 BK13 WC13 HB13 q0 q1 q2 q3 q4 q5 q6 q7 p0 p1 p2 p3 p4 p5 p6 p7 f0 f1 f2 f3 f4 f5 f6 f7
  have q0 : w14.cell? ⟨w.heap.size, 0, none⟩ = some (.string a0) := (blk_cell BK14.out 0).trans rfl
  have q1 : w14.cell? ⟨w.heap.size, 1, none⟩ = some (.int .i64 a1) := (blk_cell BK14.out 1).trans rfl
  have q2 : w14.cell? ⟨w.heap.size, 2, none⟩ = some (.int .i64 a2) := (blk_cell BK14.out 2).trans rfl
  have q3 : w14.cell? ⟨w.heap.size, 3, none⟩ = some (.int .i64 a3) := (blk_cell BK14.out 3).trans rfl
  have q4 : w14.cell? ⟨w.heap.size, 4, none⟩ = some (.int .i64 a4) := (blk_cell BK14.out 4).trans rfl
  have q5 : w14.cell? ⟨w.heap.size, 5, none⟩ = some (.int .i64 a5) := (blk_cell BK14.out 5).trans rfl
  have q6 : w14.cell? ⟨w.heap.size, 6, none⟩ = some (.int .i64 a6) := (blk_cell BK14.out 6).trans rfl
  have q7 : w14.cell? ⟨w.heap.size, 7, none⟩ = some (.string a7) := (blk_cell BK14.out 7).trans rfl
  go_upto_region 18 with fail
  have BV15 := Lib.hid (blk_alloc (blk_new w14 (recCells a0 a1 a2 a3 a4 a5 a6 a7) 23) (.cells #[.pointer (some ⟨w14.heap.size, 1, none⟩), .pointer (some ⟨w14.heap.size, 2, none⟩), .pointer (some ⟨w14.heap.size, 6, none⟩)] 38))
  have BX15 := Lib.hid (blk_alloc (blk_alloc BX14.out (.cells (recCells a0 a1 a2 a3 a4 a5 a6 a7) 23)) (.cells #[.pointer (some ⟨w14.heap.size, 1, none⟩), .pointer (some ⟨w14.heap.size, 2, none⟩), .pointer (some ⟨w14.heap.size, 6, none⟩)] 38))
  have WC15 := Lib.hid (((WC14.out).alloc (.cells (recCells a0 a1 a2 a3 a4 a5 a6 a7) 23)).alloc (.cells #[.pointer (some ⟨w14.heap.size, 1, none⟩), .pointer (some ⟨w14.heap.size, 2, none⟩), .pointer (some ⟨w14.heap.size, 6, none⟩)] 38))
  have HB15 := Lib.hid (below_alloc (below_alloc HB14.out (.cells (recCells a0 a1 a2 a3 a4 a5 a6 a7) 23)) (.cells #[.pointer (some ⟨w14.heap.size, 1, none⟩), .pointer (some ⟨w14.heap.size, 2, none⟩), .pointer (some ⟨w14.heap.size, 6, none⟩)] 38))
  have hVX : X < w14.heap.size := blk_lt BX14.out
  have hVC : C < w14.heap.size := (WC14.out).lt
  have hVR : w.heap.size < w14.heap.size := blk_lt BK14.out
  generalize (w14.alloc (.cells (recCells a0 a1 a2 a3 a4 a5 a6 a7) 23)).alloc (.cells #[.pointer (some ⟨w14.heap.size, 1, none⟩), .pointer (some ⟨w14.heap.size, 2, none⟩), .pointer (some ⟨w14.heap.size, 6, none⟩)] 38) = w15 at BV15 BX15 WC15 HB15 ⊢
  generalize w14.heap.size = V at BV15 hVX hVC hVR ⊢
  clear BX14 BK14 WC14 HB14 q0 q1 q2 q3 q4 q5 q6 q7
  have q0 : w15.cell? ⟨V, 0, none⟩ = some (.string a0) := (blk_cell BV15.out 0).trans rfl
  have q1 : w15.cell? ⟨V, 1, none⟩ = some (.int .i64 a1) := (blk_cell BV15.out 1).trans rfl
  have q2 : w15.cell? ⟨V, 2, none⟩ = some (.int .i64 a2) := (blk_cell BV15.out 2).trans rfl
  have q3 : w15.cell? ⟨V, 3, none⟩ = some (.int .i64 a3) := (blk_cell BV15.out 3).trans rfl
  have q4 : w15.cell? ⟨V, 4, none⟩ = some (.int .i64 a4) := (blk_cell BV15.out 4).trans rfl
  have q5 : w15.cell? ⟨V, 5, none⟩ = some (.int .i64 a5) := (blk_cell BV15.out 5).trans rfl
  have q6 : w15.cell? ⟨V, 6, none⟩ = some (.int .i64 a6) := (blk_cell BV15.out 6).trans rfl
  have q7 : w15.cell? ⟨V, 7, none⟩ = some (.string a7) := (blk_cell BV15.out 7).trans rfl
  have f1 := blk_frozen BV15.out 2
  have g8 : IntKind.i64.wrap (8 * (kn : Int)) = ((8 * kn : Nat) : Int) := by rw [IntKind.wrap_i64]; push_cast; omega
  have g9 : ¬ ((8 * kn : Nat) : Int) < 0 := by omega
  go_cut [] from 20 (fun wx => wx = (w15.setCell ⟨V, 2, none⟩ (.int .i64 b)).drew)
  case first =>
    go_region
    all_goals (go_wp2_with fail; go_meet)
    all_goals (case rel => exact rfl)
  case rest =>
  subst hcut
  have BV16 := Lib.hid (blk_drew (blk_put BV15.out 2 (.int .i64 b) (cs' := #[.string a0, .int .i64 a1, .int .i64 b, .int .i64 a3, .int .i64 a4, .int .i64 a5, .int .i64 a6, .string a7]) rfl))
  have BX16 := Lib.hid (blk_drew (blk_far (p := ⟨V, 2, none⟩) BX15.out (show X ≠ V by omega) (.int .i64 b)))
  have WC16 := Lib.hid (((WC15.out).other (show C ≠ V by omega) 2 (.int .i64 b)).same (W' := (w15.setCell ⟨V, 2, none⟩ (.int .i64 b)).drew) rfl)
  have HB16 := Lib.hid (below_drew1 (below_set (g := V) (j := 2) (v := .int .i64 b) HB15.out (by omega)))
  generalize (w15.setCell ⟨V, 2, none⟩ (.int .i64 b)).drew = w16 at BV16 BX16 WC16 HB16 ⊢
  clear BV15 BX15 WC15 HB15 q0 q1 q2 q3 q4 q5 q6 q7 f1 g8 g9
  have hcv := (WC16.out).conv S.size cap2 (by rw [List.length_set, hyl])
  rw [hB2] at hcv
  have q0 : w16.cell? ⟨V, 0, none⟩ = some (.string a0) := (blk_cell BV16.out 0).trans rfl
  have q1 : w16.cell? ⟨V, 1, none⟩ = some (.int .i64 a1) := (blk_cell BV16.out 1).trans rfl
  have q2 : w16.cell? ⟨V, 2, none⟩ = some (.int .i64 b) := (blk_cell BV16.out 2).trans rfl
  have q3 : w16.cell? ⟨V, 3, none⟩ = some (.int .i64 a3) := (blk_cell BV16.out 3).trans rfl
  have q4 : w16.cell? ⟨V, 4, none⟩ = some (.int .i64 a4) := (blk_cell BV16.out 4).trans rfl
  have q5 : w16.cell? ⟨V, 5, none⟩ = some (.int .i64 a5) := (blk_cell BV16.out 5).trans rfl
  have q6 : w16.cell? ⟨V, 6, none⟩ = some (.int .i64 a6) := (blk_cell BV16.out 6).trans rfl
  have q7 : w16.cell? ⟨V, 7, none⟩ = some (.string a7) := (blk_cell BV16.out 7).trans rfl
  have p0 : w16.cell? ⟨X, 0, none⟩ = some (.string a0) := (blk_cell BX16.out 0).trans rfl
  have p1 : w16.cell? ⟨X, 1, none⟩ = some (.int .i64 a1) := (blk_cell BX16.out 1).trans rfl
  have p2 : w16.cell? ⟨X, 2, none⟩ = some (.int .i64 b) := (blk_cell BX16.out 2).trans rfl
  have p3 : w16.cell? ⟨X, 3, none⟩ = some (.int .i64 a3) := (blk_cell BX16.out 3).trans rfl
  have p4 : w16.cell? ⟨X, 4, none⟩ = some (.int .i64 a4) := (blk_cell BX16.out 4).trans rfl
  have p5 : w16.cell? ⟨X, 5, none⟩ = some (.int .i64 a5) := (blk_cell BX16.out 5).trans rfl
  have p6 : w16.cell? ⟨X, 6, none⟩ = some (.int .i64 a6) := (blk_cell BX16.out 6).trans rfl
  have p7 : w16.cell? ⟨X, 7, none⟩ = some (.string a7) := (blk_cell BX16.out 7).trans rfl
  go_wp2_with (first
    | (go_at_call 18; refine (dirrecord_Differ.calls k _ _ _ HF2.out).mono ?_; rintro e w17 ⟨v17, rfl, hR17, hb17⟩; obtain ⟨A17, c17, rfl⟩ := Kd.R_slice hR17)
    | (go_at_call 17; refine (slices_Equal_int_int.calls k A17 c17 [10] _ _ [10] true _ (Kd.C_alloc (Kd.R_reads' hR17).2.2 _) (Kd.R_reads' hR17).2.1 (C_one (by go_simp)) (by decide) HQ.out).mono ?_; rintro e w18 ⟨rfl, nd2, rfl⟩))
  go_ret
  exact ⟨rfl, pw_below_drewN (below_alloc (below_step HB16.out hb17) (.cells #[.int .i64 10] 3)) nd2⟩

set_option maxRecDepth 100000 in
set_option maxHeartbeats 16000000 in
theorem halves_2 (k : Nat) (a0 : ByteArray) (a1 a2 a3 a4 a5 a6 : Int) (a7 : ByteArray) (x1 x2 x3 : Int) (w : World) (S : ByteArray)
    (he : dirrecord_Encode.f k a0 a1 a2 a3 a4 a5 a6 a7 = some (S, 0)) (hl : decide ((S.size : Int) < 34) = false) (hx : (x3 == 0) = false) (h1 : Int.tmod x1 3 = 2) (kn : Nat) (h2 : Int.tmod x2 2 = (kn : Int)) (h2b : kn < 2) (y2 : 0 ≤ x2) (y2b : x2 ≤ 255)
    (B1 : ByteArray) (hB1 : strOfNums ((bytesOf S).set (30 + kn) (bits .xor .u8 ((bytesOf S)[30 + kn]?.getD 0) x3)) = B1) (B2 : ByteArray) (hB2 : strOfNums ((bytesOf S).set (28 + kn) (bits .xor .u8 ((bytesOf S)[28 + kn]?.getD 0) x3)) = B2) (b : Int) (hbv : bits .xor .i64 a6 (wrap64 (wrap64 x3 * 2 ^ (8 * kn))) = b)
    (hd2 : dirrecord_Decode.f k B2 = some (a0, a1, a2, a3, a4, a5, b, a7, (S.size : Int), 0)) (hf2 : dirrecord_Differ.f k B2 = some [28]) (hf1 : dirrecord_Differ.f k B1 = some [28]) (hq : slices_Equal_int_int.f k [28] [28] = some true) (hd1 : dirrecord_Decode.f k B1 = some (a0, a1, a2, a3, a4, a5, a6, a7, (S.size : Int), 0)) :
    Calls Try.prog 7 #[.agg (recCells a0 a1 a2 a3 a4 a5 a6 a7), .int .u8 x1, .int .u8 x2, .int .u8 x3] w fun e w' => e = .returned (.bool true) ∧ Below w.heap.size w w' := by
  have HE := Lib.hid he
  have HD1 := Lib.hid hd1
  have HF1 := Lib.hid hf1
  have HQ := Lib.hid hq
  have HD2 := Lib.hid hd2
  have HF2 := Lib.hid hf2
  clear he hd1 hf1 hq hd2 hf2
  have hsz : 34 ≤ S.size := by have := of_decide_eq_false hl; omega
  have hu23 := Try.underlying23
  go_enter Try.func7, Try.ntmps7
  go_upto_region 1 with fail
  have BK := Lib.hid (blk_new w (recCells a0 a1 a2 a3 a4 a5 a6 a7) 23)
  have HB := Lib.hid ((Below.refl w.heap.size w).alloc (Nat.le_refl _) (.cells (recCells a0 a1 a2 a3 a4 a5 a6 a7) 23))
  generalize w.alloc (.cells (recCells a0 a1 a2 a3 a4 a5 a6 a7) 23) = w0 at BK HB ⊢
  go_upto_region 3 with (go_at_call 10; refine (masterdisclaw20_awake.calls true _ rfl).mono ?_; rintro e w1 ⟨rfl, hb1⟩)
  have BK1 := Lib.hid (blk_below BK.out hb1)
  have HB1 := Lib.hid (below_step HB.out hb1)
  clear hb1 BK HB
  have q0 : w1.cell? ⟨w.heap.size, 0, none⟩ = some (.string a0) := (blk_cell BK1.out 0).trans rfl
  have q1 : w1.cell? ⟨w.heap.size, 1, none⟩ = some (.int .i64 a1) := (blk_cell BK1.out 1).trans rfl
  have q2 : w1.cell? ⟨w.heap.size, 2, none⟩ = some (.int .i64 a2) := (blk_cell BK1.out 2).trans rfl
  have q3 : w1.cell? ⟨w.heap.size, 3, none⟩ = some (.int .i64 a3) := (blk_cell BK1.out 3).trans rfl
  have q4 : w1.cell? ⟨w.heap.size, 4, none⟩ = some (.int .i64 a4) := (blk_cell BK1.out 4).trans rfl
  have q5 : w1.cell? ⟨w.heap.size, 5, none⟩ = some (.int .i64 a5) := (blk_cell BK1.out 5).trans rfl
  have q6 : w1.cell? ⟨w.heap.size, 6, none⟩ = some (.int .i64 a6) := (blk_cell BK1.out 6).trans rfl
  have q7 : w1.cell? ⟨w.heap.size, 7, none⟩ = some (.string a7) := (blk_cell BK1.out 7).trans rfl
  go_upto_region 6 with (go_at_call 11; refine (dirrecord_Encode.calls k _ _ _ _ _ _ _ _ _ _ _ HE.out).mono ?_; rintro e w2 ⟨rfl, hb2⟩)
  have BK2 := Lib.hid (blk_below BK1.out hb2)
  have HB2 := Lib.hid (below_step HB1.out hb2)
  clear hb2 BK1 HB1 q0 q1 q2 q3 q4 q5 q6 q7
  go_cut [11, 12] from 20 (fun s11 s12 wx => s11 = .int .i64 28 ∧ s12 = .int .i64 2 ∧ wx.heap[w.heap.size]? = some (.cells (recCells a0 a1 a2 a3 a4 a5 a6 a7) 23 (0, 0)) ∧ Below w.heap.size w wx)
  case first =>
    go_region
    all_goals (go_wp2_with fail; go_meet)
    all_goals (case rel => exact ⟨rfl, rfl, blk_drew (blk_alloc (blk_alloc BK2.out _) _), below_drew1 (below_alloc (below_alloc HB2.out _) _)⟩)
  case rest =>
  obtain ⟨rfl, rfl, BK3, HB3⟩ := hcut
  clear BK2 HB2
  have hcv := Lib.run_convert_string_bytes (P := Try.prog) wc 9 37 5 S Try.underlying9 Try.underlying37 Try.underlying5
  go_upto_region 9 with fail
  have WB := Row.new wc S
  have HB4 : Below w.heap.size w (Lib.bytesWorld wc 5 S) := below_bytes S HB3
  have BK4 : (Lib.bytesWorld wc 5 S).heap[w.heap.size]? = some (.cells (recCells a0 a1 a2 a3 a4 a5 a6 a7) 23 (0, 0)) := (Lib.bytesWorld_at_old wc 5 S _ (blk_lt BK3)).trans BK3
  have hBR : w.heap.size < wc.heap.size := blk_lt BK3
  generalize Lib.bytesWorld wc 5 S = w4 at WB HB4 BK4 ⊢
  generalize grownCap wc S.size 0 5 = cap
  generalize wc.heap.size = B at WB hBR ⊢
  clear hcv BK3 HB3
  have hyl := bytesOf_len S
  have gi : IntKind.i64.wrap (30 + (kn : Int)) = ((30 + kn : Nat) : Int) := by rw [IntKind.wrap_i64]; push_cast; omega
  have gc := WB.cell (30 + kn) (by omega)
  have gf := WB.frozen (30 + kn) (by omega)
  have gb : ((30 + kn : Nat) : Int) < (S.size : Int) := by omega
  go_upto_region 10 with fail
  have WB5 := Lib.hid (WB.set (30 + kn) (by omega) (bits .xor .u8 ((bytesOf S)[30 + kn]?.getD 0) x3))
  have HB5 := Lib.hid (below_set (g := B) (j := 30 + kn) (v := .int .u8 (bits .xor .u8 ((bytesOf S)[30 + kn]?.getD 0) x3)) HB4 (by omega))
  have BK5 := Lib.hid (blk_far (p := ⟨B, 30 + kn, none⟩) BK4 (show w.heap.size ≠ B by omega) (.int .u8 (bits .xor .u8 ((bytesOf S)[30 + kn]?.getD 0) x3)))
  generalize w4.setCell ⟨B, 30 + kn, none⟩ (.int .u8 (bits .xor .u8 ((bytesOf S)[30 + kn]?.getD 0) x3)) = w5 at WB5 HB5 BK5 ⊢
  clear WB HB4 BK4 gc gf
  have hcv := (WB5.out).conv S.size cap (by rw [List.length_set, hyl])
  rw [hB1] at hcv
  go_upto_region 11 with (go_at_call 15; refine (dirrecord_Decode.calls k _ _ _ _ _ _ _ _ _ _ _ _ HD1.out).mono ?_; rintro e w6 ⟨rfl, hb6⟩)
  have WB6 := (WB5.out).below hb6
  have HB6 := below_step HB5.out hb6
  have BK6 := blk_below BK5.out hb6
  have hxR : w.heap.size < w6.heap.size := blk_lt BK6
  have hxB : B < w6.heap.size := WB6.lt
  have BX := Lib.hid (blk_new w6 (recCells a0 a1 a2 a3 a4 a5 a6 a7) 23)
  have WB7 := Lib.hid (WB6.alloc (.cells (recCells a0 a1 a2 a3 a4 a5 a6 a7) 23))
  have HB7 := Lib.hid (below_alloc HB6 (.cells (recCells a0 a1 a2 a3 a4 a5 a6 a7) 23))
  have BK7 := Lib.hid (blk_alloc BK6 (.cells (recCells a0 a1 a2 a3 a4 a5 a6 a7) 23))
  clear WB5 HB5 BK5 WB6 HB6 BK6 hb6 hcv
  generalize w6.alloc (.cells (recCells a0 a1 a2 a3 a4 a5 a6 a7) 23) = w7 at BX WB7 HB7 BK7 ⊢
  generalize w6.heap.size = X at BX hxR hxB ⊢
  have hcv := (WB7.out).conv S.size cap (by rw [List.length_set, hyl])
  rw [hB1] at hcv
  have q0 : w7.cell? ⟨w.heap.size, 0, none⟩ = some (.string a0) := (blk_cell BK7.out 0).trans rfl
  have q1 : w7.cell? ⟨w.heap.size, 1, none⟩ = some (.int .i64 a1) := (blk_cell BK7.out 1).trans rfl
  have q2 : w7.cell? ⟨w.heap.size, 2, none⟩ = some (.int .i64 a2) := (blk_cell BK7.out 2).trans rfl
  have q3 : w7.cell? ⟨w.heap.size, 3, none⟩ = some (.int .i64 a3) := (blk_cell BK7.out 3).trans rfl
  have q4 : w7.cell? ⟨w.heap.size, 4, none⟩ = some (.int .i64 a4) := (blk_cell BK7.out 4).trans rfl
  have q5 : w7.cell? ⟨w.heap.size, 5, none⟩ = some (.int .i64 a5) := (blk_cell BK7.out 5).trans rfl
  have q6 : w7.cell? ⟨w.heap.size, 6, none⟩ = some (.int .i64 a6) := (blk_cell BK7.out 6).trans rfl
  have q7 : w7.cell? ⟨w.heap.size, 7, none⟩ = some (.string a7) := (blk_cell BK7.out 7).trans rfl
  have p0 : w7.cell? ⟨X, 0, none⟩ = some (.string a0) := (blk_cell BX.out 0).trans rfl
  have p1 : w7.cell? ⟨X, 1, none⟩ = some (.int .i64 a1) := (blk_cell BX.out 1).trans rfl
  have p2 : w7.cell? ⟨X, 2, none⟩ = some (.int .i64 a2) := (blk_cell BX.out 2).trans rfl
  have p3 : w7.cell? ⟨X, 3, none⟩ = some (.int .i64 a3) := (blk_cell BX.out 3).trans rfl
  have p4 : w7.cell? ⟨X, 4, none⟩ = some (.int .i64 a4) := (blk_cell BX.out 4).trans rfl
  have p5 : w7.cell? ⟨X, 5, none⟩ = some (.int .i64 a5) := (blk_cell BX.out 5).trans rfl
  have p6 : w7.cell? ⟨X, 6, none⟩ = some (.int .i64 a6) := (blk_cell BX.out 6).trans rfl
  have p7 : w7.cell? ⟨X, 7, none⟩ = some (.string a7) := (blk_cell BX.out 7).trans rfl
  go_upto_region 13 with (first
    | (go_at_call 18; refine (dirrecord_Differ.calls k _ _ _ HF1.out).mono ?_; rintro e w8 ⟨v8, rfl, hR8, hb8⟩; obtain ⟨A8, c8, rfl⟩ := Kd.R_slice hR8)
    | (go_at_call 17; refine (slices_Equal_int_int.calls k A8 c8 [28] _ _ [28] true _ (Kd.C_alloc (Kd.R_reads' hR8).2.2 _) (Kd.R_reads' hR8).2.1 (C_one (by go_simp)) (by decide) HQ.out).mono ?_; rintro e w9 ⟨rfl, nd, rfl⟩))
  have HB10 := Lib.hid (pw_below_drewN (below_alloc (below_step HB7.out hb8) (.cells #[.int .i64 28] 3)) nd)
  have BX10 := Lib.hid (blk_drewN (blk_alloc (blk_below BX.out hb8) (.cells #[.int .i64 28] 3)) nd)
  have BK10 := Lib.hid (blk_drewN (blk_alloc (blk_below BK7.out hb8) (.cells #[.int .i64 28] 3)) nd)
  clear WB7 HB7 BK7 BX hb8 hR8 hcv q0 q1 q2 q3 q4 q5 q6 q7 p0 p1 p2 p3 p4 p5 p6 p7
  generalize (w8.alloc (.cells #[.int .i64 28] 3)).drewN nd = w10 at HB10 BX10 BK10 ⊢
  have hcv := Lib.run_convert_string_bytes (P := Try.prog) w10 9 37 5 S Try.underlying9 Try.underlying37 Try.underlying5
  go_upto_region 14 with fail
  have WC := Row.new w10 S
  have HB11 : Below w.heap.size w (Lib.bytesWorld w10 5 S) := below_bytes S HB10.out
  have BK11 : (Lib.bytesWorld w10 5 S).heap[w.heap.size]? = some (.cells (recCells a0 a1 a2 a3 a4 a5 a6 a7) 23 (0, 0)) := (Lib.bytesWorld_at_old w10 5 S _ (blk_lt BK10.out)).trans BK10.out
  have BX11 : (Lib.bytesWorld w10 5 S).heap[X]? = some (.cells (recCells a0 a1 a2 a3 a4 a5 a6 a7) 23 (0, 0)) := (Lib.bytesWorld_at_old w10 5 S _ (blk_lt BX10.out)).trans BX10.out
  have hCR : w.heap.size < w10.heap.size := blk_lt BK10.out
  have hCX : X < w10.heap.size := blk_lt BX10.out
  generalize Lib.bytesWorld w10 5 S = w11 at WC HB11 BK11 BX11 ⊢
  generalize grownCap w10 S.size 0 5 = cap2
  generalize w10.heap.size = C at WC hCR hCX ⊢
  clear hcv HB10 BX10 BK10 gi gb
  have gi : IntKind.i64.wrap (28 + (kn : Int)) = ((28 + kn : Nat) : Int) := by rw [IntKind.wrap_i64]; push_cast; omega
  have gc := WC.cell (28 + kn) (by omega)
  have gf := WC.frozen (28 + kn) (by omega)
  have gb : ((28 + kn : Nat) : Int) < (S.size : Int) := by omega
  go_upto_region 15 with fail
  have WC12 := Lib.hid (WC.set (28 + kn) (by omega) (bits .xor .u8 ((bytesOf S)[28 + kn]?.getD 0) x3))
  have HB12 := Lib.hid (below_set (g := C) (j := 28 + kn) (v := .int .u8 (bits .xor .u8 ((bytesOf S)[28 + kn]?.getD 0) x3)) HB11 (by omega))
  have BK12 := Lib.hid (blk_far (p := ⟨C, 28 + kn, none⟩) BK11 (show w.heap.size ≠ C by omega) (.int .u8 (bits .xor .u8 ((bytesOf S)[28 + kn]?.getD 0) x3)))
  have BX12 := Lib.hid (blk_far (p := ⟨C, 28 + kn, none⟩) BX11 (show X ≠ C by omega) (.int .u8 (bits .xor .u8 ((bytesOf S)[28 + kn]?.getD 0) x3)))
  generalize w11.setCell ⟨C, 28 + kn, none⟩ (.int .u8 (bits .xor .u8 ((bytesOf S)[28 + kn]?.getD 0) x3)) = w12 at WC12 HB12 BK12 BX12 ⊢
  clear WC HB11 BK11 BX11 gc gf gi gb
  have hcv := (WC12.out).conv S.size cap2 (by rw [List.length_set, hyl])
  rw [hB2] at hcv
  go_wp2_with fail
  refine (dirrecord_Decode.calls k _ _ _ _ _ _ _ _ _ _ _ _ HD2.out).mono ?_
  rintro e w13 ⟨rfl, hb13⟩
  have WC13 := Lib.hid ((WC12.out).below hb13)
  have HB13 := Lib.hid (below_step HB12.out hb13)
  have BK13 := Lib.hid (blk_below BK12.out hb13)
  have BX13 := Lib.hid (blk_below BX12.out hb13)
  clear WC12 HB12 BK12 BX12 hb13 hcv
  have q0 : w13.cell? ⟨w.heap.size, 0, none⟩ = some (.string a0) := (blk_cell BK13.out 0).trans rfl
  have q1 : w13.cell? ⟨w.heap.size, 1, none⟩ = some (.int .i64 a1) := (blk_cell BK13.out 1).trans rfl
  have q2 : w13.cell? ⟨w.heap.size, 2, none⟩ = some (.int .i64 a2) := (blk_cell BK13.out 2).trans rfl
  have q3 : w13.cell? ⟨w.heap.size, 3, none⟩ = some (.int .i64 a3) := (blk_cell BK13.out 3).trans rfl
  have q4 : w13.cell? ⟨w.heap.size, 4, none⟩ = some (.int .i64 a4) := (blk_cell BK13.out 4).trans rfl
  have q5 : w13.cell? ⟨w.heap.size, 5, none⟩ = some (.int .i64 a5) := (blk_cell BK13.out 5).trans rfl
  have q6 : w13.cell? ⟨w.heap.size, 6, none⟩ = some (.int .i64 a6) := (blk_cell BK13.out 6).trans rfl
  have q7 : w13.cell? ⟨w.heap.size, 7, none⟩ = some (.string a7) := (blk_cell BK13.out 7).trans rfl
  have p0 : w13.cell? ⟨X, 0, none⟩ = some (.string a0) := (blk_cell BX13.out 0).trans rfl
  have p1 : w13.cell? ⟨X, 1, none⟩ = some (.int .i64 a1) := (blk_cell BX13.out 1).trans rfl
  have p2 : w13.cell? ⟨X, 2, none⟩ = some (.int .i64 a2) := (blk_cell BX13.out 2).trans rfl
  have p3 : w13.cell? ⟨X, 3, none⟩ = some (.int .i64 a3) := (blk_cell BX13.out 3).trans rfl
  have p4 : w13.cell? ⟨X, 4, none⟩ = some (.int .i64 a4) := (blk_cell BX13.out 4).trans rfl
  have p5 : w13.cell? ⟨X, 5, none⟩ = some (.int .i64 a5) := (blk_cell BX13.out 5).trans rfl
  have p6 : w13.cell? ⟨X, 6, none⟩ = some (.int .i64 a6) := (blk_cell BX13.out 6).trans rfl
  have p7 : w13.cell? ⟨X, 7, none⟩ = some (.string a7) := (blk_cell BX13.out 7).trans rfl
  have f0 := blk_frozen BX13.out 0
  have f1 := blk_frozen BX13.out 1
  have f2 := blk_frozen BX13.out 2
  have f3 := blk_frozen BX13.out 3
  have f4 := blk_frozen BX13.out 4
  have f5 := blk_frozen BX13.out 5
  have f6 := blk_frozen BX13.out 6
  have f7 := blk_frozen BX13.out 7
  go_upto_region 16 with fail
  have BX14 := Lib.hid (blk_put8 BX13.out (.string a0) (.int .i64 a1) (.int .i64 a2) (.int .i64 a3) (.int .i64 a4) (.int .i64 a5) (.int .i64 b) (.string a7))
  have BK14 := Lib.hid ((heap_put8 w13 (show w.heap.size ≠ X by omega) (.string a0) (.int .i64 a1) (.int .i64 a2) (.int .i64 a3) (.int .i64 a4) (.int .i64 a5) (.int .i64 b) (.string a7)).trans BK13.out)
  have WC14 := Lib.hid ((WC13.out).same (heap_put8 w13 (show C ≠ X by omega) (.string a0) (.int .i64 a1) (.int .i64 a2) (.int .i64 a3) (.int .i64 a4) (.int .i64 a5) (.int .i64 b) (.string a7)))
  have HB14 := Lib.hid (below_put8 HB13.out (show w.heap.size ≤ X by omega) (.string a0) (.int .i64 a1) (.int .i64 a2) (.int .i64 a3) (.int .i64 a4) (.int .i64 a5) (.int .i64 b) (.string a7))
  generalize ((((((((w13.setCell ⟨X, 0, none⟩ (.string a0)).setCell ⟨X, 1, none⟩ (.int .i64 a1)).setCell ⟨X, 2, none⟩ (.int .i64 a2)).setCell ⟨X, 3, none⟩ (.int .i64 a3)).setCell ⟨X, 4, none⟩ (.int .i64 a4)).setCell ⟨X, 5, none⟩ (.int .i64 a5)).setCell ⟨X, 6, none⟩ (.int .i64 b)).setCell ⟨X, 7, none⟩ (.string a7)) = w14 at BX14 BK14 WC14 HB14 ⊢
  clear BX13 BK13 WC13 HB13 q0 q1 q2 q3 q4 q5 q6 q7 p0 p1 p2 p3 p4 p5 p6 p7 f0 f1 f2 f3 f4 f5 f6 f7
  have q0 : w14.cell? ⟨w.heap.size, 0, none⟩ = some (.string a0) := (blk_cell BK14.out 0).trans rfl
  have q1 : w14.cell? ⟨w.heap.size, 1, none⟩ = some (.int .i64 a1) := (blk_cell BK14.out 1).trans rfl
  have q2 : w14.cell? ⟨w.heap.size, 2, none⟩ = some (.int .i64 a2) := (blk_cell BK14.out 2).trans rfl
  have q3 : w14.cell? ⟨w.heap.size, 3, none⟩ = some (.int .i64 a3) := (blk_cell BK14.out 3).trans rfl
  have q4 : w14.cell? ⟨w.heap.size, 4, none⟩ = some (.int .i64 a4) := (blk_cell BK14.out 4).trans rfl
  have q5 : w14.cell? ⟨w.heap.size, 5, none⟩ = some (.int .i64 a5) := (blk_cell BK14.out 5).trans rfl
  have q6 : w14.cell? ⟨w.heap.size, 6, none⟩ = some (.int .i64 a6) := (blk_cell BK14.out 6).trans rfl
  have q7 : w14.cell? ⟨w.heap.size, 7, none⟩ = some (.string a7) := (blk_cell BK14.out 7).trans rfl
  go_upto_region 18 with fail
  have BV15 := Lib.hid (blk_alloc (blk_new w14 (recCells a0 a1 a2 a3 a4 a5 a6 a7) 23) (.cells #[.pointer (some ⟨w14.heap.size, 1, none⟩), .pointer (some ⟨w14.heap.size, 2, none⟩), .pointer (some ⟨w14.heap.size, 6, none⟩)] 38))
  have BX15 := Lib.hid (blk_alloc (blk_alloc BX14.out (.cells (recCells a0 a1 a2 a3 a4 a5 a6 a7) 23)) (.cells #[.pointer (some ⟨w14.heap.size, 1, none⟩), .pointer (some ⟨w14.heap.size, 2, none⟩), .pointer (some ⟨w14.heap.size, 6, none⟩)] 38))
  have WC15 := Lib.hid (((WC14.out).alloc (.cells (recCells a0 a1 a2 a3 a4 a5 a6 a7) 23)).alloc (.cells #[.pointer (some ⟨w14.heap.size, 1, none⟩), .pointer (some ⟨w14.heap.size, 2, none⟩), .pointer (some ⟨w14.heap.size, 6, none⟩)] 38))
  have HB15 := Lib.hid (below_alloc (below_alloc HB14.out (.cells (recCells a0 a1 a2 a3 a4 a5 a6 a7) 23)) (.cells #[.pointer (some ⟨w14.heap.size, 1, none⟩), .pointer (some ⟨w14.heap.size, 2, none⟩), .pointer (some ⟨w14.heap.size, 6, none⟩)] 38))
  have hVX : X < w14.heap.size := blk_lt BX14.out
  have hVC : C < w14.heap.size := (WC14.out).lt
  have hVR : w.heap.size < w14.heap.size := blk_lt BK14.out
  generalize (w14.alloc (.cells (recCells a0 a1 a2 a3 a4 a5 a6 a7) 23)).alloc (.cells #[.pointer (some ⟨w14.heap.size, 1, none⟩), .pointer (some ⟨w14.heap.size, 2, none⟩), .pointer (some ⟨w14.heap.size, 6, none⟩)] 38) = w15 at BV15 BX15 WC15 HB15 ⊢
  generalize w14.heap.size = V at BV15 hVX hVC hVR ⊢
  clear BX14 BK14 WC14 HB14 q0 q1 q2 q3 q4 q5 q6 q7
  have q0 : w15.cell? ⟨V, 0, none⟩ = some (.string a0) := (blk_cell BV15.out 0).trans rfl
  have q1 : w15.cell? ⟨V, 1, none⟩ = some (.int .i64 a1) := (blk_cell BV15.out 1).trans rfl
  have q2 : w15.cell? ⟨V, 2, none⟩ = some (.int .i64 a2) := (blk_cell BV15.out 2).trans rfl
  have q3 : w15.cell? ⟨V, 3, none⟩ = some (.int .i64 a3) := (blk_cell BV15.out 3).trans rfl
  have q4 : w15.cell? ⟨V, 4, none⟩ = some (.int .i64 a4) := (blk_cell BV15.out 4).trans rfl
  have q5 : w15.cell? ⟨V, 5, none⟩ = some (.int .i64 a5) := (blk_cell BV15.out 5).trans rfl
  have q6 : w15.cell? ⟨V, 6, none⟩ = some (.int .i64 a6) := (blk_cell BV15.out 6).trans rfl
  have q7 : w15.cell? ⟨V, 7, none⟩ = some (.string a7) := (blk_cell BV15.out 7).trans rfl
  have f1 := blk_frozen BV15.out 6
  have g8 : IntKind.i64.wrap (8 * (kn : Int)) = ((8 * kn : Nat) : Int) := by rw [IntKind.wrap_i64]; push_cast; omega
  have g9 : ¬ ((8 * kn : Nat) : Int) < 0 := by omega
  go_cut [] from 20 (fun wx => wx = (w15.setCell ⟨V, 6, none⟩ (.int .i64 b)).drew)
  case first =>
    go_region
    all_goals (go_wp2_with fail; go_meet)
    all_goals (case rel => exact rfl)
  case rest =>
  subst hcut
  have BV16 := Lib.hid (blk_drew (blk_put BV15.out 6 (.int .i64 b) (cs' := #[.string a0, .int .i64 a1, .int .i64 a2, .int .i64 a3, .int .i64 a4, .int .i64 a5, .int .i64 b, .string a7]) rfl))
  have BX16 := Lib.hid (blk_drew (blk_far (p := ⟨V, 6, none⟩) BX15.out (show X ≠ V by omega) (.int .i64 b)))
  have WC16 := Lib.hid (((WC15.out).other (show C ≠ V by omega) 6 (.int .i64 b)).same (W' := (w15.setCell ⟨V, 6, none⟩ (.int .i64 b)).drew) rfl)
  have HB16 := Lib.hid (below_drew1 (below_set (g := V) (j := 6) (v := .int .i64 b) HB15.out (by omega)))
  generalize (w15.setCell ⟨V, 6, none⟩ (.int .i64 b)).drew = w16 at BV16 BX16 WC16 HB16 ⊢
  clear BV15 BX15 WC15 HB15 q0 q1 q2 q3 q4 q5 q6 q7 f1 g8 g9
  have hcv := (WC16.out).conv S.size cap2 (by rw [List.length_set, hyl])
  rw [hB2] at hcv
  have q0 : w16.cell? ⟨V, 0, none⟩ = some (.string a0) := (blk_cell BV16.out 0).trans rfl
  have q1 : w16.cell? ⟨V, 1, none⟩ = some (.int .i64 a1) := (blk_cell BV16.out 1).trans rfl
  have q2 : w16.cell? ⟨V, 2, none⟩ = some (.int .i64 a2) := (blk_cell BV16.out 2).trans rfl
  have q3 : w16.cell? ⟨V, 3, none⟩ = some (.int .i64 a3) := (blk_cell BV16.out 3).trans rfl
  have q4 : w16.cell? ⟨V, 4, none⟩ = some (.int .i64 a4) := (blk_cell BV16.out 4).trans rfl
  have q5 : w16.cell? ⟨V, 5, none⟩ = some (.int .i64 a5) := (blk_cell BV16.out 5).trans rfl
  have q6 : w16.cell? ⟨V, 6, none⟩ = some (.int .i64 b) := (blk_cell BV16.out 6).trans rfl
  have q7 : w16.cell? ⟨V, 7, none⟩ = some (.string a7) := (blk_cell BV16.out 7).trans rfl
  have p0 : w16.cell? ⟨X, 0, none⟩ = some (.string a0) := (blk_cell BX16.out 0).trans rfl
  have p1 : w16.cell? ⟨X, 1, none⟩ = some (.int .i64 a1) := (blk_cell BX16.out 1).trans rfl
  have p2 : w16.cell? ⟨X, 2, none⟩ = some (.int .i64 a2) := (blk_cell BX16.out 2).trans rfl
  have p3 : w16.cell? ⟨X, 3, none⟩ = some (.int .i64 a3) := (blk_cell BX16.out 3).trans rfl
  have p4 : w16.cell? ⟨X, 4, none⟩ = some (.int .i64 a4) := (blk_cell BX16.out 4).trans rfl
  have p5 : w16.cell? ⟨X, 5, none⟩ = some (.int .i64 a5) := (blk_cell BX16.out 5).trans rfl
  have p6 : w16.cell? ⟨X, 6, none⟩ = some (.int .i64 b) := (blk_cell BX16.out 6).trans rfl
  have p7 : w16.cell? ⟨X, 7, none⟩ = some (.string a7) := (blk_cell BX16.out 7).trans rfl
  go_wp2_with (first
    | (go_at_call 18; refine (dirrecord_Differ.calls k _ _ _ HF2.out).mono ?_; rintro e w17 ⟨v17, rfl, hR17, hb17⟩; obtain ⟨A17, c17, rfl⟩ := Kd.R_slice hR17)
    | (go_at_call 17; refine (slices_Equal_int_int.calls k A17 c17 [28] _ _ [28] true _ (Kd.C_alloc (Kd.R_reads' hR17).2.2 _) (Kd.R_reads' hR17).2.1 (C_one (by go_simp)) (by decide) HQ.out).mono ?_; rintro e w18 ⟨rfl, nd2, rfl⟩))
  go_ret
  exact ⟨rfl, pw_below_drewN (below_alloc (below_step HB16.out hb17) (.cells #[.int .i64 28] 3)) nd2⟩

end Go.Proofs.Ytagnefbgclpccaa.H
