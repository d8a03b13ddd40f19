import Derived.Test.YtagnefbgclpccaaH2c
import Derived.Lib.Strings
import Derived.Test.YtagnefbgclpccaaAx2
import Derived.Test.YtagnefbgclpccaaAx3
namespace Go.Proofs.Ytagnefbgclpccaa.H
open Go.RowKit Go.Proofs.YtagnefbgclpccaaW.PrintWords Go.Proofs.YtagnefbgclpccaaW.PrintLast Go.Proofs.Ytagnefbgclpccaa.A
set_option linter.unusedVariables false

/-- The byte that a number is turned to. -/
def bz (x : Int) : UInt8 := UInt8.ofNat (x % 256).toNat
theorem bz_toNat (x : Int) : ((bz x).toNat : Int) = x % 256 := by
  unfold bz
  have h0 : 0 ≤ x % 256 := by omega
  have h1 : x % 256 < 256 := by omega
  simp
  omega

abbrev recCells (a0 : ByteArray) (a1 a2 a3 a4 a5 a6 : Int) (a7 : ByteArray) : Array Value := #[.string a0, .int .i64 a1, .int .i64 a2, .int .i64 a3, .int .i64 a4, .int .i64 a5, .int .i64 a6, .string a7]

theorem str_empty_ne {a0 : ByteArray} (h : a0.size ≠ 0) : a0.toList.isEmpty = false := by
  cases h1 : a0.toList.isEmpty
  · rfl
  · rw [Lib.toList_data] at h1
    have h2 := congrArg List.length (List.isEmpty_iff.1 h1)
    exact absurd (by simpa using h2) h
theorem str_empty_eq {a0 : ByteArray} (h : a0.size = 0) : a0.toList.isEmpty = true := by
  rw [Lib.toList_data, List.isEmpty_iff]
  exact List.eq_nil_of_length_eq_zero (by simpa using h)

/-- The bytes of a directory record; t: what stands behind the identifier. -/
def encL (size : Int) (s1 s2 d : ByteArray) (a5 : Int) (s3 a0 : ByteArray) (t : List UInt8) : List UInt8 :=
  bz size :: 0 :: (s1.data.toList ++ (s2.data.toList ++ (d.data.toList ++ bz a5 :: 0 :: 0 :: (s3.data.toList ++ bz a0.size :: (a0.data.toList ++ t)))))

set_option maxRecDepth 100000 in
set_option maxHeartbeats 8000000 in
theorem encode_noid (k : Nat) (a0 : ByteArray) (a1 a2 a3 a4 a5 a6 : Int) (a7 : ByteArray) (w : World) (hne : a0.toList.isEmpty = true) :
    Calls Try.prog 11 #[.agg (recCells a0 a1 a2 a3 a4 a5 a6 a7)] w fun ev w' => ev = .returned (.tuple #[.string ⟨#[]⟩, .int .i64 1]) ∧ Below w.heap.size w w' := by
  have hu23 := Try.underlying23
  go_enter Try.func11, Try.ntmps11
  go_wp2
  go_ret2
  exact ⟨rfl, (Below.refl _ _).alloc (Nat.le_refl _) _⟩

set_option maxRecDepth 100000 in
set_option maxHeartbeats 8000000 in
theorem encode_odd (k : Nat) (a0 : ByteArray) (a1 a2 a3 a4 a5 a6 : Int) (a7 : ByteArray) (w : World) (hne : a0.toList.isEmpty = false) (hev : ((a7.size : Int) % 2 != 0) = true) (z7 : a7.size ≤ 9223372036854775807) :
    Calls Try.prog 11 #[.agg (recCells a0 a1 a2 a3 a4 a5 a6 a7)] w fun ev w' => ev = .returned (.tuple #[.string ⟨#[]⟩, .int .i64 1]) ∧ Below w.heap.size w w' := by
  have hu23 := Try.underlying23
  go_enter Try.func11, Try.ntmps11
  go_wp2
  go_ret2
  exact ⟨rfl, (Below.refl _ _).alloc (Nat.le_refl _) _⟩

set_option maxRecDepth 100000 in
set_option maxHeartbeats 8000000 in
theorem encode_large (k : Nat) (a0 : ByteArray) (a1 a2 a3 a4 a5 a6 : Int) (a7 : ByteArray) (w : World) (hne : a0.toList.isEmpty = false) (hev : ((a7.size : Int) % 2 != 0) = false) (z7 : a7.size ≤ 9223372036854775807) (hsz : dirrecord_Size.f k a0.size a7.size = some 0) :
    Calls Try.prog 11 #[.agg (recCells a0 a1 a2 a3 a4 a5 a6 a7)] w fun ev w' => ev = .returned (.tuple #[.string ⟨#[]⟩, .int .i64 7]) ∧ Below w.heap.size w w' := by
  have HS := Lib.hid hsz
  clear hsz
  have hu23 := Try.underlying23
  go_enter Try.func11, Try.ntmps11
  go_wp2_with (go_at_call 13; refine (dirrecord_Size.calls k _ _ _ _ HS.out).mono ?_; rintro ev w' ⟨rfl, ⟨nd, rfl⟩⟩)
  go_ret2
  exact ⟨rfl, below_drewN ((Below.refl _ _).alloc (Nat.le_refl _) _) _⟩

set_option maxRecDepth 100000 in
set_option maxHeartbeats 8000000 in
theorem encode_wrong (k : Nat) (a0 : ByteArray) (a1 a2 a3 a4 a5 a6 : Int) (a7 : ByteArray) (size : Int) (d : ByteArray) (e e1 e2 e3 : Int) (s1 s2 s3 : ByteArray) (w : World)
    (hne : a0.toList.isEmpty = false) (hev : ((a7.size : Int) % 2 != 0) = false) (hsz : dirrecord_Size.f k a0.size a7.size = some size) (hs0 : (size == 0) = false)
    (hd : datetime_Record.f k a3 a4 = some (d, e)) (hb1 : endian_Both.f a1 4 = some (s1, e1)) (hb2 : endian_Both.f a2 4 = some (s2, e2)) (hb3 : endian_Both.f a6 2 = some (s3, e3))
    (z0 : a0.size ≤ 1000) (z7 : a7.size ≤ 1000) (zd : d.size ≤ 1000) (z1 : s1.size ≤ 1000) (z2 : s2.size ≤ 1000) (z3 : s3.size ≤ 1000) (hw : (ee (ee (ee e e1) e2) e3 != 0) = true) :
    Calls Try.prog 11 #[.agg (recCells a0 a1 a2 a3 a4 a5 a6 a7)] w fun ev w' => ev = .returned (.tuple #[.string ⟨#[]⟩, .int .i64 2]) ∧ Below w.heap.size w w' := by
  have HS := Lib.hid hsz
  have HD := Lib.hid hd
  have H1 := Lib.hid hb1
  have H2 := Lib.hid hb2
  have H3 := Lib.hid hb3
  clear hsz hd hb1 hb2 hb3
  have hu23 := Try.underlying23
  go_enter Try.func11, Try.ntmps11
  go_wp2_with (first | (go_at_call 13; refine (dirrecord_Size.calls k _ _ _ _ HS.out).mono ?_; rintro ev w' ⟨rfl, ⟨nd, rfl⟩⟩) | (go_at_call 21; refine (datetime_Record.calls k _ _ _ _ _ HD.out).mono ?_; rintro ev w1 ⟨rfl, hb⟩))
  have hE := Enc.start _ e w w1 nd (by simpa [World.drewN] using hb)
  refine (enc_wn hE [bz size, 0] 2 rfl _ _ (by simp) _ (by simp [Lib.byteCells, bz_toNat]) (by omega) (by simp)).mono ?_
  rintro ev w2 ⟨rfl, hE2⟩
  clear hE hb
  have r0 := hE2.cellR 1
  have r1 := hE2.cellR 2
  go_wp2_with fail
  refine (enc1_4 (hE2.alloc _) _ a1 4 a2 4 e1 e2 s1 s2 (blk_new _ _ _) (by have := hE2.ltb; omega) (by have := hE2.ltW; omega) H1.out z1 H2.out z2 (by simp)).mono ?_
  rintro ev w3 ⟨rfl, hE3⟩
  clear hE2 r0 r1
  go_wp2_with fail
  refine (enc_ws hE3 d (by simp; omega)).mono ?_
  rintro ev w4 ⟨rfl, hE4, _⟩
  clear hE3
  have r0 := hE4.cellR 5
  go_wp2_with fail
  refine (enc_wn hE4 [bz a5, 0, 0] 3 rfl _ _ (by simp) _ (by simp [Lib.byteCells, bz_toNat]) (by have := hE4.ltb; omega) (by simp; omega)).mono ?_
  rintro ev w5 ⟨rfl, hE5⟩
  clear hE4 r0
  have r0 := hE5.cellR 6
  go_wp2_with fail
  refine (enc1_2 (hE5.alloc _) _ a6 2 e3 s3 (blk_new _ _ _) (by have := hE5.ltb; omega) (by have := hE5.ltW; omega) H3.out z3 (by simp; omega)).mono ?_
  rintro ev w6 ⟨rfl, hE6⟩
  clear hE5 r0
  have q0 := hE6.cellW
  have q1 := hE6.cellR 5
  have q2 := hE6.cellR 0
  go_wp2
  go_ret2
  exact ⟨rfl, hE6.be⟩

set_option maxRecDepth 100000 in
set_option maxHeartbeats 8000000 in
theorem encode_neg (k : Nat) (a0 : ByteArray) (a1 a2 a3 a4 a5 a6 : Int) (a7 : ByteArray) (size : Int) (d : ByteArray) (e e1 e2 e3 : Int) (s1 s2 s3 : ByteArray) (w : World)
    (hne : a0.toList.isEmpty = false) (hev : ((a7.size : Int) % 2 != 0) = false) (hsz : dirrecord_Size.f k a0.size a7.size = some size) (hs0 : (size == 0) = false)
    (hd : datetime_Record.f k a3 a4 = some (d, e)) (hb1 : endian_Both.f a1 4 = some (s1, e1)) (hb2 : endian_Both.f a2 4 = some (s2, e2)) (hb3 : endian_Both.f a6 2 = some (s3, e3))
    (z0 : a0.size ≤ 1000) (z7 : a7.size ≤ 1000) (zd : d.size ≤ 1000) (z1 : s1.size ≤ 1000) (z2 : s2.size ≤ 1000) (z3 : s3.size ≤ 1000) (hw : (ee (ee (ee e e1) e2) e3 != 0) = false) (hf : decide (a5 < 0) = true) :
    Calls Try.prog 11 #[.agg (recCells a0 a1 a2 a3 a4 a5 a6 a7)] w fun ev w' => ev = .returned (.tuple #[.string ⟨#[]⟩, .int .i64 2]) ∧ Below w.heap.size w w' := by
  have HS := Lib.hid hsz
  have HD := Lib.hid hd
  have H1 := Lib.hid hb1
  have H2 := Lib.hid hb2
  have H3 := Lib.hid hb3
  clear hsz hd hb1 hb2 hb3
  have hu23 := Try.underlying23
  go_enter Try.func11, Try.ntmps11
  go_wp2_with (first | (go_at_call 13; refine (dirrecord_Size.calls k _ _ _ _ HS.out).mono ?_; rintro ev w' ⟨rfl, ⟨nd, rfl⟩⟩) | (go_at_call 21; refine (datetime_Record.calls k _ _ _ _ _ HD.out).mono ?_; rintro ev w1 ⟨rfl, hb⟩))
  have hE := Enc.start _ e w w1 nd (by simpa [World.drewN] using hb)
  refine (enc_wn hE [bz size, 0] 2 rfl _ _ (by simp) _ (by simp [Lib.byteCells, bz_toNat]) (by omega) (by simp)).mono ?_
  rintro ev w2 ⟨rfl, hE2⟩
  clear hE hb
  have r0 := hE2.cellR 1
  have r1 := hE2.cellR 2
  go_wp2_with fail
  refine (enc1_4 (hE2.alloc _) _ a1 4 a2 4 e1 e2 s1 s2 (blk_new _ _ _) (by have := hE2.ltb; omega) (by have := hE2.ltW; omega) H1.out z1 H2.out z2 (by simp)).mono ?_
  rintro ev w3 ⟨rfl, hE3⟩
  clear hE2 r0 r1
  go_wp2_with fail
  refine (enc_ws hE3 d (by simp; omega)).mono ?_
  rintro ev w4 ⟨rfl, hE4, _⟩
  clear hE3
  have r0 := hE4.cellR 5
  go_wp2_with fail
  refine (enc_wn hE4 [bz a5, 0, 0] 3 rfl _ _ (by simp) _ (by simp [Lib.byteCells, bz_toNat]) (by have := hE4.ltb; omega) (by simp; omega)).mono ?_
  rintro ev w5 ⟨rfl, hE5⟩
  clear hE4 r0
  have r0 := hE5.cellR 6
  go_wp2_with fail
  refine (enc1_2 (hE5.alloc _) _ a6 2 e3 s3 (blk_new _ _ _) (by have := hE5.ltb; omega) (by have := hE5.ltW; omega) H3.out z3 (by simp; omega)).mono ?_
  rintro ev w6 ⟨rfl, hE6⟩
  clear hE5 r0
  have q0 := hE6.cellW
  have q1 := hE6.cellR 5
  have q2 := hE6.cellR 0
  go_wp2
  go_ret2
  exact ⟨rfl, hE6.be⟩

set_option maxRecDepth 100000 in
set_option maxHeartbeats 8000000 in
theorem encode_big (k : Nat) (a0 : ByteArray) (a1 a2 a3 a4 a5 a6 : Int) (a7 : ByteArray) (size : Int) (d : ByteArray) (e e1 e2 e3 : Int) (s1 s2 s3 : ByteArray) (w : World)
    (hne : a0.toList.isEmpty = false) (hev : ((a7.size : Int) % 2 != 0) = false) (hsz : dirrecord_Size.f k a0.size a7.size = some size) (hs0 : (size == 0) = false)
    (hd : datetime_Record.f k a3 a4 = some (d, e)) (hb1 : endian_Both.f a1 4 = some (s1, e1)) (hb2 : endian_Both.f a2 4 = some (s2, e2)) (hb3 : endian_Both.f a6 2 = some (s3, e3))
    (z0 : a0.size ≤ 1000) (z7 : a7.size ≤ 1000) (zd : d.size ≤ 1000) (z1 : s1.size ≤ 1000) (z2 : s2.size ≤ 1000) (z3 : s3.size ≤ 1000) (hw : (ee (ee (ee e e1) e2) e3 != 0) = false) (hf : decide (a5 < 0) = false) (hg : decide (255 < a5) = true) :
    Calls Try.prog 11 #[.agg (recCells a0 a1 a2 a3 a4 a5 a6 a7)] w fun ev w' => ev = .returned (.tuple #[.string ⟨#[]⟩, .int .i64 2]) ∧ Below w.heap.size w w' := by
  have HS := Lib.hid hsz
  have HD := Lib.hid hd
  have H1 := Lib.hid hb1
  have H2 := Lib.hid hb2
  have H3 := Lib.hid hb3
  clear hsz hd hb1 hb2 hb3
  have hu23 := Try.underlying23
  go_enter Try.func11, Try.ntmps11
  go_wp2_with (first | (go_at_call 13; refine (dirrecord_Size.calls k _ _ _ _ HS.out).mono ?_; rintro ev w' ⟨rfl, ⟨nd, rfl⟩⟩) | (go_at_call 21; refine (datetime_Record.calls k _ _ _ _ _ HD.out).mono ?_; rintro ev w1 ⟨rfl, hb⟩))
  have hE := Enc.start _ e w w1 nd (by simpa [World.drewN] using hb)
  refine (enc_wn hE [bz size, 0] 2 rfl _ _ (by simp) _ (by simp [Lib.byteCells, bz_toNat]) (by omega) (by simp)).mono ?_
  rintro ev w2 ⟨rfl, hE2⟩
  clear hE hb
  have r0 := hE2.cellR 1
  have r1 := hE2.cellR 2
  go_wp2_with fail
  refine (enc1_4 (hE2.alloc _) _ a1 4 a2 4 e1 e2 s1 s2 (blk_new _ _ _) (by have := hE2.ltb; omega) (by have := hE2.ltW; omega) H1.out z1 H2.out z2 (by simp)).mono ?_
  rintro ev w3 ⟨rfl, hE3⟩
  clear hE2 r0 r1
  go_wp2_with fail
  refine (enc_ws hE3 d (by simp; omega)).mono ?_
  rintro ev w4 ⟨rfl, hE4, _⟩
  clear hE3
  have r0 := hE4.cellR 5
  go_wp2_with fail
  refine (enc_wn hE4 [bz a5, 0, 0] 3 rfl _ _ (by simp) _ (by simp [Lib.byteCells, bz_toNat]) (by have := hE4.ltb; omega) (by simp; omega)).mono ?_
  rintro ev w5 ⟨rfl, hE5⟩
  clear hE4 r0
  have r0 := hE5.cellR 6
  go_wp2_with fail
  refine (enc1_2 (hE5.alloc _) _ a6 2 e3 s3 (blk_new _ _ _) (by have := hE5.ltb; omega) (by have := hE5.ltW; omega) H3.out z3 (by simp; omega)).mono ?_
  rintro ev w6 ⟨rfl, hE6⟩
  clear hE5 r0
  have q0 := hE6.cellW
  have q1 := hE6.cellR 5
  have q2 := hE6.cellR 0
  go_wp2
  go_ret2
  exact ⟨rfl, hE6.be⟩

set_option maxRecDepth 100000 in
set_option maxHeartbeats 8000000 in
theorem encode_even (k : Nat) (a0 : ByteArray) (a1 a2 a3 a4 a5 a6 : Int) (a7 : ByteArray) (size : Int) (d : ByteArray) (e e1 e2 e3 : Int) (s1 s2 s3 : ByteArray) (w : World)
    (hne : a0.toList.isEmpty = false) (hev : ((a7.size : Int) % 2 != 0) = false) (hsz : dirrecord_Size.f k a0.size a7.size = some size) (hs0 : (size == 0) = false)
    (hd : datetime_Record.f k a3 a4 = some (d, e)) (hb1 : endian_Both.f a1 4 = some (s1, e1)) (hb2 : endian_Both.f a2 4 = some (s2, e2)) (hb3 : endian_Both.f a6 2 = some (s3, e3))
    (z0 : a0.size ≤ 1000) (z7 : a7.size ≤ 1000) (zd : d.size ≤ 1000) (z1 : s1.size ≤ 1000) (z2 : s2.size ≤ 1000) (z3 : s3.size ≤ 1000) (hw : (ee (ee (ee e e1) e2) e3 != 0) = false) (hf : decide (a5 < 0) = false) (hg : decide (255 < a5) = false) (hid : ((a0.size : Int) % 2 == 0) = true) :
    Calls Try.prog 11 #[.agg (recCells a0 a1 a2 a3 a4 a5 a6 a7)] w fun ev w' => ev = .returned (.tuple #[.string ⟨(encL size s1 s2 d a5 s3 a0 (0 :: a7.data.toList)).toArray⟩, .int .i64 0]) ∧ Below w.heap.size w w' := by
  have HS := Lib.hid hsz
  have HD := Lib.hid hd
  have H1 := Lib.hid hb1
  have H2 := Lib.hid hb2
  have H3 := Lib.hid hb3
  clear hsz hd hb1 hb2 hb3
  have hu23 := Try.underlying23
  go_enter Try.func11, Try.ntmps11
  go_wp2_with (first | (go_at_call 13; refine (dirrecord_Size.calls k _ _ _ _ HS.out).mono ?_; rintro ev w' ⟨rfl, ⟨nd, rfl⟩⟩) | (go_at_call 21; refine (datetime_Record.calls k _ _ _ _ _ HD.out).mono ?_; rintro ev w1 ⟨rfl, hb⟩))
  have hE := Enc.start _ e w w1 nd (by simpa [World.drewN] using hb)
  refine (enc_wn hE [bz size, 0] 2 rfl _ _ (by simp) _ (by simp [Lib.byteCells, bz_toNat]) (by omega) (by simp)).mono ?_
  rintro ev w2 ⟨rfl, hE2⟩
  clear hE hb
  have r0 := hE2.cellR 1
  have r1 := hE2.cellR 2
  go_wp2_with fail
  refine (enc1_4 (hE2.alloc _) _ a1 4 a2 4 e1 e2 s1 s2 (blk_new _ _ _) (by have := hE2.ltb; omega) (by have := hE2.ltW; omega) H1.out z1 H2.out z2 (by simp)).mono ?_
  rintro ev w3 ⟨rfl, hE3⟩
  clear hE2 r0 r1
  go_wp2_with fail
  refine (enc_ws hE3 d (by simp; omega)).mono ?_
  rintro ev w4 ⟨rfl, hE4, _⟩
  clear hE3
  have r0 := hE4.cellR 5
  go_wp2_with fail
  refine (enc_wn hE4 [bz a5, 0, 0] 3 rfl _ _ (by simp) _ (by simp [Lib.byteCells, bz_toNat]) (by have := hE4.ltb; omega) (by simp; omega)).mono ?_
  rintro ev w5 ⟨rfl, hE5⟩
  clear hE4 r0
  have r0 := hE5.cellR 6
  go_wp2_with fail
  refine (enc1_2 (hE5.alloc _) _ a6 2 e3 s3 (blk_new _ _ _) (by have := hE5.ltb; omega) (by have := hE5.ltW; omega) H3.out z3 (by simp; omega)).mono ?_
  rintro ev w6 ⟨rfl, hE6⟩
  clear hE5 r0
  have q0 := hE6.cellW
  have q1 := hE6.cellR 5
  have q2 := hE6.cellR 0
  go_wp2_with fail
  refine (enc_wb hE6 (bz a0.size) _ (bz_toNat _) (by simp; omega)).mono ?_
  rintro ev w7 ⟨rfl, hE7⟩
  clear hE6 q0 q1 q2
  have q0 := hE7.cellR 0
  go_wp2_with fail
  refine (enc_ws hE7 a0 (by simp; omega)).mono ?_
  rintro ev w8 ⟨rfl, hE8, _⟩
  clear hE7 q0
  have q0 := hE8.cellR 0
  have q7 := hE8.cellR 7
  go_wp2_with fail
  refine (enc_wb hE8 0 _ rfl (by simp; omega)).mono ?_
  rintro ev w9 ⟨rfl, hE9⟩
  clear hE8 q0 q7
  have q7 := hE9.cellR 7
  go_wp2_with fail
  refine (enc_ws hE9 a7 (by simp; omega)).mono ?_
  rintro ev w10 ⟨rfl, hE10, _⟩
  clear hE9 q7
  go_wp2_with fail
  refine (enc_str hE10).mono ?_
  rintro ev w11 ⟨rfl, hB⟩
  go_wp2
  go_ret2
  exact ⟨rfl, hB⟩

set_option maxRecDepth 100000 in
set_option maxHeartbeats 8000000 in
theorem encode_id (k : Nat) (a0 : ByteArray) (a1 a2 a3 a4 a5 a6 : Int) (a7 : ByteArray) (size : Int) (d : ByteArray) (e e1 e2 e3 : Int) (s1 s2 s3 : ByteArray) (w : World)
    (hne : a0.toList.isEmpty = false) (hev : ((a7.size : Int) % 2 != 0) = false) (hsz : dirrecord_Size.f k a0.size a7.size = some size) (hs0 : (size == 0) = false)
    (hd : datetime_Record.f k a3 a4 = some (d, e)) (hb1 : endian_Both.f a1 4 = some (s1, e1)) (hb2 : endian_Both.f a2 4 = some (s2, e2)) (hb3 : endian_Both.f a6 2 = some (s3, e3))
    (z0 : a0.size ≤ 1000) (z7 : a7.size ≤ 1000) (zd : d.size ≤ 1000) (z1 : s1.size ≤ 1000) (z2 : s2.size ≤ 1000) (z3 : s3.size ≤ 1000) (hw : (ee (ee (ee e e1) e2) e3 != 0) = false) (hf : decide (a5 < 0) = false) (hg : decide (255 < a5) = false) (hid : ((a0.size : Int) % 2 == 0) = false) :
    Calls Try.prog 11 #[.agg (recCells a0 a1 a2 a3 a4 a5 a6 a7)] w fun ev w' => ev = .returned (.tuple #[.string ⟨(encL size s1 s2 d a5 s3 a0 a7.data.toList).toArray⟩, .int .i64 0]) ∧ Below w.heap.size w w' := by
  have HS := Lib.hid hsz
  have HD := Lib.hid hd
  have H1 := Lib.hid hb1
  have H2 := Lib.hid hb2
  have H3 := Lib.hid hb3
  clear hsz hd hb1 hb2 hb3
  have hu23 := Try.underlying23
  go_enter Try.func11, Try.ntmps11
  go_wp2_with (first | (go_at_call 13; refine (dirrecord_Size.calls k _ _ _ _ HS.out).mono ?_; rintro ev w' ⟨rfl, ⟨nd, rfl⟩⟩) | (go_at_call 21; refine (datetime_Record.calls k _ _ _ _ _ HD.out).mono ?_; rintro ev w1 ⟨rfl, hb⟩))
  have hE := Enc.start _ e w w1 nd (by simpa [World.drewN] using hb)
  refine (enc_wn hE [bz size, 0] 2 rfl _ _ (by simp) _ (by simp [Lib.byteCells, bz_toNat]) (by omega) (by simp)).mono ?_
  rintro ev w2 ⟨rfl, hE2⟩
  clear hE hb
  have r0 := hE2.cellR 1
  have r1 := hE2.cellR 2
  go_wp2_with fail
  refine (enc1_4 (hE2.alloc _) _ a1 4 a2 4 e1 e2 s1 s2 (blk_new _ _ _) (by have := hE2.ltb; omega) (by have := hE2.ltW; omega) H1.out z1 H2.out z2 (by simp)).mono ?_
  rintro ev w3 ⟨rfl, hE3⟩
  clear hE2 r0 r1
  go_wp2_with fail
  refine (enc_ws hE3 d (by simp; omega)).mono ?_
  rintro ev w4 ⟨rfl, hE4, _⟩
  clear hE3
  have r0 := hE4.cellR 5
  go_wp2_with fail
  refine (enc_wn hE4 [bz a5, 0, 0] 3 rfl _ _ (by simp) _ (by simp [Lib.byteCells, bz_toNat]) (by have := hE4.ltb; omega) (by simp; omega)).mono ?_
  rintro ev w5 ⟨rfl, hE5⟩
  clear hE4 r0
  have r0 := hE5.cellR 6
  go_wp2_with fail
  refine (enc1_2 (hE5.alloc _) _ a6 2 e3 s3 (blk_new _ _ _) (by have := hE5.ltb; omega) (by have := hE5.ltW; omega) H3.out z3 (by simp; omega)).mono ?_
  rintro ev w6 ⟨rfl, hE6⟩
  clear hE5 r0
  have q0 := hE6.cellW
  have q1 := hE6.cellR 5
  have q2 := hE6.cellR 0
  go_wp2_with fail
  refine (enc_wb hE6 (bz a0.size) _ (bz_toNat _) (by simp; omega)).mono ?_
  rintro ev w7 ⟨rfl, hE7⟩
  clear hE6 q0 q1 q2
  have q0 := hE7.cellR 0
  go_wp2_with fail
  refine (enc_ws hE7 a0 (by simp; omega)).mono ?_
  rintro ev w8 ⟨rfl, hE8, _⟩
  clear hE7 q0
  have q0 := hE8.cellR 0
  have q7 := hE8.cellR 7
  go_wp2_with fail
  refine (enc_ws hE8 a7 (by simp; omega)).mono ?_
  rintro ev w10 ⟨rfl, hE10, _⟩
  clear hE8 q7
  go_wp2_with fail
  refine (enc_str hE10).mono ?_
  rintro ev w11 ⟨rfl, hB⟩
  go_wp2
  go_ret2
  exact ⟨rfl, hB⟩

/-- dirrecord.Encode. -/
def dirrecord_Encode.f (k : Nat) (a0_0 : ByteArray) (a0_1 a0_2 a0_3 a0_4 a0_5 a0_6 : Int) (a0_7 : ByteArray) : Option (ByteArray × Int) :=
  if a0_0.size ≤ 9223372036854775807 ∧ a0_7.size ≤ 9223372036854775807 then
    if a0_0.size = 0 then some ((⟨#[]⟩ : ByteArray), 1)
    else if (a0_7.size : Int) % 2 ≠ 0 then some ((⟨#[]⟩ : ByteArray), 1)
    else (dirrecord_Size.f k a0_0.size a0_7.size).bind fun size => if size = 0 then some ((⟨#[]⟩ : ByteArray), 7) else
      (datetime_Record.f k a0_3 a0_4).bind fun d => (endian_Both.f a0_1 4).bind fun p1 => (endian_Both.f a0_2 4).bind fun p2 => (endian_Both.f a0_6 2).bind fun p3 =>
      if a0_0.size ≤ 1000 ∧ a0_7.size ≤ 1000 ∧ d.1.size ≤ 1000 ∧ p1.1.size ≤ 1000 ∧ p2.1.size ≤ 1000 ∧ p3.1.size ≤ 1000 then
        if ee (ee (ee d.2 p1.2) p2.2) p3.2 ≠ 0 then some ((⟨#[]⟩ : ByteArray), 2)
        else if a0_5 < 0 then some ((⟨#[]⟩ : ByteArray), 2)
        else if 255 < a0_5 then some ((⟨#[]⟩ : ByteArray), 2)
        else if (a0_0.size : Int) % 2 = 0 then some (⟨(encL size p1.1 p2.1 d.1 a0_5 p3.1 a0_0 (0 :: a0_7.data.toList)).toArray⟩, 0)
        else some (⟨(encL size p1.1 p2.1 d.1 a0_5 p3.1 a0_0 a0_7.data.toList).toArray⟩, 0)
      else none
  else none

theorem dirrecord_Encode.calls (k : Nat) (a0_0 : ByteArray) (a0_1 a0_2 a0_3 a0_4 a0_5 a0_6 : Int) (a0_7 : ByteArray) (r1 : ByteArray) (r2 : Int) (w : World)
    (h : dirrecord_Encode.f k a0_0 a0_1 a0_2 a0_3 a0_4 a0_5 a0_6 a0_7 = some (r1, r2)) :
    Calls Try.prog 11 #[.agg #[.string a0_0, .int .i64 a0_1, .int .i64 a0_2, .int .i64 a0_3, .int .i64 a0_4, .int .i64 a0_5, .int .i64 a0_6, .string a0_7]] w fun e w' => e = .returned (.tuple #[.string r1, .int .i64 r2]) ∧ Below w.heap.size w w' := by
  unfold dirrecord_Encode.f at h
  by_cases hz : a0_0.size ≤ 9223372036854775807 ∧ a0_7.size ≤ 9223372036854775807
  · rw [if_pos hz] at h
    by_cases h0 : a0_0.size = 0
    · rw [if_pos h0] at h
      obtain ⟨rfl, rfl⟩ := Prod.mk.inj (Option.some.inj h)
      exact encode_noid k _ _ _ _ _ _ _ _ w (str_empty_eq h0)
    · rw [if_neg h0] at h
      have hne := str_empty_ne h0
      by_cases h1 : (a0_7.size : Int) % 2 ≠ 0
      · rw [if_pos h1] at h
        obtain ⟨rfl, rfl⟩ := Prod.mk.inj (Option.some.inj h)
        exact encode_odd k _ _ _ _ _ _ _ _ w hne (by simpa using h1) (by omega)
      · rw [if_neg h1] at h
        have hev : ((a0_7.size : Int) % 2 != 0) = false := by simpa using h1
        obtain ⟨size, hs, h⟩ := Option.bind_eq_some_iff.mp h
        by_cases h2 : size = 0
        · rw [if_pos h2] at h
          subst h2
          obtain ⟨rfl, rfl⟩ := Prod.mk.inj (Option.some.inj h)
          exact encode_large k _ _ _ _ _ _ _ _ w hne hev (by omega) hs
        · rw [if_neg h2] at h
          obtain ⟨⟨d, e⟩, hd, h⟩ := Option.bind_eq_some_iff.mp h
          obtain ⟨⟨s1, e1⟩, hb1, h⟩ := Option.bind_eq_some_iff.mp h
          obtain ⟨⟨s2, e2⟩, hb2, h⟩ := Option.bind_eq_some_iff.mp h
          obtain ⟨⟨s3, e3⟩, hb3, h⟩ := Option.bind_eq_some_iff.mp h
          dsimp only at h
          by_cases h3 : a0_0.size ≤ 1000 ∧ a0_7.size ≤ 1000 ∧ d.size ≤ 1000 ∧ s1.size ≤ 1000 ∧ s2.size ≤ 1000 ∧ s3.size ≤ 1000
          · rw [if_pos h3] at h
            obtain ⟨z0, z7, zd, z1, z2, z3⟩ := h3
            have hs0 : (size == 0) = false := by simpa using h2
            by_cases h4 : ee (ee (ee e e1) e2) e3 ≠ 0
            · rw [if_pos h4] at h
              obtain ⟨rfl, rfl⟩ := Prod.mk.inj (Option.some.inj h)
              exact encode_wrong k _ _ _ _ _ _ _ _ size d e e1 e2 e3 s1 s2 s3 w hne hev hs hs0 hd hb1 hb2 hb3 z0 z7 zd z1 z2 z3 (by simpa using h4)
            · rw [if_neg h4] at h
              have hw : (ee (ee (ee e e1) e2) e3 != 0) = false := by simpa using h4
              by_cases h5 : a0_5 < 0
              · rw [if_pos h5] at h
                obtain ⟨rfl, rfl⟩ := Prod.mk.inj (Option.some.inj h)
                exact encode_neg k _ _ _ _ _ _ _ _ size d e e1 e2 e3 s1 s2 s3 w hne hev hs hs0 hd hb1 hb2 hb3 z0 z7 zd z1 z2 z3 hw (decide_eq_true h5)
              · rw [if_neg h5] at h
                by_cases h6 : 255 < a0_5
                · rw [if_pos h6] at h
                  obtain ⟨rfl, rfl⟩ := Prod.mk.inj (Option.some.inj h)
                  exact encode_big k _ _ _ _ _ _ _ _ size d e e1 e2 e3 s1 s2 s3 w hne hev hs hs0 hd hb1 hb2 hb3 z0 z7 zd z1 z2 z3 hw (decide_eq_false h5) (decide_eq_true h6)
                · rw [if_neg h6] at h
                  by_cases h7 : (a0_0.size : Int) % 2 = 0
                  · rw [if_pos h7] at h
                    obtain ⟨rfl, rfl⟩ := Prod.mk.inj (Option.some.inj h)
                    exact encode_even k _ _ _ _ _ _ _ _ size d e e1 e2 e3 s1 s2 s3 w hne hev hs hs0 hd hb1 hb2 hb3 z0 z7 zd z1 z2 z3 hw (decide_eq_false h5) (decide_eq_false h6) (by simpa using h7)
                  · rw [if_neg h7] at h
                    obtain ⟨rfl, rfl⟩ := Prod.mk.inj (Option.some.inj h)
                    exact encode_id k _ _ _ _ _ _ _ _ size d e e1 e2 e3 s1 s2 s3 w hne hev hs hs0 hd hb1 hb2 hb3 z0 z7 zd z1 z2 z3 hw (decide_eq_false h5) (decide_eq_false h6) (by simpa using h7)
          · rw [if_neg h3] at h
            cases h
  · rw [if_neg hz] at h
    cases h

/-- More rounds tell the same. -/
theorem dirrecord_Encode.mono : ∀ a0 a1 a2 a3 a4 a5 a6 a7 k, LeO (dirrecord_Encode.f k a0 a1 a2 a3 a4 a5 a6 a7) (dirrecord_Encode.f (k + 1) a0 a1 a2 a3 a4 a5 a6 a7) := by
  intro a0 a1 a2 a3 a4 a5 a6 a7 k
  unfold dirrecord_Encode.f
  repeat' first
    | (with_reducible exact dirrecord_Size.mono _ _ _)
    | (with_reducible exact datetime_Record.mono _ _ _)
    | (with_reducible exact LeO.refl _)
    | (with_reducible exact LeO.none _)
    | (with_reducible refine LeO.ite ?_ ?_)
    | (with_reducible refine LeO.bind ?_ (fun _ => ?_))

end Go.Proofs.Ytagnefbgclpccaa.H
