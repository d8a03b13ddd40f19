import Derived.Test.YthblghfobnhoeaaGreatKeb91b463
import Derived.Lib.Strings
import Derived.Test.YthblghfobnhoeaaGreatKebf21747
import Derived.Test.YthblghfobnhoeaaGreatKe7e6dfb4
import Derived.StillTailTactics
import Derived.BigQuiet
import Derived.Lib.LazyBuf
import Derived.Deep.RegionLaw
import Derived.Deep.LoopGhost
import Derived.Deep.Cut
import Derived.Laws.BytesArg
import Derived.WalkSpells
namespace Go.Proofs.YthblghfobnhoeaaGreat.H
open Go.RowKit Go.Proofs.YthblghfobnhoeaaGreatW.PrintWords Go.Proofs.YthblghfobnhoeaaGreatW.PrintLast Go.Proofs.YthblghfobnhoeaaGreat.A
set_option linter.unusedVariables false

/-- The byte that a number is turned to. -/
def bz (x : Int) : UInt8 := UInt8.ofNat (x % 256).toNat
theorem bz_toNat (x : Int) : ((bz x).toNat : Int) = x % 256 := by
 unfold bz
 have h0 : 0 ≤ x % 256 := by omega
 have h1 : x % 256 < 256 := by omega
 simp
 omega

abbrev recCells (a0 : ByteArray) (a1 a2 a3 a4 a5 a6 : Int) (a7 : ByteArray) : Array Value := #[.string a0, .int .i64 a1, .int .i64 a2, .int .i64 a3, .int .i64 a4, .int .i64 a5, .int .i64 a6, .string a7]

theorem str_empty_ne {a0 : ByteArray} (h : a0.size ≠ 0) : a0.toList.isEmpty = false := by
 cases h1 : a0.toList.isEmpty
 ·rfl
 ·rw [Lib.toList_data] at h1
  have h2 := congrArg List.length (List.isEmpty_iff.1 h1)
  exact absurd (by simpa using h2) h
theorem str_empty_eq {a0 : ByteArray} (h : a0.size = 0) : a0.toList.isEmpty = true := by
 rw [Lib.toList_data, List.isEmpty_iff]
 exact List.eq_nil_of_length_eq_zero (by simpa using h)

/-- The bytes of a directory record; t: what stands behind the identifier. -/
def encL (size : Int) (s1 s2 d : ByteArray) (a5 : Int) (s3 a0 : ByteArray) (t : List UInt8) : List UInt8 :=
 bz size :: 0 :: (s1.data.toList ++ (s2.data.toList ++ (d.data.toList ++ bz a5 :: 0 :: 0 :: (s3.data.toList ++ bz a0.size :: (a0.data.toList ++ t)))))

set_option maxRecDepth 100000 in
set_option maxHeartbeats 8000000 in
theorem encode_noid (k : Nat) (a0 : ByteArray) (a1 a2 a3 a4 a5 a6 : Int) (a7 : ByteArray) (w : World) (hne : a0.toList.isEmpty = true) :
  Calls Tryz.prog 48 #[.agg (recCells a0 a1 a2 a3 a4 a5 a6 a7)] w fun ev w' => ev = .returned (.tuple #[.string ⟨#[]⟩, .int .i64 1]) ∧ Below w.heap.size w w' := by
 have hu23 := Tryz.underlying45
 go_enter Tryz.func48, Tryz.ntmps48
 go_wp2
 go_ret2
 exact ⟨rfl, (Below.refl _ _).alloc (Nat.le_refl _) _⟩

set_option maxRecDepth 100000 in
set_option maxHeartbeats 8000000 in
theorem encode_odd (k : Nat) (a0 : ByteArray) (a1 a2 a3 a4 a5 a6 : Int) (a7 : ByteArray) (w : World) (hne : a0.toList.isEmpty = false) (hev : ((a7.size : Int) % 2 != 0) = true) (z7 : a7.size ≤ 9223372036854775807) :
  Calls Tryz.prog 48 #[.agg (recCells a0 a1 a2 a3 a4 a5 a6 a7)] w fun ev w' => ev = .returned (.tuple #[.string ⟨#[]⟩, .int .i64 1]) ∧ Below w.heap.size w w' := by
 have hu23 := Tryz.underlying45
 go_enter Tryz.func48, Tryz.ntmps48
 go_wp2
 go_ret2
 exact ⟨rfl, (Below.refl _ _).alloc (Nat.le_refl _) _⟩

set_option maxRecDepth 100000 in
set_option maxHeartbeats 8000000 in
theorem encode_large (k : Nat) (a0 : ByteArray) (a1 a2 a3 a4 a5 a6 : Int) (a7 : ByteArray) (w : World) (hne : a0.toList.isEmpty = false) (hev : ((a7.size : Int) % 2 != 0) = false) (z7 : a7.size ≤ 9223372036854775807) (hsz : dirrecord_Size.f k a0.size a7.size = some 0) :
  Calls Tryz.prog 48 #[.agg (recCells a0 a1 a2 a3 a4 a5 a6 a7)] w fun ev w' => ev = .returned (.tuple #[.string ⟨#[]⟩, .int .i64 7]) ∧ Below w.heap.size w w' := by
 have HS := Lib.hid hsz
 clear hsz
 have hu23 := Tryz.underlying45
 go_enter Tryz.func48, Tryz.ntmps48
 go_wp2_with (go_at_call 66; refine (dirrecord_Size.calls k _ _ _ _ HS.out).mono ?_; rintro ev w' ⟨rfl, ⟨nd, rfl⟩⟩)
 go_ret2
 exact ⟨rfl, below_drewN ((Below.refl _ _).alloc (Nat.le_refl _) _) _⟩

set_option maxRecDepth 100000 in
set_option maxHeartbeats 8000000 in
theorem encode_wrong (k : Nat) (a0 : ByteArray) (a1 a2 a3 a4 a5 a6 : Int) (a7 : ByteArray) (size : Int) (d : ByteArray) (e e1 e2 e3 : Int) (s1 s2 s3 : ByteArray) (w : World)
  (hne : a0.toList.isEmpty = false) (hev : ((a7.size : Int) % 2 != 0) = false) (hsz : dirrecord_Size.f k a0.size a7.size = some size) (hs0 : (size == 0) = false)
  (hd : datetime_Record.f k a3 a4 = some (d, e)) (hb1 : endian_Both.f a1 4 = some (s1, e1)) (hb2 : endian_Both.f a2 4 = some (s2, e2)) (hb3 : endian_Both.f a6 2 = some (s3, e3))
  (z0 : a0.size ≤ 1000) (z7 : a7.size ≤ 1000) (zd : d.size ≤ 1000) (z1 : s1.size ≤ 1000) (z2 : s2.size ≤ 1000) (z3 : s3.size ≤ 1000) (hw : (ee (ee (ee e e1) e2) e3 != 0) = true) :
  Calls Tryz.prog 48 #[.agg (recCells a0 a1 a2 a3 a4 a5 a6 a7)] w fun ev w' => ev = .returned (.tuple #[.string ⟨#[]⟩, .int .i64 2]) ∧ Below w.heap.size w w' := by
 have HS := Lib.hid hsz
 have HD := Lib.hid hd
 have H1 := Lib.hid hb1
 have H2 := Lib.hid hb2
 have H3 := Lib.hid hb3
 clear hsz hd hb1 hb2 hb3
 have hu23 := Tryz.underlying45
 go_enter Tryz.func48, Tryz.ntmps48
 go_wp2_with (first | (go_at_call 66; refine (dirrecord_Size.calls k _ _ _ _ HS.out).mono ?_; rintro ev w' ⟨rfl, ⟨nd, rfl⟩⟩) | (go_at_call 67; refine (datetime_Record.calls k _ _ _ _ _ HD.out).mono ?_; rintro ev w1 ⟨rfl, hb⟩))
 have hE := Enc.start _ e w w1 nd (by simpa [World.drewN] using hb)
 refine (enc_wn hE [bz size, 0] 2 rfl _ _ (by simp) _ (by simp [Lib.byteCells, bz_toNat]) (by omega) (by simp)).mono ?_
 rintro ev w2 ⟨rfl, hE2⟩
 clear hE hb
 have r0 := hE2.cellR 1
 have r1 := hE2.cellR 2
 go_wp2_with fail
 refine (enc1_4 (hE2.alloc _) _ a1 4 a2 4 e1 e2 s1 s2 (blk_new _ _ _) (by have := hE2.ltb; omega) (by have := hE2.ltW; omega) H1.out z1 H2.out z2 (by simp)).mono ?_
 rintro ev w3 ⟨rfl, hE3⟩
 clear hE2 r0 r1
 go_wp2_with fail
 refine (enc_ws hE3 d (by simp; omega)).mono ?_
 rintro ev w4 ⟨rfl, hE4, _⟩
 clear hE3
 have r0 := hE4.cellR 5
 go_wp2_with fail
 refine (enc_wn hE4 [bz a5, 0, 0] 3 rfl _ _ (by simp) _ (by simp [Lib.byteCells, bz_toNat]) (by have := hE4.ltb; omega) (by simp; omega)).mono ?_
 rintro ev w5 ⟨rfl, hE5⟩
 clear hE4 r0
 have r0 := hE5.cellR 6
 go_wp2_with fail
 refine (enc1_2 (hE5.alloc _) _ a6 2 e3 s3 (blk_new _ _ _) (by have := hE5.ltb; omega) (by have := hE5.ltW; omega) H3.out z3 (by simp; omega)).mono ?_
 rintro ev w6 ⟨rfl, hE6⟩
 clear hE5 r0
 have q0 := hE6.cellW
 have q1 := hE6.cellR 5
 have q2 := hE6.cellR 0
 go_wp2
 go_ret2
 exact ⟨rfl, hE6.be⟩

set_option maxRecDepth 100000 in
set_option maxHeartbeats 8000000 in
theorem encode_neg (k : Nat) (a0 : ByteArray) (a1 a2 a3 a4 a5 a6 : Int) (a7 : ByteArray) (size : Int) (d : ByteArray) (e e1 e2 e3 : Int) (s1 s2 s3 : ByteArray) (w : World)
  (hne : a0.toList.isEmpty = false) (hev : ((a7.size : Int) % 2 != 0) = false) (hsz : dirrecord_Size.f k a0.size a7.size = some size) (hs0 : (size == 0) = false)
  (hd : datetime_Record.f k a3 a4 = some (d, e)) (hb1 : endian_Both.f a1 4 = some (s1, e1)) (hb2 : endian_Both.f a2 4 = some (s2, e2)) (hb3 : endian_Both.f a6 2 = some (s3, e3))
  (z0 : a0.size ≤ 1000) (z7 : a7.size ≤ 1000) (zd : d.size ≤ 1000) (z1 : s1.size ≤ 1000) (z2 : s2.size ≤ 1000) (z3 : s3.size ≤ 1000) (hw : (ee (ee (ee e e1) e2) e3 != 0) = false) (hf : decide (a5 < 0) = true) :
  Calls Tryz.prog 48 #[.agg (recCells a0 a1 a2 a3 a4 a5 a6 a7)] w fun ev w' => ev = .returned (.tuple #[.string ⟨#[]⟩, .int .i64 2]) ∧ Below w.heap.size w w' := by
 have HS := Lib.hid hsz
 have HD := Lib.hid hd
 have H1 := Lib.hid hb1
 have H2 := Lib.hid hb2
 have H3 := Lib.hid hb3
 clear hsz hd hb1 hb2 hb3
 have hu23 := Tryz.underlying45
 go_enter Tryz.func48, Tryz.ntmps48
 go_wp2_with (first | (go_at_call 66; refine (dirrecord_Size.calls k _ _ _ _ HS.out).mono ?_; rintro ev w' ⟨rfl, ⟨nd, rfl⟩⟩) | (go_at_call 67; refine (datetime_Record.calls k _ _ _ _ _ HD.out).mono ?_; rintro ev w1 ⟨rfl, hb⟩))
 have hE := Enc.start _ e w w1 nd (by simpa [World.drewN] using hb)
 refine (enc_wn hE [bz size, 0] 2 rfl _ _ (by simp) _ (by simp [Lib.byteCells, bz_toNat]) (by omega) (by simp)).mono ?_
 rintro ev w2 ⟨rfl, hE2⟩
 clear hE hb
 have r0 := hE2.cellR 1
 have r1 := hE2.cellR 2
 go_wp2_with fail
 refine (enc1_4 (hE2.alloc _) _ a1 4 a2 4 e1 e2 s1 s2 (blk_new _ _ _) (by have := hE2.ltb; omega) (by have := hE2.ltW; omega) H1.out z1 H2.out z2 (by simp)).mono ?_
 rintro ev w3 ⟨rfl, hE3⟩
 clear hE2 r0 r1
 go_wp2_with fail
 refine (enc_ws hE3 d (by simp; omega)).mono ?_
 rintro ev w4 ⟨rfl, hE4, _⟩
 clear hE3
 have r0 := hE4.cellR 5
 go_wp2_with fail
 refine (enc_wn hE4 [bz a5, 0, 0] 3 rfl _ _ (by simp) _ (by simp [Lib.byteCells, bz_toNat]) (by have := hE4.ltb; omega) (by simp; omega)).mono ?_
 rintro ev w5 ⟨rfl, hE5⟩
 clear hE4 r0
 have r0 := hE5.cellR 6
 go_wp2_with fail
 refine (enc1_2 (hE5.alloc _) _ a6 2 e3 s3 (blk_new _ _ _) (by have := hE5.ltb; omega) (by have := hE5.ltW; omega) H3.out z3 (by simp; omega)).mono ?_
 rintro ev w6 ⟨rfl, hE6⟩
 clear hE5 r0
 have q0 := hE6.cellW
 have q1 := hE6.cellR 5
 have q2 := hE6.cellR 0
 go_wp2
 go_ret2
 exact ⟨rfl, hE6.be⟩

set_option maxRecDepth 100000 in
set_option maxHeartbeats 8000000 in
theorem encode_big (k : Nat) (a0 : ByteArray) (a1 a2 a3 a4 a5 a6 : Int) (a7 : ByteArray) (size : Int) (d : ByteArray) (e e1 e2 e3 : Int) (s1 s2 s3 : ByteArray) (w : World)
  (hne : a0.toList.isEmpty = false) (hev : ((a7.size : Int) % 2 != 0) = false) (hsz : dirrecord_Size.f k a0.size a7.size = some size) (hs0 : (size == 0) = false)
  (hd : datetime_Record.f k a3 a4 = some (d, e)) (hb1 : endian_Both.f a1 4 = some (s1, e1)) (hb2 : endian_Both.f a2 4 = some (s2, e2)) (hb3 : endian_Both.f a6 2 = some (s3, e3))
  (z0 : a0.size ≤ 1000) (z7 : a7.size ≤ 1000) (zd : d.size ≤ 1000) (z1 : s1.size ≤ 1000) (z2 : s2.size ≤ 1000) (z3 : s3.size ≤ 1000) (hw : (ee (ee (ee e e1) e2) e3 != 0) = false) (hf : decide (a5 < 0) = false) (hg : decide (255 < a5) = true) :
  Calls Tryz.prog 48 #[.agg (recCells a0 a1 a2 a3 a4 a5 a6 a7)] w fun ev w' => ev = .returned (.tuple #[.string ⟨#[]⟩, .int .i64 2]) ∧ Below w.heap.size w w' := by
 have HS := Lib.hid hsz
 have HD := Lib.hid hd
 have H1 := Lib.hid hb1
 have H2 := Lib.hid hb2
 have H3 := Lib.hid hb3
 clear hsz hd hb1 hb2 hb3
 have hu23 := Tryz.underlying45
 go_enter Tryz.func48, Tryz.ntmps48
 go_wp2_with (first | (go_at_call 66; refine (dirrecord_Size.calls k _ _ _ _ HS.out).mono ?_; rintro ev w' ⟨rfl, ⟨nd, rfl⟩⟩) | (go_at_call 67; refine (datetime_Record.calls k _ _ _ _ _ HD.out).mono ?_; rintro ev w1 ⟨rfl, hb⟩))
 have hE := Enc.start _ e w w1 nd (by simpa [World.drewN] using hb)
 refine (enc_wn hE [bz size, 0] 2 rfl _ _ (by simp) _ (by simp [Lib.byteCells, bz_toNat]) (by omega) (by simp)).mono ?_
 rintro ev w2 ⟨rfl, hE2⟩
 clear hE hb
 have r0 := hE2.cellR 1
 have r1 := hE2.cellR 2
 go_wp2_with fail
 refine (enc1_4 (hE2.alloc _) _ a1 4 a2 4 e1 e2 s1 s2 (blk_new _ _ _) (by have := hE2.ltb; omega) (by have := hE2.ltW; omega) H1.out z1 H2.out z2 (by simp)).mono ?_
 rintro ev w3 ⟨rfl, hE3⟩
 clear hE2 r0 r1
 go_wp2_with fail
 refine (enc_ws hE3 d (by simp; omega)).mono ?_
 rintro ev w4 ⟨rfl, hE4, _⟩
 clear hE3
 have r0 := hE4.cellR 5
 go_wp2_with fail
 refine (enc_wn hE4 [bz a5, 0, 0] 3 rfl _ _ (by simp) _ (by simp [Lib.byteCells, bz_toNat]) (by have := hE4.ltb; omega) (by simp; omega)).mono ?_
 rintro ev w5 ⟨rfl, hE5⟩
 clear hE4 r0
 have r0 := hE5.cellR 6
 go_wp2_with fail
 refine (enc1_2 (hE5.alloc _) _ a6 2 e3 s3 (blk_new _ _ _) (by have := hE5.ltb; omega) (by have := hE5.ltW; omega) H3.out z3 (by simp; omega)).mono ?_
 rintro ev w6 ⟨rfl, hE6⟩
 clear hE5 r0
 have q0 := hE6.cellW
 have q1 := hE6.cellR 5
 have q2 := hE6.cellR 0
 go_wp2
 go_ret2
 exact ⟨rfl, hE6.be⟩

set_option maxRecDepth 100000 in
set_option maxHeartbeats 8000000 in
theorem encode_even (k : Nat) (a0 : ByteArray) (a1 a2 a3 a4 a5 a6 : Int) (a7 : ByteArray) (size : Int) (d : ByteArray) (e e1 e2 e3 : Int) (s1 s2 s3 : ByteArray) (w : World)
  (hne : a0.toList.isEmpty = false) (hev : ((a7.size : Int) % 2 != 0) = false) (hsz : dirrecord_Size.f k a0.size a7.size = some size) (hs0 : (size == 0) = false)
  (hd : datetime_Record.f k a3 a4 = some (d, e)) (hb1 : endian_Both.f a1 4 = some (s1, e1)) (hb2 : endian_Both.f a2 4 = some (s2, e2)) (hb3 : endian_Both.f a6 2 = some (s3, e3))
  (z0 : a0.size ≤ 1000) (z7 : a7.size ≤ 1000) (zd : d.size ≤ 1000) (z1 : s1.size ≤ 1000) (z2 : s2.size ≤ 1000) (z3 : s3.size ≤ 1000) (hw : (ee (ee (ee e e1) e2) e3 != 0) = false) (hf : decide (a5 < 0) = false) (hg : decide (255 < a5) = false) (hid : ((a0.size : Int) % 2 == 0) = true) :
  Calls Tryz.prog 48 #[.agg (recCells a0 a1 a2 a3 a4 a5 a6 a7)] w fun ev w' => ev = .returned (.tuple #[.string ⟨(encL size s1 s2 d a5 s3 a0 (0 :: a7.data.toList)).toArray⟩, .int .i64 0]) ∧ Below w.heap.size w w' := by
 have HS := Lib.hid hsz
 have HD := Lib.hid hd
 have H1 := Lib.hid hb1
 have H2 := Lib.hid hb2
 have H3 := Lib.hid hb3
 clear hsz hd hb1 hb2 hb3
 have hu23 := Tryz.underlying45
 go_enter Tryz.func48, Tryz.ntmps48
 go_wp2_with (first | (go_at_call 66; refine (dirrecord_Size.calls k _ _ _ _ HS.out).mono ?_; rintro ev w' ⟨rfl, ⟨nd, rfl⟩⟩) | (go_at_call 67; refine (datetime_Record.calls k _ _ _ _ _ HD.out).mono ?_; rintro ev w1 ⟨rfl, hb⟩))
 have hE := Enc.start _ e w w1 nd (by simpa [World.drewN] using hb)
 refine (enc_wn hE [bz size, 0] 2 rfl _ _ (by simp) _ (by simp [Lib.byteCells, bz_toNat]) (by omega) (by simp)).mono ?_
 rintro ev w2 ⟨rfl, hE2⟩
 clear hE hb
 have r0 := hE2.cellR 1
 have r1 := hE2.cellR 2
 go_wp2_with fail
 refine (enc1_4 (hE2.alloc _) _ a1 4 a2 4 e1 e2 s1 s2 (blk_new _ _ _) (by have := hE2.ltb; omega) (by have := hE2.ltW; omega) H1.out z1 H2.out z2 (by simp)).mono ?_
 rintro ev w3 ⟨rfl, hE3⟩
 clear hE2 r0 r1
 go_wp2_with fail
 refine (enc_ws hE3 d (by simp; omega)).mono ?_
 rintro ev w4 ⟨rfl, hE4, _⟩
 clear hE3
 have r0 := hE4.cellR 5
 go_wp2_with fail
 refine (enc_wn hE4 [bz a5, 0, 0] 3 rfl _ _ (by simp) _ (by simp [Lib.byteCells, bz_toNat]) (by have := hE4.ltb; omega) (by simp; omega)).mono ?_
 rintro ev w5 ⟨rfl, hE5⟩
 clear hE4 r0
 have r0 := hE5.cellR 6
 go_wp2_with fail
 refine (enc1_2 (hE5.alloc _) _ a6 2 e3 s3 (blk_new _ _ _) (by have := hE5.ltb; omega) (by have := hE5.ltW; omega) H3.out z3 (by simp; omega)).mono ?_
 rintro ev w6 ⟨rfl, hE6⟩
 clear hE5 r0
 have q0 := hE6.cellW
 have q1 := hE6.cellR 5
 have q2 := hE6.cellR 0
 go_wp2_with fail
 refine (enc_wb hE6 (bz a0.size) _ (bz_toNat _) (by simp; omega)).mono ?_
 rintro ev w7 ⟨rfl, hE7⟩
 clear hE6 q0 q1 q2
 have q0 := hE7.cellR 0
 go_wp2_with fail
 refine (enc_ws hE7 a0 (by simp; omega)).mono ?_
 rintro ev w8 ⟨rfl, hE8, _⟩
 clear hE7 q0
 have q0 := hE8.cellR 0
 have q7 := hE8.cellR 7
 go_wp2_with fail
 refine (enc_wb hE8 0 _ rfl (by simp; omega)).mono ?_
 rintro ev w9 ⟨rfl, hE9⟩
 clear hE8 q0 q7
 have q7 := hE9.cellR 7
 go_wp2_with fail
 refine (enc_ws hE9 a7 (by simp; omega)).mono ?_
 rintro ev w10 ⟨rfl, hE10, _⟩
 clear hE9 q7
 go_wp2_with fail
 refine (enc_str hE10).mono ?_
 rintro ev w11 ⟨rfl, hB⟩
 go_wp2
 go_ret2
 exact ⟨rfl, hB⟩

set_option maxRecDepth 100000 in
set_option maxHeartbeats 8000000 in
theorem encode_id (k : Nat) (a0 : ByteArray) (a1 a2 a3 a4 a5 a6 : Int) (a7 : ByteArray) (size : Int) (d : ByteArray) (e e1 e2 e3 : Int) (s1 s2 s3 : ByteArray) (w : World)
  (hne : a0.toList.isEmpty = false) (hev : ((a7.size : Int) % 2 != 0) = false) (hsz : dirrecord_Size.f k a0.size a7.size = some size) (hs0 : (size == 0) = false)
  (hd : datetime_Record.f k a3 a4 = some (d, e)) (hb1 : endian_Both.f a1 4 = some (s1, e1)) (hb2 : endian_Both.f a2 4 = some (s2, e2)) (hb3 : endian_Both.f a6 2 = some (s3, e3))
  (z0 : a0.size ≤ 1000) (z7 : a7.size ≤ 1000) (zd : d.size ≤ 1000) (z1 : s1.size ≤ 1000) (z2 : s2.size ≤ 1000) (z3 : s3.size ≤ 1000) (hw : (ee (ee (ee e e1) e2) e3 != 0) = false) (hf : decide (a5 < 0) = false) (hg : decide (255 < a5) = false) (hid : ((a0.size : Int) % 2 == 0) = false) :
  Calls Tryz.prog 48 #[.agg (recCells a0 a1 a2 a3 a4 a5 a6 a7)] w fun ev w' => ev = .returned (.tuple #[.string ⟨(encL size s1 s2 d a5 s3 a0 a7.data.toList).toArray⟩, .int .i64 0]) ∧ Below w.heap.size w w' := by
 have HS := Lib.hid hsz
 have HD := Lib.hid hd
 have H1 := Lib.hid hb1
 have H2 := Lib.hid hb2
 have H3 := Lib.hid hb3
 clear hsz hd hb1 hb2 hb3
 have hu23 := Tryz.underlying45
 go_enter Tryz.func48, Tryz.ntmps48
 go_wp2_with (first | (go_at_call 66; refine (dirrecord_Size.calls k _ _ _ _ HS.out).mono ?_; rintro ev w' ⟨rfl, ⟨nd, rfl⟩⟩) | (go_at_call 67; refine (datetime_Record.calls k _ _ _ _ _ HD.out).mono ?_; rintro ev w1 ⟨rfl, hb⟩))
 have hE := Enc.start _ e w w1 nd (by simpa [World.drewN] using hb)
 refine (enc_wn hE [bz size, 0] 2 rfl _ _ (by simp) _ (by simp [Lib.byteCells, bz_toNat]) (by omega) (by simp)).mono ?_
 rintro ev w2 ⟨rfl, hE2⟩
 clear hE hb
 have r0 := hE2.cellR 1
 have r1 := hE2.cellR 2
 go_wp2_with fail
 refine (enc1_4 (hE2.alloc _) _ a1 4 a2 4 e1 e2 s1 s2 (blk_new _ _ _) (by have := hE2.ltb; omega) (by have := hE2.ltW; omega) H1.out z1 H2.out z2 (by simp)).mono ?_
 rintro ev w3 ⟨rfl, hE3⟩
 clear hE2 r0 r1
 go_wp2_with fail
 refine (enc_ws hE3 d (by simp; omega)).mono ?_
 rintro ev w4 ⟨rfl, hE4, _⟩
 clear hE3
 have r0 := hE4.cellR 5
 go_wp2_with fail
 refine (enc_wn hE4 [bz a5, 0, 0] 3 rfl _ _ (by simp) _ (by simp [Lib.byteCells, bz_toNat]) (by have := hE4.ltb; omega) (by simp; omega)).mono ?_
 rintro ev w5 ⟨rfl, hE5⟩
 clear hE4 r0
 have r0 := hE5.cellR 6
 go_wp2_with fail
 refine (enc1_2 (hE5.alloc _) _ a6 2 e3 s3 (blk_new _ _ _) (by have := hE5.ltb; omega) (by have := hE5.ltW; omega) H3.out z3 (by simp; omega)).mono ?_
 rintro ev w6 ⟨rfl, hE6⟩
 clear hE5 r0
 have q0 := hE6.cellW
 have q1 := hE6.cellR 5
 have q2 := hE6.cellR 0
 go_wp2_with fail
 refine (enc_wb hE6 (bz a0.size) _ (bz_toNat _) (by simp; omega)).mono ?_
 rintro ev w7 ⟨rfl, hE7⟩
 clear hE6 q0 q1 q2
 have q0 := hE7.cellR 0
 go_wp2_with fail
 refine (enc_ws hE7 a0 (by simp; omega)).mono ?_
 rintro ev w8 ⟨rfl, hE8, _⟩
 clear hE7 q0
 have q0 := hE8.cellR 0
 have q7 := hE8.cellR 7
 go_wp2_with fail
 refine (enc_ws hE8 a7 (by simp; omega)).mono ?_
 rintro ev w10 ⟨rfl, hE10, _⟩
 clear hE8 q7
 go_wp2_with fail
 refine (enc_str hE10).mono ?_
 rintro ev w11 ⟨rfl, hB⟩
 go_wp2
 go_ret2
 exact ⟨rfl, hB⟩

/-- dirrecord.Encode. -/
def dirrecord_Encode.f (k : Nat) (a0_0 : ByteArray) (a0_1 a0_2 a0_3 a0_4 a0_5 a0_6 : Int) (a0_7 : ByteArray) : Option (ByteArray × Int) :=
 if a0_0.size ≤ 9223372036854775807 ∧ a0_7.size ≤ 9223372036854775807 then
  if a0_0.size = 0 then some ((⟨#[]⟩ : ByteArray), 1)
  else if (a0_7.size : Int) % 2 ≠ 0 then some ((⟨#[]⟩ : ByteArray), 1)
  else (dirrecord_Size.f k a0_0.size a0_7.size).bind fun size => if size = 0 then some ((⟨#[]⟩ : ByteArray), 7) else
   (datetime_Record.f k a0_3 a0_4).bind fun d => (endian_Both.f a0_1 4).bind fun p1 => (endian_Both.f a0_2 4).bind fun p2 => (endian_Both.f a0_6 2).bind fun p3 =>
   if a0_0.size ≤ 1000 ∧ a0_7.size ≤ 1000 ∧ d.1.size ≤ 1000 ∧ p1.1.size ≤ 1000 ∧ p2.1.size ≤ 1000 ∧ p3.1.size ≤ 1000 then
    if ee (ee (ee d.2 p1.2) p2.2) p3.2 ≠ 0 then some ((⟨#[]⟩ : ByteArray), 2)
    else if a0_5 < 0 then some ((⟨#[]⟩ : ByteArray), 2)
    else if 255 < a0_5 then some ((⟨#[]⟩ : ByteArray), 2)
    else if (a0_0.size : Int) % 2 = 0 then some (⟨(encL size p1.1 p2.1 d.1 a0_5 p3.1 a0_0 (0 :: a0_7.data.toList)).toArray⟩, 0)
    else some (⟨(encL size p1.1 p2.1 d.1 a0_5 p3.1 a0_0 a0_7.data.toList).toArray⟩, 0)
   else none
 else none

theorem dirrecord_Encode.calls (k : Nat) (a0_0 : ByteArray) (a0_1 a0_2 a0_3 a0_4 a0_5 a0_6 : Int) (a0_7 : ByteArray) (r1 : ByteArray) (r2 : Int) (w : World)
  (h : dirrecord_Encode.f k a0_0 a0_1 a0_2 a0_3 a0_4 a0_5 a0_6 a0_7 = some (r1, r2)) :
  Calls Tryz.prog 48 #[.agg #[.string a0_0, .int .i64 a0_1, .int .i64 a0_2, .int .i64 a0_3, .int .i64 a0_4, .int .i64 a0_5, .int .i64 a0_6, .string a0_7]] w fun e w' => e = .returned (.tuple #[.string r1, .int .i64 r2]) ∧ Below w.heap.size w w' := by
 unfold dirrecord_Encode.f at h
 by_cases hz : a0_0.size ≤ 9223372036854775807 ∧ a0_7.size ≤ 9223372036854775807
 ·rw [if_pos hz] at h
  by_cases h0 : a0_0.size = 0
  ·rw [if_pos h0] at h
   obtain ⟨rfl, rfl⟩ := Prod.mk.inj (Option.some.inj h)
   exact encode_noid k _ _ _ _ _ _ _ _ w (str_empty_eq h0)
  ·rw [if_neg h0] at h
   have hne := str_empty_ne h0
   by_cases h1 : (a0_7.size : Int) % 2 ≠ 0
   ·rw [if_pos h1] at h
    obtain ⟨rfl, rfl⟩ := Prod.mk.inj (Option.some.inj h)
    exact encode_odd k _ _ _ _ _ _ _ _ w hne (by simpa using h1) (by omega)
   ·rw [if_neg h1] at h
    have hev : ((a0_7.size : Int) % 2 != 0) = false := by simpa using h1
    obtain ⟨size, hs, h⟩ := Option.bind_eq_some_iff.mp h
    by_cases h2 : size = 0
    ·rw [if_pos h2] at h
     subst h2
     obtain ⟨rfl, rfl⟩ := Prod.mk.inj (Option.some.inj h)
     exact encode_large k _ _ _ _ _ _ _ _ w hne hev (by omega) hs
    ·rw [if_neg h2] at h
     obtain ⟨⟨d, e⟩, hd, h⟩ := Option.bind_eq_some_iff.mp h
     obtain ⟨⟨s1, e1⟩, hb1, h⟩ := Option.bind_eq_some_iff.mp h
     obtain ⟨⟨s2, e2⟩, hb2, h⟩ := Option.bind_eq_some_iff.mp h
     obtain ⟨⟨s3, e3⟩, hb3, h⟩ := Option.bind_eq_some_iff.mp h
     dsimp only at h
     by_cases h3 : a0_0.size ≤ 1000 ∧ a0_7.size ≤ 1000 ∧ d.size ≤ 1000 ∧ s1.size ≤ 1000 ∧ s2.size ≤ 1000 ∧ s3.size ≤ 1000
     ·rw [if_pos h3] at h
      obtain ⟨z0, z7, zd, z1, z2, z3⟩ := h3
      have hs0 : (size == 0) = false := by simpa using h2
      by_cases h4 : ee (ee (ee e e1) e2) e3 ≠ 0
      ·rw [if_pos h4] at h
       obtain ⟨rfl, rfl⟩ := Prod.mk.inj (Option.some.inj h)
       exact encode_wrong k _ _ _ _ _ _ _ _ size d e e1 e2 e3 s1 s2 s3 w hne hev hs hs0 hd hb1 hb2 hb3 z0 z7 zd z1 z2 z3 (by simpa using h4)
      ·rw [if_neg h4] at h
       have hw : (ee (ee (ee e e1) e2) e3 != 0) = false := by simpa using h4
       by_cases h5 : a0_5 < 0
       ·rw [if_pos h5] at h
        obtain ⟨rfl, rfl⟩ := Prod.mk.inj (Option.some.inj h)
        exact encode_neg k _ _ _ _ _ _ _ _ size d e e1 e2 e3 s1 s2 s3 w hne hev hs hs0 hd hb1 hb2 hb3 z0 z7 zd z1 z2 z3 hw (decide_eq_true h5)
       ·rw [if_neg h5] at h
        by_cases h6 : 255 < a0_5
        ·rw [if_pos h6] at h
         obtain ⟨rfl, rfl⟩ := Prod.mk.inj (Option.some.inj h)
         exact encode_big k _ _ _ _ _ _ _ _ size d e e1 e2 e3 s1 s2 s3 w hne hev hs hs0 hd hb1 hb2 hb3 z0 z7 zd z1 z2 z3 hw (decide_eq_false h5) (decide_eq_true h6)
        ·rw [if_neg h6] at h
         by_cases h7 : (a0_0.size : Int) % 2 = 0
         ·rw [if_pos h7] at h
          obtain ⟨rfl, rfl⟩ := Prod.mk.inj (Option.some.inj h)
          exact encode_even k _ _ _ _ _ _ _ _ size d e e1 e2 e3 s1 s2 s3 w hne hev hs hs0 hd hb1 hb2 hb3 z0 z7 zd z1 z2 z3 hw (decide_eq_false h5) (decide_eq_false h6) (by simpa using h7)
         ·rw [if_neg h7] at h
          obtain ⟨rfl, rfl⟩ := Prod.mk.inj (Option.some.inj h)
          exact encode_id k _ _ _ _ _ _ _ _ size d e e1 e2 e3 s1 s2 s3 w hne hev hs hs0 hd hb1 hb2 hb3 z0 z7 zd z1 z2 z3 hw (decide_eq_false h5) (decide_eq_false h6) (by simpa using h7)
     ·rw [if_neg h3] at h
      cases h
 ·rw [if_neg hz] at h
  cases h

/-- More rounds tell the same. -/
theorem dirrecord_Encode.mono : ∀ a0 a1 a2 a3 a4 a5 a6 a7 k, LeO (dirrecord_Encode.f k a0 a1 a2 a3 a4 a5 a6 a7) (dirrecord_Encode.f (k + 1) a0 a1 a2 a3 a4 a5 a6 a7) := by
 intro a0 a1 a2 a3 a4 a5 a6 a7 k
 unfold dirrecord_Encode.f
 repeat' first
  | (with_reducible exact dirrecord_Size.mono _ _ _)
  | (with_reducible exact datetime_Record.mono _ _ _)
  | (with_reducible exact LeO.refl _)
  | (with_reducible exact LeO.none _)
  | (with_reducible refine LeO.ite ?_ ?_)
  | (with_reducible refine LeO.bind ?_ (fun _ => ?_))

end Go.Proofs.YthblghfobnhoeaaGreat.H
namespace Go.Proofs.YthblghfobnhoeaaGreat.H
open Go.RowKit Go.Proofs.YthblghfobnhoeaaGreatW.PrintWords Go.Proofs.YthblghfobnhoeaaGreatW.PrintLast Go.Proofs.YthblghfobnhoeaaGreat.A
set_option linter.unusedVariables false

set_option maxRecDepth 100000 in
set_option maxHeartbeats 1000000 in
theorem rl4_same (s : ByteArray) (a : Int) (w : World) (hs : s.size ≤ 9223372036854775000) (h0 : 0 ≤ a) (h1 : a + 4 ≤ s.size) :
  Calls Tryz.prog 78 #[.string s, .int .i64 a, .int .i64 4] w fun e w' => e = .returned (.tuple #[.int .i64 (bt s a + bt s (a + 1) * 256 + bt s (a + 2) * 65536 + bt s (a + 3) * 16777216), .int .i64 0]) ∧ w = w' := by
 go_enter Tryz.func78, Tryz.ntmps78
 go_wp2_with (go_at_call 98; refine (up_mk _ _).mono ?_; rintro e w' ⟨rfl, rfl⟩)
 refine (read_up4 _ _ _ hs h0 h1).mono ?_
 rintro e w1 ⟨rfl, rfl⟩
 go_wp2
 go_ret2
 exact ⟨rfl, rfl⟩
set_option maxRecDepth 100000 in
set_option maxHeartbeats 1000000 in
theorem rl2_same (s : ByteArray) (a : Int) (w : World) (hs : s.size ≤ 9223372036854775000) (h0 : 0 ≤ a) (h1 : a + 2 ≤ s.size) :
  Calls Tryz.prog 78 #[.string s, .int .i64 a, .int .i64 2] w fun e w' => e = .returned (.tuple #[.int .i64 (bt s a + bt s (a + 1) * 256), .int .i64 0]) ∧ w = w' := by
 go_enter Tryz.func78, Tryz.ntmps78
 go_wp2_with (go_at_call 98; refine (up_mk _ _).mono ?_; rintro e w' ⟨rfl, rfl⟩)
 refine (read_up2 _ _ _ hs h0 h1).mono ?_
 rintro e w1 ⟨rfl, rfl⟩
 go_wp2
 go_ret2
 exact ⟨rfl, rfl⟩

/-- The numbers of a record. -/
def num4 (s : ByteArray) (a : Int) : Int := bt s a + bt s (a + 1) * 256 + bt s (a + 2) * 65536 + bt s (a + 3) * 16777216
def num2 (s : ByteArray) (a : Int) : Int := bt s a + bt s (a + 1) * 256
theorem number4 (s : ByteArray) (a : Int) (c : Addr) (w : World) (hc : w.cell? c = some (.string s)) (hs : s.size ≤ 9223372036854775000) (h0 : 0 ≤ a) (h1 : a + 4 ≤ s.size) :
  Calls Tryz.prog 77 #[.int .i64 a, .int .i64 4, .pointer (some c)] w fun e w' => e = .returned (.int .i64 (num4 s a)) ∧ w' = w := by
 go_enter Tryz.func77, Tryz.ntmps77
 go_wp2_with (go_at_call 78; refine (rl4_same _ _ _ hs h0 h1).mono ?_; rintro e w' ⟨rfl, rfl⟩)
 go_ret
 exact ⟨rfl, rfl⟩
theorem number2 (s : ByteArray) (a : Int) (c : Addr) (w : World) (hc : w.cell? c = some (.string s)) (hs : s.size ≤ 9223372036854775000) (h0 : 0 ≤ a) (h1 : a + 2 ≤ s.size) :
  Calls Tryz.prog 77 #[.int .i64 a, .int .i64 2, .pointer (some c)] w fun e w' => e = .returned (.int .i64 (num2 s a)) ∧ w' = w := by
 go_enter Tryz.func77, Tryz.ntmps77
 go_wp2_with (go_at_call 78; refine (rl2_same _ _ _ hs h0 h1).mono ?_; rintro e w' ⟨rfl, rfl⟩)
 go_ret
 exact ⟨rfl, rfl⟩

def numK (s : ByteArray) (a k : Int) : Int := if k = 4 then num4 s a else num2 s a
theorem number_any (s : ByteArray) (a k : Int) (c : Addr) (w : World) (hc : w.cell? c = some (.string s)) (hs : s.size ≤ 9223372036854775000) (h0 : 0 ≤ a) (h1 : a + k ≤ s.size) (hk : k = 4 ∨ k = 2) :
  Calls Tryz.prog 77 #[.int .i64 a, .int .i64 k, .pointer (some c)] w fun e w' => e = .returned (.int .i64 (numK s a k)) ∧ w' = w := by
 unfold numK
 rcases hk with rfl | rfl
 ·rw [if_pos rfl]
  exact number4 s a c w hc hs h0 h1
 ·rw [if_neg (by omega)]
  exact number2 s a c w hc hs h0 h1

/-- dirrecord.padded, at a small number. -/
def padE (n : Int) : Int := (34 + n) / 2 * 2
theorem padded_any (n : Int) (w : World) (h0 : 0 ≤ n) (h1 : n ≤ 255) : Calls Tryz.prog 75 #[.int .i64 n] w fun e w' => e = .returned (.int .i64 (padE n)) ∧ w' = w := by
 go_enter Tryz.func75, Tryz.ntmps75
 go_wp2
 go_ret
 refine ⟨congrArg (fun z => Ending.returned (.int .i64 z)) ?_, rfl⟩
 show _ = padE n
 unfold padE
 omega

theorem blk_put8 {w : World} {g : Nat} {t : TypeId} {c0 c1 c2 c3 c4 c5 c6 c7 : Value} (h : w.heap[g]? = some (.cells #[c0, c1, c2, c3, c4, c5, c6, c7] t (0, 0))) (v0 v1 v2 v3 v4 v5 v6 v7 : Value) :
  ((((((((w.setCell ⟨g, 0, none⟩ v0).setCell ⟨g, 1, none⟩ v1).setCell ⟨g, 2, none⟩ v2).setCell ⟨g, 3, none⟩ v3).setCell ⟨g, 4, none⟩ v4).setCell ⟨g, 5, none⟩ v5).setCell ⟨g, 6, none⟩ v6).setCell ⟨g, 7, none⟩ v7).heap[g]? = some (.cells #[v0, v1, v2, v3, v4, v5, v6, v7] t (0, 0)) := by
 have h1 : (w.setCell ⟨g, 0, none⟩ v0).heap[g]? = some (.cells #[v0, c1, c2, c3, c4, c5, c6, c7] t (0, 0)) := blk_put h 0 v0 rfl
 have h2 : ((w.setCell ⟨g, 0, none⟩ v0).setCell ⟨g, 1, none⟩ v1).heap[g]? = some (.cells #[v0, v1, c2, c3, c4, c5, c6, c7] t (0, 0)) := blk_put h1 1 v1 rfl
 have h3 : (((w.setCell ⟨g, 0, none⟩ v0).setCell ⟨g, 1, none⟩ v1).setCell ⟨g, 2, none⟩ v2).heap[g]? = some (.cells #[v0, v1, v2, c3, c4, c5, c6, c7] t (0, 0)) := blk_put h2 2 v2 rfl
 have h4 : ((((w.setCell ⟨g, 0, none⟩ v0).setCell ⟨g, 1, none⟩ v1).setCell ⟨g, 2, none⟩ v2).setCell ⟨g, 3, none⟩ v3).heap[g]? = some (.cells #[v0, v1, v2, v3, c4, c5, c6, c7] t (0, 0)) := blk_put h3 3 v3 rfl
 have h5 : (((((w.setCell ⟨g, 0, none⟩ v0).setCell ⟨g, 1, none⟩ v1).setCell ⟨g, 2, none⟩ v2).setCell ⟨g, 3, none⟩ v3).setCell ⟨g, 4, none⟩ v4).heap[g]? = some (.cells #[v0, v1, v2, v3, v4, c5, c6, c7] t (0, 0)) := blk_put h4 4 v4 rfl
 have h6 : ((((((w.setCell ⟨g, 0, none⟩ v0).setCell ⟨g, 1, none⟩ v1).setCell ⟨g, 2, none⟩ v2).setCell ⟨g, 3, none⟩ v3).setCell ⟨g, 4, none⟩ v4).setCell ⟨g, 5, none⟩ v5).heap[g]? = some (.cells #[v0, v1, v2, v3, v4, v5, c6, c7] t (0, 0)) := blk_put h5 5 v5 rfl
 have h7 : (((((((w.setCell ⟨g, 0, none⟩ v0).setCell ⟨g, 1, none⟩ v1).setCell ⟨g, 2, none⟩ v2).setCell ⟨g, 3, none⟩ v3).setCell ⟨g, 4, none⟩ v4).setCell ⟨g, 5, none⟩ v5).setCell ⟨g, 6, none⟩ v6).heap[g]? = some (.cells #[v0, v1, v2, v3, v4, v5, v6, c7] t (0, 0)) := blk_put h6 6 v6 rfl
 have h8 : ((((((((w.setCell ⟨g, 0, none⟩ v0).setCell ⟨g, 1, none⟩ v1).setCell ⟨g, 2, none⟩ v2).setCell ⟨g, 3, none⟩ v3).setCell ⟨g, 4, none⟩ v4).setCell ⟨g, 5, none⟩ v5).setCell ⟨g, 6, none⟩ v6).setCell ⟨g, 7, none⟩ v7).heap[g]? = some (.cells #[v0, v1, v2, v3, v4, v5, v6, v7] t (0, 0)) := blk_put h7 7 v7 rfl
 exact h8
theorem below_put8 {B : Nat} {w0 w : World} {g : Nat} (h : Below B w0 w) (hg : B ≤ g) (v0 v1 v2 v3 v4 v5 v6 v7 : Value) :
  Below B w0 ((((((((w.setCell ⟨g, 0, none⟩ v0).setCell ⟨g, 1, none⟩ v1).setCell ⟨g, 2, none⟩ v2).setCell ⟨g, 3, none⟩ v3).setCell ⟨g, 4, none⟩ v4).setCell ⟨g, 5, none⟩ v5).setCell ⟨g, 6, none⟩ v6).setCell ⟨g, 7, none⟩ v7) := by
 refine Below.setCell (p := ⟨g, 7, none⟩) ?_ hg _
 refine Below.setCell (p := ⟨g, 6, none⟩) ?_ hg _
 refine Below.setCell (p := ⟨g, 5, none⟩) ?_ hg _
 refine Below.setCell (p := ⟨g, 4, none⟩) ?_ hg _
 refine Below.setCell (p := ⟨g, 3, none⟩) ?_ hg _
 refine Below.setCell (p := ⟨g, 2, none⟩) ?_ hg _
 refine Below.setCell (p := ⟨g, 1, none⟩) ?_ hg _
 refine Below.setCell (p := ⟨g, 0, none⟩) ?_ hg _
 exact h

/-- What dirrecord.Decode tells of a record. -/
abbrev decAgg (s : ByteArray) (t z : Int) : Array Value :=
 #[.string (s.extract 33 (33 + bt s 32).toNat), .int .i64 (numK s 2 4), .int .i64 (numK s 10 4), .int .i64 t, .int .i64 z, .int .i64 (bt s 25), .int .i64 (numK s 28 2), .string (s.extract (padE (bt s 32)).toNat (bt s 0).toNat)]

end Go.Proofs.YthblghfobnhoeaaGreat.H
namespace Go.Proofs.YthblghfobnhoeaaGreat.H
open Go.RowKit Go.Proofs.YthblghfobnhoeaaGreatW.PrintWords Go.Proofs.YthblghfobnhoeaaGreatW.PrintLast Go.Proofs.YthblghfobnhoeaaGreat.A
set_option linter.unusedVariables false

abbrev zeroRec : Array Value := #[.string ⟨#[]⟩, .int .i64 0, .int .i64 0, .int .i64 0, .int .i64 0, .int .i64 0, .int .i64 0, .string ⟨#[]⟩]
theorem new2 (w : World) (o : Obj) (c : Array Value) (t : TypeId) : ((w.alloc o).alloc (.cells c t)).heap[w.heap.size + 1]? = some (.cells c t (0, 0)) := by
 show ((w.heap.push _).push _)[w.heap.size + 1]? = _
 rw [Array.getElem?_push, if_pos (by simp)]
theorem below2 (w : World) (o o2 : Obj) : Below w.heap.size w ((w.alloc o).alloc o2) := ((Below.refl _ w).alloc (Nat.le_refl _) o).alloc (by simp) o2

set_option maxRecDepth 100000 in
set_option maxHeartbeats 8000000 in
theorem decode_short (s : ByteArray) (w : World) (hs : s.size ≤ 9223372036854775000) (h34 : s.size < 34) :
  Calls Tryz.prog 50 #[.string s] w fun e w' => e = .returned (.tuple #[.agg zeroRec, .int .i64 0, .int .i64 10]) ∧ Below w.heap.size w w' := by
 have l0 : decide ((s.size : Int) < 34) = true := decide_eq_true (by omega)
 go_enter Tryz.func50, Tryz.ntmps50
 go_wp2
 refine bodyPost_ret (results_ctt rfl _ _ (w.heap.size + 1) 45 zeroRec (0, 0) _ rfl ?_ Tryz.underlying45 rfl (by kernel_rfl)) rfl ⟨rfl, ?_⟩
 ·first | exact new2 _ _ _ _ | exact blk_drewN (new2 _ _ _ _) _ | exact blk_put8 (new2 _ _ _ _) _ _ _ _ _ _ _ _ | exact blk_drewN (blk_put8 (new2 _ _ _ _) _ _ _ _ _ _ _ _) _ | exact blk_put8 (blk_drewN (new2 _ _ _ _) _) _ _ _ _ _ _ _ _
 ·first | exact below2 _ _ _ | exact below_drewN (below2 _ _ _) _ | exact below_put8 (below2 _ _ _) (by omega) _ _ _ _ _ _ _ _ | exact below_drewN (below_put8 (below2 _ _ _) (by omega) _ _ _ _ _ _ _ _) _ | exact below_put8 (below_drewN (below2 _ _ _) _) (by omega) _ _ _ _ _ _ _ _

set_option maxRecDepth 100000 in
set_option maxHeartbeats 8000000 in
theorem decode_bad0 (s : ByteArray) (w : World) (hs : s.size ≤ 9223372036854775000) (h34 : 34 ≤ s.size)  (q0 : (bt s 0 % 2 != 0) = true) :
  Calls Tryz.prog 50 #[.string s] w fun e w' => e = .returned (.tuple #[.agg zeroRec, .int .i64 0, .int .i64 10]) ∧ Below w.heap.size w w' := by
 have b0 := bt_range s 0
 have b32 := bt_range s 32
 have hx0 : ∀ h : 0 < s.size, ((s[0]'h).toNat : Int) = bt s 0 := bt_at s 0
 have hx32 : ∀ h : 32 < s.size, ((s[32]'h).toNat : Int) = bt s 32 := bt_at s 32
 have hx1 : ∀ h : 1 < s.size, ((s[1]'h).toNat : Int) = bt s 1 := bt_at s 1
 have hx26 : ∀ h : 26 < s.size, ((s[26]'h).toNat : Int) = bt s 26 := bt_at s 26
 have hx27 : ∀ h : 27 < s.size, ((s[27]'h).toNat : Int) = bt s 27 := bt_at s 27
 have l0 : (34 : Int) ≤ (s.size : Int) := by omega
 go_enter Tryz.func50, Tryz.ntmps50
 go_wp2
 go_quiet (fail)
 go_wp2_with (go_at_call 75; refine (padded_any _ _ (by omega) (by omega)).mono ?_; rintro e w' ⟨rfl, rfl⟩)
 refine bodyPost_ret (results_ctt rfl _ _ (w.heap.size + 1) 45 zeroRec (0, 0) _ rfl ?_ Tryz.underlying45 rfl (by kernel_rfl)) rfl ⟨rfl, ?_⟩
 ·exact blk_put8 (blk_drewN (new2 _ _ _ _) _) _ _ _ _ _ _ _ _
 ·exact below_put8 (below_drewN (below2 _ _ _) _) (by omega) _ _ _ _ _ _ _ _

set_option maxRecDepth 100000 in
set_option maxHeartbeats 8000000 in
theorem decode_bad1 (s : ByteArray) (w : World) (hs : s.size ≤ 9223372036854775000) (h34 : 34 ≤ s.size) (q0 : (bt s 0 % 2 != 0) = false) (q1 : decide (bt s 0 < 34) = true) :
  Calls Tryz.prog 50 #[.string s] w fun e w' => e = .returned (.tuple #[.agg zeroRec, .int .i64 0, .int .i64 10]) ∧ Below w.heap.size w w' := by
 have b0 := bt_range s 0
 have b32 := bt_range s 32
 have hx0 : ∀ h : 0 < s.size, ((s[0]'h).toNat : Int) = bt s 0 := bt_at s 0
 have hx32 : ∀ h : 32 < s.size, ((s[32]'h).toNat : Int) = bt s 32 := bt_at s 32
 have hx1 : ∀ h : 1 < s.size, ((s[1]'h).toNat : Int) = bt s 1 := bt_at s 1
 have hx26 : ∀ h : 26 < s.size, ((s[26]'h).toNat : Int) = bt s 26 := bt_at s 26
 have hx27 : ∀ h : 27 < s.size, ((s[27]'h).toNat : Int) = bt s 27 := bt_at s 27
 have l0 : (34 : Int) ≤ (s.size : Int) := by omega
 go_enter Tryz.func50, Tryz.ntmps50
 go_wp2
 go_quiet (fail)
 go_wp2_with (go_at_call 75; refine (padded_any _ _ (by omega) (by omega)).mono ?_; rintro e w' ⟨rfl, rfl⟩)
 refine bodyPost_ret (results_ctt rfl _ _ (w.heap.size + 1) 45 zeroRec (0, 0) _ rfl ?_ Tryz.underlying45 rfl (by kernel_rfl)) rfl ⟨rfl, ?_⟩
 ·exact blk_put8 (blk_drewN (new2 _ _ _ _) _) _ _ _ _ _ _ _ _
 ·exact below_put8 (below_drewN (below2 _ _ _) _) (by omega) _ _ _ _ _ _ _ _

set_option maxRecDepth 100000 in
set_option maxHeartbeats 8000000 in
theorem decode_bad2 (s : ByteArray) (w : World) (hs : s.size ≤ 9223372036854775000) (h34 : 34 ≤ s.size) (q0 : (bt s 0 % 2 != 0) = false) (q1 : decide (bt s 0 < 34) = false) (q2 : decide ((s.size : Int) < bt s 0) = true) :
  Calls Tryz.prog 50 #[.string s] w fun e w' => e = .returned (.tuple #[.agg zeroRec, .int .i64 0, .int .i64 10]) ∧ Below w.heap.size w w' := by
 have b0 := bt_range s 0
 have b32 := bt_range s 32
 have hx0 : ∀ h : 0 < s.size, ((s[0]'h).toNat : Int) = bt s 0 := bt_at s 0
 have hx32 : ∀ h : 32 < s.size, ((s[32]'h).toNat : Int) = bt s 32 := bt_at s 32
 have hx1 : ∀ h : 1 < s.size, ((s[1]'h).toNat : Int) = bt s 1 := bt_at s 1
 have hx26 : ∀ h : 26 < s.size, ((s[26]'h).toNat : Int) = bt s 26 := bt_at s 26
 have hx27 : ∀ h : 27 < s.size, ((s[27]'h).toNat : Int) = bt s 27 := bt_at s 27
 have l0 : (34 : Int) ≤ (s.size : Int) := by omega
 go_enter Tryz.func50, Tryz.ntmps50
 go_wp2
 go_quiet (fail)
 go_wp2_with (go_at_call 75; refine (padded_any _ _ (by omega) (by omega)).mono ?_; rintro e w' ⟨rfl, rfl⟩)
 refine bodyPost_ret (results_ctt rfl _ _ (w.heap.size + 1) 45 zeroRec (0, 0) _ rfl ?_ Tryz.underlying45 rfl (by kernel_rfl)) rfl ⟨rfl, ?_⟩
 ·exact blk_put8 (blk_drewN (new2 _ _ _ _) _) _ _ _ _ _ _ _ _
 ·exact below_put8 (below_drewN (below2 _ _ _) _) (by omega) _ _ _ _ _ _ _ _

set_option maxRecDepth 100000 in
set_option maxHeartbeats 8000000 in
theorem decode_bad3 (s : ByteArray) (w : World) (hs : s.size ≤ 9223372036854775000) (h34 : 34 ≤ s.size) (q0 : (bt s 0 % 2 != 0) = false) (q1 : decide (bt s 0 < 34) = false) (q2 : decide ((s.size : Int) < bt s 0) = false) (q3 : (bt s 32 == 0) = true) :
  Calls Tryz.prog 50 #[.string s] w fun e w' => e = .returned (.tuple #[.agg zeroRec, .int .i64 0, .int .i64 10]) ∧ Below w.heap.size w w' := by
 have b0 := bt_range s 0
 have b32 := bt_range s 32
 have hx0 : ∀ h : 0 < s.size, ((s[0]'h).toNat : Int) = bt s 0 := bt_at s 0
 have hx32 : ∀ h : 32 < s.size, ((s[32]'h).toNat : Int) = bt s 32 := bt_at s 32
 have hx1 : ∀ h : 1 < s.size, ((s[1]'h).toNat : Int) = bt s 1 := bt_at s 1
 have hx26 : ∀ h : 26 < s.size, ((s[26]'h).toNat : Int) = bt s 26 := bt_at s 26
 have hx27 : ∀ h : 27 < s.size, ((s[27]'h).toNat : Int) = bt s 27 := bt_at s 27
 have l0 : (34 : Int) ≤ (s.size : Int) := by omega
 go_enter Tryz.func50, Tryz.ntmps50
 go_wp2
 go_quiet (fail)
 go_wp2_with (go_at_call 75; refine (padded_any _ _ (by omega) (by omega)).mono ?_; rintro e w' ⟨rfl, rfl⟩)
 refine bodyPost_ret (results_ctt rfl _ _ (w.heap.size + 1) 45 zeroRec (0, 0) _ rfl ?_ Tryz.underlying45 rfl (by kernel_rfl)) rfl ⟨rfl, ?_⟩
 ·exact blk_put8 (blk_drewN (new2 _ _ _ _) _) _ _ _ _ _ _ _ _
 ·exact below_put8 (below_drewN (below2 _ _ _) _) (by omega) _ _ _ _ _ _ _ _

set_option maxRecDepth 100000 in
set_option maxHeartbeats 8000000 in
theorem decode_bad4 (s : ByteArray) (w : World) (hs : s.size ≤ 9223372036854775000) (h34 : 34 ≤ s.size) (q0 : (bt s 0 % 2 != 0) = false) (q1 : decide (bt s 0 < 34) = false) (q2 : decide ((s.size : Int) < bt s 0) = false) (q3 : (bt s 32 == 0) = false) (q4 : decide (bt s 0 < padE (bt s 32)) = true) :
  Calls Tryz.prog 50 #[.string s] w fun e w' => e = .returned (.tuple #[.agg zeroRec, .int .i64 0, .int .i64 10]) ∧ Below w.heap.size w w' := by
 have b0 := bt_range s 0
 have b32 := bt_range s 32
 have hx0 : ∀ h : 0 < s.size, ((s[0]'h).toNat : Int) = bt s 0 := bt_at s 0
 have hx32 : ∀ h : 32 < s.size, ((s[32]'h).toNat : Int) = bt s 32 := bt_at s 32
 have hx1 : ∀ h : 1 < s.size, ((s[1]'h).toNat : Int) = bt s 1 := bt_at s 1
 have hx26 : ∀ h : 26 < s.size, ((s[26]'h).toNat : Int) = bt s 26 := bt_at s 26
 have hx27 : ∀ h : 27 < s.size, ((s[27]'h).toNat : Int) = bt s 27 := bt_at s 27
 have l0 : (34 : Int) ≤ (s.size : Int) := by omega
 go_enter Tryz.func50, Tryz.ntmps50
 go_wp2
 go_quiet (fail)
 go_wp2_with (go_at_call 75; refine (padded_any _ _ (by omega) (by omega)).mono ?_; rintro e w' ⟨rfl, rfl⟩)
 refine bodyPost_ret (results_ctt rfl _ _ (w.heap.size + 1) 45 zeroRec (0, 0) _ rfl ?_ Tryz.underlying45 rfl (by kernel_rfl)) rfl ⟨rfl, ?_⟩
 ·exact blk_put8 (blk_drewN (new2 _ _ _ _) _) _ _ _ _ _ _ _ _
 ·exact below_put8 (below_drewN (below2 _ _ _) _) (by omega) _ _ _ _ _ _ _ _

set_option maxRecDepth 100000 in
set_option maxHeartbeats 8000000 in
theorem decode_uns0 (s : ByteArray) (w : World) (hs : s.size ≤ 9223372036854775000) (h34 : 34 ≤ s.size) (q0 : (bt s 0 % 2 != 0) = false) (q1 : decide (bt s 0 < 34) = false) (q2 : decide ((s.size : Int) < bt s 0) = false) (q3 : (bt s 32 == 0) = false) (q4 : decide (bt s 0 < padE (bt s 32)) = false)  (p0 : (bt s 1 != 0) = true) :
  Calls Tryz.prog 50 #[.string s] w fun e w' => e = .returned (.tuple #[.agg zeroRec, .int .i64 0, .int .i64 14]) ∧ Below w.heap.size w w' := by
 have b0 := bt_range s 0
 have b32 := bt_range s 32
 have hx0 : ∀ h : 0 < s.size, ((s[0]'h).toNat : Int) = bt s 0 := bt_at s 0
 have hx32 : ∀ h : 32 < s.size, ((s[32]'h).toNat : Int) = bt s 32 := bt_at s 32
 have hx1 : ∀ h : 1 < s.size, ((s[1]'h).toNat : Int) = bt s 1 := bt_at s 1
 have hx26 : ∀ h : 26 < s.size, ((s[26]'h).toNat : Int) = bt s 26 := bt_at s 26
 have hx27 : ∀ h : 27 < s.size, ((s[27]'h).toNat : Int) = bt s 27 := bt_at s 27
 have l0 : (34 : Int) ≤ (s.size : Int) := by omega
 go_enter Tryz.func50, Tryz.ntmps50
 go_wp2
 go_quiet (fail)
 go_wp2_with (go_at_call 75; refine (padded_any _ _ (by omega) (by omega)).mono ?_; rintro e w' ⟨rfl, rfl⟩)
 refine bodyPost_ret (results_ctt rfl _ _ (w.heap.size + 1) 45 zeroRec (0, 0) _ rfl ?_ Tryz.underlying45 rfl (by kernel_rfl)) rfl ⟨rfl, ?_⟩
 ·exact blk_put8 (blk_drewN (new2 _ _ _ _) _) _ _ _ _ _ _ _ _
 ·exact below_put8 (below_drewN (below2 _ _ _) _) (by omega) _ _ _ _ _ _ _ _

set_option maxRecDepth 100000 in
set_option maxHeartbeats 8000000 in
theorem decode_uns1 (s : ByteArray) (w : World) (hs : s.size ≤ 9223372036854775000) (h34 : 34 ≤ s.size) (q0 : (bt s 0 % 2 != 0) = false) (q1 : decide (bt s 0 < 34) = false) (q2 : decide ((s.size : Int) < bt s 0) = false) (q3 : (bt s 32 == 0) = false) (q4 : decide (bt s 0 < padE (bt s 32)) = false) (p0 : (bt s 1 != 0) = false) (p1 : (bt s 26 != 0) = true) :
  Calls Tryz.prog 50 #[.string s] w fun e w' => e = .returned (.tuple #[.agg zeroRec, .int .i64 0, .int .i64 14]) ∧ Below w.heap.size w w' := by
 have b0 := bt_range s 0
 have b32 := bt_range s 32
 have hx0 : ∀ h : 0 < s.size, ((s[0]'h).toNat : Int) = bt s 0 := bt_at s 0
 have hx32 : ∀ h : 32 < s.size, ((s[32]'h).toNat : Int) = bt s 32 := bt_at s 32
 have hx1 : ∀ h : 1 < s.size, ((s[1]'h).toNat : Int) = bt s 1 := bt_at s 1
 have hx26 : ∀ h : 26 < s.size, ((s[26]'h).toNat : Int) = bt s 26 := bt_at s 26
 have hx27 : ∀ h : 27 < s.size, ((s[27]'h).toNat : Int) = bt s 27 := bt_at s 27
 have l0 : (34 : Int) ≤ (s.size : Int) := by omega
 go_enter Tryz.func50, Tryz.ntmps50
 go_wp2
 go_quiet (fail)
 go_wp2_with (go_at_call 75; refine (padded_any _ _ (by omega) (by omega)).mono ?_; rintro e w' ⟨rfl, rfl⟩)
 refine bodyPost_ret (results_ctt rfl _ _ (w.heap.size + 1) 45 zeroRec (0, 0) _ rfl ?_ Tryz.underlying45 rfl (by kernel_rfl)) rfl ⟨rfl, ?_⟩
 ·exact blk_put8 (blk_drewN (new2 _ _ _ _) _) _ _ _ _ _ _ _ _
 ·exact below_put8 (below_drewN (below2 _ _ _) _) (by omega) _ _ _ _ _ _ _ _

set_option maxRecDepth 100000 in
set_option maxHeartbeats 8000000 in
theorem decode_uns2 (s : ByteArray) (w : World) (hs : s.size ≤ 9223372036854775000) (h34 : 34 ≤ s.size) (q0 : (bt s 0 % 2 != 0) = false) (q1 : decide (bt s 0 < 34) = false) (q2 : decide ((s.size : Int) < bt s 0) = false) (q3 : (bt s 32 == 0) = false) (q4 : decide (bt s 0 < padE (bt s 32)) = false) (p0 : (bt s 1 != 0) = false) (p1 : (bt s 26 != 0) = false) (p2 : (bt s 27 != 0) = true) :
  Calls Tryz.prog 50 #[.string s] w fun e w' => e = .returned (.tuple #[.agg zeroRec, .int .i64 0, .int .i64 14]) ∧ Below w.heap.size w w' := by
 have b0 := bt_range s 0
 have b32 := bt_range s 32
 have hx0 : ∀ h : 0 < s.size, ((s[0]'h).toNat : Int) = bt s 0 := bt_at s 0
 have hx32 : ∀ h : 32 < s.size, ((s[32]'h).toNat : Int) = bt s 32 := bt_at s 32
 have hx1 : ∀ h : 1 < s.size, ((s[1]'h).toNat : Int) = bt s 1 := bt_at s 1
 have hx26 : ∀ h : 26 < s.size, ((s[26]'h).toNat : Int) = bt s 26 := bt_at s 26
 have hx27 : ∀ h : 27 < s.size, ((s[27]'h).toNat : Int) = bt s 27 := bt_at s 27
 have l0 : (34 : Int) ≤ (s.size : Int) := by omega
 go_enter Tryz.func50, Tryz.ntmps50
 go_wp2
 go_quiet (fail)
 go_wp2_with (go_at_call 75; refine (padded_any _ _ (by omega) (by omega)).mono ?_; rintro e w' ⟨rfl, rfl⟩)
 refine bodyPost_ret (results_ctt rfl _ _ (w.heap.size + 1) 45 zeroRec (0, 0) _ rfl ?_ Tryz.underlying45 rfl (by kernel_rfl)) rfl ⟨rfl, ?_⟩
 ·exact blk_put8 (blk_drewN (new2 _ _ _ _) _) _ _ _ _ _ _ _ _
 ·exact below_put8 (below_drewN (below2 _ _ _) _) (by omega) _ _ _ _ _ _ _ _

set_option maxRecDepth 100000 in
set_option maxHeartbeats 8000000 in
theorem decode_date (k : Nat) (s : ByteArray) (t z e : Int) (w : World) (hs : s.size ≤ 9223372036854775000) (h34 : 34 ≤ s.size) (q0 : (bt s 0 % 2 != 0) = false) (q1 : decide (bt s 0 < 34) = false) (q2 : decide ((s.size : Int) < bt s 0) = false) (q3 : (bt s 32 == 0) = false) (q4 : decide (bt s 0 < padE (bt s 32)) = false) (p0 : (bt s 1 != 0) = false) (p1 : (bt s 26 != 0) = false) (p2 : (bt s 27 != 0) = false) (hr : datetime_ReadRecord.f k (s.extract 18 25) = some (t, z, e)) (he : (e != 0) = true) :
  Calls Tryz.prog 50 #[.string s] w fun ev w' => ev = .returned (.tuple #[.agg zeroRec, .int .i64 0, .int .i64 e]) ∧ Below w.heap.size w w' := by
 have HR := Lib.hid hr
 clear hr
 have b0 := bt_range s 0
 have b32 := bt_range s 32
 have hx0 : ∀ h : 0 < s.size, ((s[0]'h).toNat : Int) = bt s 0 := bt_at s 0
 have hx32 : ∀ h : 32 < s.size, ((s[32]'h).toNat : Int) = bt s 32 := bt_at s 32
 have hx1 : ∀ h : 1 < s.size, ((s[1]'h).toNat : Int) = bt s 1 := bt_at s 1
 have hx26 : ∀ h : 26 < s.size, ((s[26]'h).toNat : Int) = bt s 26 := bt_at s 26
 have hx27 : ∀ h : 27 < s.size, ((s[27]'h).toNat : Int) = bt s 27 := bt_at s 27
 have l0 : (34 : Int) ≤ (s.size : Int) := by omega
 go_enter Tryz.func50, Tryz.ntmps50
 go_wp2
 go_quiet (fail)
 go_wp2_with (go_at_call 75; refine (padded_any _ _ (by omega) (by omega)).mono ?_; rintro e w' ⟨rfl, rfl⟩)
 refine (datetime_ReadRecord.calls k _ _ _ _ _ HR.out).mono ?_
 rintro ev w1 ⟨rfl, hb⟩
 have hR : w1.heap[w.heap.size + 1]? = some (.cells zeroRec 45 (0, 0)) := by
  rw [hb.block _ (by simp [World.drewN])]
  exact new2 w (.cells #[.string s] 9) zeroRec 45
 have hbe : Below w.heap.size w w1 := Below.trans (below_drewN (below2 w (.cells #[.string s] 9) (.cells zeroRec 45)) _) (hb.mono (by simp [World.drewN]; omega))
 have d0 : w1.cell? ⟨w.heap.size + 1, 0, none⟩ = some (.string ⟨#[]⟩) := by simp [World.cell?, hR]
 have d1 : w1.cell? ⟨w.heap.size + 1, 1, none⟩ = some (.int .i64 0) := by simp [World.cell?, hR]
 have d2 : w1.cell? ⟨w.heap.size + 1, 2, none⟩ = some (.int .i64 0) := by simp [World.cell?, hR]
 have d3 : w1.cell? ⟨w.heap.size + 1, 3, none⟩ = some (.int .i64 0) := by simp [World.cell?, hR]
 have d4 : w1.cell? ⟨w.heap.size + 1, 4, none⟩ = some (.int .i64 0) := by simp [World.cell?, hR]
 have d5 : w1.cell? ⟨w.heap.size + 1, 5, none⟩ = some (.int .i64 0) := by simp [World.cell?, hR]
 have d6 : w1.cell? ⟨w.heap.size + 1, 6, none⟩ = some (.int .i64 0) := by simp [World.cell?, hR]
 have d7 : w1.cell? ⟨w.heap.size + 1, 7, none⟩ = some (.string ⟨#[]⟩) := by simp [World.cell?, hR]
 have f0 : ∀ j, w1.frozen? ⟨w.heap.size + 1, j, none⟩ = false := by intro j; simp [World.frozen?, hR]
 have HB := Lib.hid hbe
 have HR8 := Lib.hid hR
 clear hb hR hbe
 go_wp2
 refine bodyPost_ret (results_ctt rfl _ _ (w.heap.size + 1) 45 zeroRec (0, 0) _ rfl ?_ Tryz.underlying45 rfl (by kernel_rfl)) rfl ⟨rfl, ?_⟩
 ·exact blk_put8 HR8.out _ _ _ _ _ _ _ _
 ·exact below_put8 HB.out (by omega) _ _ _ _ _ _ _ _

end Go.Proofs.YthblghfobnhoeaaGreat.H
namespace Go.Proofs.YthblghfobnhoeaaGreat.H
open Go.RowKit Go.Proofs.YthblghfobnhoeaaGreatW.PrintWords Go.Proofs.YthblghfobnhoeaaGreatW.PrintLast Go.Proofs.YthblghfobnhoeaaGreat.A
set_option linter.unusedVariables false

set_option maxRecDepth 100000 in
set_option maxHeartbeats 16000000 in
theorem decode_ok (k : Nat) (s : ByteArray) (t z : Int) (w : World) (hs : s.size ≤ 9223372036854775000) (h34 : 34 ≤ s.size)
    (q0 : (bt s 0 % 2 != 0) = false) (q1 : decide (bt s 0 < 34) = false) (q2 : decide ((s.size : Int) < bt s 0) = false) (q3 : (bt s 32 == 0) = false) (q4 : decide (bt s 0 < padE (bt s 32)) = false)
    (p0 : (bt s 1 != 0) = false) (p1 : (bt s 26 != 0) = false) (p2 : (bt s 27 != 0) = false)
    (hr : datetime_ReadRecord.f k (s.extract 18 25) = some (t, z, 0)) :
    Calls Tryz.prog 50 #[.string s] w fun e w' => e = .returned (.tuple #[.agg (decAgg s t z), .int .i64 (bt s 0), .int .i64 0]) ∧ Below w.heap.size w w' := by
  have HR := Lib.hid hr
  clear hr
  have b0 := bt_range s 0
  have b32 := bt_range s 32
  have hx0 : ∀ h : 0 < s.size, ((s[0]'h).toNat : Int) = bt s 0 := bt_at s 0
  have hx32 : ∀ h : 32 < s.size, ((s[32]'h).toNat : Int) = bt s 32 := bt_at s 32
  have hx1 : ∀ h : 1 < s.size, ((s[1]'h).toNat : Int) = bt s 1 := bt_at s 1
  have hx26 : ∀ h : 26 < s.size, ((s[26]'h).toNat : Int) = bt s 26 := bt_at s 26
  have hx27 : ∀ h : 27 < s.size, ((s[27]'h).toNat : Int) = bt s 27 := bt_at s 27
  have l0 : (34 : Int) ≤ (s.size : Int) := by omega
  have g2 : bt s 0 ≤ (s.size : Int) := by have := of_decide_eq_false q2; omega
  have g4 : padE (bt s 32) ≤ bt s 0 := by have := of_decide_eq_false q4; omega
  have g5 : 33 + bt s 32 ≤ (s.size : Int) := by unfold padE at g4; omega
  have g6 : (0 : Int) ≤ padE (bt s 32) := by unfold padE; omega
  have g7 : (33 : Int) ≤ 33 + bt s 32 := by omega
  have g8 : IntKind.i64.wrap (33 + bt s 32) = 33 + bt s 32 := by rw [IntKind.wrap_i64]; omega
  go_enter Tryz.func50, Tryz.ntmps50
  go_wp2
  go_quiet (fail)
  go_wp2_with (go_at_call 75; refine (padded_any _ _ (by omega) (by omega)).mono ?_; rintro e w' ⟨rfl, rfl⟩)
  refine (datetime_ReadRecord.calls k _ _ _ _ _ HR.out).mono ?_
  rintro e w1 ⟨rfl, hb⟩
  have cs : w1.cell? ⟨w.heap.size, 0, none⟩ = some (.string s) := by rw [hb.cell (by simp [World.drewN]; omega)]; go_simp
  have d0 : w1.cell? ⟨w.heap.size + 1, 0, none⟩ = some (.string ⟨#[]⟩) := by rw [hb.cell (by simp [World.drewN])]; go_simp
  have d1 : w1.cell? ⟨w.heap.size + 1, 1, none⟩ = some (.int .i64 0) := by rw [hb.cell (by simp [World.drewN])]; go_simp
  have d2 : w1.cell? ⟨w.heap.size + 1, 2, none⟩ = some (.int .i64 0) := by rw [hb.cell (by simp [World.drewN])]; go_simp
  have d3 : w1.cell? ⟨w.heap.size + 1, 3, none⟩ = some (.int .i64 0) := by rw [hb.cell (by simp [World.drewN])]; go_simp
  have d4 : w1.cell? ⟨w.heap.size + 1, 4, none⟩ = some (.int .i64 0) := by rw [hb.cell (by simp [World.drewN])]; go_simp
  have d5 : w1.cell? ⟨w.heap.size + 1, 5, none⟩ = some (.int .i64 0) := by rw [hb.cell (by simp [World.drewN])]; go_simp
  have d6 : w1.cell? ⟨w.heap.size + 1, 6, none⟩ = some (.int .i64 0) := by rw [hb.cell (by simp [World.drewN])]; go_simp
  have d7 : w1.cell? ⟨w.heap.size + 1, 7, none⟩ = some (.string ⟨#[]⟩) := by rw [hb.cell (by simp [World.drewN])]; go_simp
  have f0 : ∀ j, w1.frozen? ⟨w.heap.size + 1, j, none⟩ = false := by intro j; rw [hb.frozen (by simp [World.drewN])]; go_simp
  have hR : w1.heap[w.heap.size + 1]? = some (.cells #[.string ⟨#[]⟩, .int .i64 0, .int .i64 0, .int .i64 0, .int .i64 0, .int .i64 0, .int .i64 0, .string ⟨#[]⟩] 45 (0, 0)) := by
    rw [hb.block _ (by simp [World.drewN])]
    show ((w.heap.push _).push _)[w.heap.size + 1]? = _
    rw [Array.getElem?_push, if_pos (by simp)]
  have hbe : Below w.heap.size w w1 := by
    refine Below.trans (below_drewN (((Below.refl _ w).alloc (Nat.le_refl _) (.cells #[.string s] 9)).alloc (by simp) (.cells #[.string ⟨#[]⟩, .int .i64 0, .int .i64 0, .int .i64 0, .int .i64 0, .int .i64 0, .int .i64 0, .string ⟨#[]⟩] 45)) _) (hb.mono (by simp [World.drewN]; omega))
  have HB := Lib.hid hbe
  have HR8 := Lib.hid hR
  have hx25 : ∀ h : 25 < s.size, ((s[25]'h).toNat : Int) = bt s 25 := bt_at s 25
  have b25 := bt_range s 25
  clear hb hR hbe
  go_wp2
  go_region_held3 (fun w' => w'.cell? ⟨w.heap.size, 0, none⟩ = some (.string s)) (first | go_keep | assumption)
    (first | (go_at_call 77; refine (number_any s _ _ _ _ (by assumption) hs (by omega) (by omega) (by omega)).mono ?_; rintro e w' ⟨rfl, rfl⟩) | (go_at_call 75; refine (padded_any _ _ (by omega) (by omega)).mono ?_; rintro e w' ⟨rfl, rfl⟩))
  all_goals (have g25 : IntKind.i64.wrap (bt s 25) = bt s 25 := by rw [IntKind.wrap_i64]; omega)
  all_goals (rename_i K hK h25 hH; refine hK _ _ (wp_ret ?_))
  all_goals rw [g25]
  all_goals refine bodyPost_ret (results_ctt rfl _ _ (w.heap.size + 1) 45 (decAgg s t z) (0, 0) _ rfl ?_ Tryz.underlying45 rfl (by kernel_rfl)) rfl ⟨rfl, ?_⟩
  all_goals first | exact blk_drew (blk_put8 HR8.out _ _ _ _ _ _ _ _) | exact (below_put8 HB.out (by omega) _ _ _ _ _ _ _ _).drew

end Go.Proofs.YthblghfobnhoeaaGreat.H
namespace Go.Proofs.YthblghfobnhoeaaGreat.H
open Go.RowKit Go.Proofs.YthblghfobnhoeaaGreatW.PrintWords Go.Proofs.YthblghfobnhoeaaGreatW.PrintLast Go.Proofs.YthblghfobnhoeaaGreat.A
set_option linter.unusedVariables false

/-- dirrecord.Decode. -/
def dirrecord_Decode.f (k : Nat) (s : ByteArray) : Option (ByteArray × Int × Int × Int × Int × Int × Int × ByteArray × Int × Int) :=
 if s.size ≤ 9223372036854775000 then
  if s.size < 34 then some ((⟨#[]⟩ : ByteArray), 0, 0, 0, 0, 0, 0, (⟨#[]⟩ : ByteArray), 0, 10)
  else if (bt s 0 % 2 != 0) || (decide (bt s 0 < 34) || (decide ((s.size : Int) < bt s 0) || ((bt s 32 == 0) || decide (bt s 0 < padE (bt s 32))))) then some ((⟨#[]⟩ : ByteArray), 0, 0, 0, 0, 0, 0, (⟨#[]⟩ : ByteArray), 0, 10)
  else if (bt s 1 != 0) || ((bt s 26 != 0) || (bt s 27 != 0)) then some ((⟨#[]⟩ : ByteArray), 0, 0, 0, 0, 0, 0, (⟨#[]⟩ : ByteArray), 0, 14)
  else (datetime_ReadRecord.f k (s.extract 18 25)).bind fun d =>
   if d.2.2 = 0 then some (s.extract 33 (33 + bt s 32).toNat, numK s 2 4, numK s 10 4, d.1, d.2.1, bt s 25, numK s 28 2, s.extract (padE (bt s 32)).toNat (bt s 0).toNat, bt s 0, 0)
   else some ((⟨#[]⟩ : ByteArray), 0, 0, 0, 0, 0, 0, (⟨#[]⟩ : ByteArray), 0, d.2.2)
 else none
theorem dirrecord_Decode.calls (k : Nat) (s : ByteArray) (r1 : ByteArray) (r2 r3 r4 r5 r6 r7 : Int) (r8 : ByteArray) (r9 r10 : Int) (w : World) (h : dirrecord_Decode.f k s = some (r1, r2, r3, r4, r5, r6, r7, r8, r9, r10)) :
  Calls Tryz.prog 50 #[.string s] w fun e w' => e = .returned (.tuple #[.agg #[.string r1, .int .i64 r2, .int .i64 r3, .int .i64 r4, .int .i64 r5, .int .i64 r6, .int .i64 r7, .string r8], .int .i64 r9, .int .i64 r10]) ∧ Below w.heap.size w w' := by
 unfold dirrecord_Decode.f at h
 by_cases hs : s.size ≤ 9223372036854775000
 ·rw [if_pos hs] at h
  by_cases h34 : s.size < 34
  ·rw [if_pos h34] at h
   simp only [Option.some.injEq, Prod.mk.injEq] at h
   obtain ⟨rfl, rfl, rfl, rfl, rfl, rfl, rfl, rfl, rfl, rfl⟩ := h
   exact decode_short s w hs h34
  ·rw [if_neg h34] at h
   replace h34 : 34 ≤ s.size := by omega
   cases q0 : (bt s 0 % 2 != 0)
   rotate_left
   ·rw [if_pos (by simp [q0])] at h
    simp only [Option.some.injEq, Prod.mk.injEq] at h
    obtain ⟨rfl, rfl, rfl, rfl, rfl, rfl, rfl, rfl, rfl, rfl⟩ := h
    exact decode_bad0 s w hs h34 q0
   cases q1 : decide (bt s 0 < 34)
   rotate_left
   ·rw [if_pos (by simp [q0, q1])] at h
    simp only [Option.some.injEq, Prod.mk.injEq] at h
    obtain ⟨rfl, rfl, rfl, rfl, rfl, rfl, rfl, rfl, rfl, rfl⟩ := h
    exact decode_bad1 s w hs h34 q0 q1
   cases q2 : decide ((s.size : Int) < bt s 0)
   rotate_left
   ·rw [if_pos (by simp [q0, q1, q2])] at h
    simp only [Option.some.injEq, Prod.mk.injEq] at h
    obtain ⟨rfl, rfl, rfl, rfl, rfl, rfl, rfl, rfl, rfl, rfl⟩ := h
    exact decode_bad2 s w hs h34 q0 q1 q2
   cases q3 : (bt s 32 == 0)
   rotate_left
   ·rw [if_pos (by simp [q0, q1, q2, q3])] at h
    simp only [Option.some.injEq, Prod.mk.injEq] at h
    obtain ⟨rfl, rfl, rfl, rfl, rfl, rfl, rfl, rfl, rfl, rfl⟩ := h
    exact decode_bad3 s w hs h34 q0 q1 q2 q3
   cases q4 : decide (bt s 0 < padE (bt s 32))
   rotate_left
   ·rw [if_pos (by simp [q0, q1, q2, q3, q4])] at h
    simp only [Option.some.injEq, Prod.mk.injEq] at h
    obtain ⟨rfl, rfl, rfl, rfl, rfl, rfl, rfl, rfl, rfl, rfl⟩ := h
    exact decode_bad4 s w hs h34 q0 q1 q2 q3 q4
   rw [if_neg (by simp [q0, q1, q2, q3, q4])] at h
   cases p0 : (bt s 1 != 0)
   rotate_left
   ·rw [if_pos (by simp [p0])] at h
    simp only [Option.some.injEq, Prod.mk.injEq] at h
    obtain ⟨rfl, rfl, rfl, rfl, rfl, rfl, rfl, rfl, rfl, rfl⟩ := h
    exact decode_uns0 s w hs h34 q0 q1 q2 q3 q4 p0
   cases p1 : (bt s 26 != 0)
   rotate_left
   ·rw [if_pos (by simp [p0, p1])] at h
    simp only [Option.some.injEq, Prod.mk.injEq] at h
    obtain ⟨rfl, rfl, rfl, rfl, rfl, rfl, rfl, rfl, rfl, rfl⟩ := h
    exact decode_uns1 s w hs h34 q0 q1 q2 q3 q4 p0 p1
   cases p2 : (bt s 27 != 0)
   rotate_left
   ·rw [if_pos (by simp [p0, p1, p2])] at h
    simp only [Option.some.injEq, Prod.mk.injEq] at h
    obtain ⟨rfl, rfl, rfl, rfl, rfl, rfl, rfl, rfl, rfl, rfl⟩ := h
    exact decode_uns2 s w hs h34 q0 q1 q2 q3 q4 p0 p1 p2
   rw [if_neg (by simp [p0, p1, p2])] at h
   obtain ⟨⟨t, z, e⟩, hr, h⟩ := Option.bind_eq_some_iff.mp h
   dsimp only at h
   by_cases he : e = 0
   ·subst he
    rw [if_pos rfl] at h
    simp only [Option.some.injEq, Prod.mk.injEq] at h
    obtain ⟨rfl, rfl, rfl, rfl, rfl, rfl, rfl, rfl, rfl, rfl⟩ := h
    exact decode_ok k s t z w hs h34 q0 q1 q2 q3 q4 p0 p1 p2 hr
   ·rw [if_neg he] at h
    simp only [Option.some.injEq, Prod.mk.injEq] at h
    obtain ⟨rfl, rfl, rfl, rfl, rfl, rfl, rfl, rfl, rfl, rfl⟩ := h
    exact decode_date k s t z e w hs h34 q0 q1 q2 q3 q4 p0 p1 p2 hr (by simpa using he)
 ·rw [if_neg hs] at h
  cases h
/-- More rounds tell the same. -/
theorem dirrecord_Decode.mono : ∀ s k, LeO (dirrecord_Decode.f k s) (dirrecord_Decode.f (k + 1) s) := by
 intro s k
 unfold dirrecord_Decode.f
 repeat' first
  | (with_reducible exact datetime_ReadRecord.mono _ _)
  | (with_reducible exact LeO.refl _)
  | (with_reducible exact LeO.none _)
  | (with_reducible refine LeO.ite ?_ ?_)
  | (with_reducible refine LeO.bind ?_ (fun _ => ?_))

end Go.Proofs.YthblghfobnhoeaaGreat.H
namespace Go.Proofs.YthblghfobnhoeaaGreat.H
open Go.RowKit Go.Proofs.YthblghfobnhoeaaGreat.A Go.Proofs.YthblghfobnhoeaaGreatW.PrintWords Go.Proofs.YthblghfobnhoeaaGreatW.PrintLast Go.Proofs.YthblghfobnhoeaaGreatW.PrintMore
attribute [local go_sem] max2_int min2_int max_two min_two max_three min_three max_four min_four
attribute [local go_sem high] eqA45
set_option linter.unusedVariables false
set_option linter.unusedSimpArgs false

/-- Numbers laid into a row, one behind the other. -/
def layAll : List Int → Nat → List Int → List Int
 | xs, _, [] => xs
 | xs, n, v :: t => layAll (xs.set n v) (n + 1) t
def bytesNum (s : ByteArray) : List Int := s.data.toList.map fun x => (x.toNat : Int)
theorem R_layAll {e g n cap base : Nat} {ok : Nat → Prop} : ∀ (vs : List UInt8) (o : Nat) (W : World) (xs : List Int), Kd.R (Kd.int .u8) e W base ok (.slice (some ⟨g, 0, none⟩) n cap) xs →
  Kd.R (Kd.int .u8) e (W.setCells g o (vs.map fun x => Value.int .u8 (x.toNat : Int))) base ok (.slice (some ⟨g, 0, none⟩) n cap) (layAll xs o (vs.map fun x => (x.toNat : Int)))
 | [], _, _, _, h => h
 | v :: t, o, W, xs, h => by
  have h1 := Kd.R_putn h (o : Int) (v.toNat : Int)
  rw [Int.toNat_natCast] at h1
  exact R_layAll t (o + 1) _ _ h1
theorem R_farAll {α : Type} {d : Kd α} {e base : Nat} {ok : Nat → Prop} {v : Value} {xs : List α} : ∀ (vs : List UInt8) (o : Nat) (W : World) (g : Nat), Kd.R d e W base ok v xs → (∀ k, ok k → k ≠ g) →
  Kd.R d e (W.setCells g o (vs.map fun x => Value.int .u8 (x.toNat : Int))) base ok v xs
 | [], _, _, _, h, _ => h
 | c :: t, o, W, g, h, hk => R_farAll t (o + 1) _ g (Kd.R_far h hk _) hk

/-! ### directory_Encode: function 24 -/
mutual
def directory_Encode.l0 : Nat → List ByteArray → List Int → List (S45) → Int → Int → Option (ByteArray × Int)
 | 0, _, _, _, _, _ => none
 | k + 1, x4, x5, x16, x17, x18 => if x18 < x17 then (if 0 ≤ x18 then (if x18 < (x16.length : Int) then ((dirrecord_Encode.f k ((rd_T45 x16 x18).f0) ((rd_T45 x16 x18).f1) ((rd_T45 x16 x18).f2) ((rd_T45 x16 x18).f3) ((rd_T45 x16 x18).f4) ((rd_T45 x16 x18).f5) ((rd_T45 x16 x18).f6) ((rd_T45 x16 x18).f7)).bind fun bt132 => (if bt132.2 = 0 then (if x4.length < 8796093022208 then (if x5.length < 17592186044416 then (directory_Encode.l0 k (x4 ++ [bt132.1]) (x5 ++ [(bt132.1.size : Int)]) x16 x17 (wrap64 (x18 + 1))) else (none)) else (none)) else (some ((⟨#[]⟩ : ByteArray), bt132.2)))) else (none)) else (none)) else ((directory_Blocks.f k x5).bind fun t140 => (if 0 ≤ (wrap64 (t140 * 2048)) then (if (wrap64 (t140 * 2048) : Int).toNat ≤ 281474976710656 then ((directory_Offsets.f k x5).bind fun t144 => (directory_Encode.l1 k x4 (List.replicate (wrap64 (t140 * 2048) : Int).toNat 0) t144 (t144.length : Int) 0)) else (none)) else (none)))
def directory_Encode.l1 : Nat → List ByteArray → List Int → List Int → Int → Int → Option (ByteArray × Int)
 | 0, _, _, _, _, _ => none
 | k + 1, x4, x10, x45, x46, x47 => if x47 < x46 then (if 0 ≤ x47 then (if x47 < (x45.length : Int) then (if 0 ≤ (rd x45 x47) then (if (rd x45 x47) < (x10.length : Int) then (if x47 < (x4.length : Int) then (if (rd x45 x47) + ((rdOf ByteArray.empty x4 x47).size : Int) ≤ (x10.length : Int) then (directory_Encode.l1 k x4 (layAll x10 (rd x45 x47).toNat (bytesNum (rdOf ByteArray.empty x4 x47))) x45 x46 (wrap64 (x47 + 1))) else (none)) else (none)) else (none)) else (none)) else (none)) else (none)) else (some (strOfNums x10, 0))
end
def directory_Encode.f (k : Nat) (l0 : List (S45)) : Option (ByteArray × Int) := if (l0.length : Int) > 1024 then (some ((⟨#[]⟩ : ByteArray), 7)) else (directory_Encode.l0 k ([] : List ByteArray) ([] : List Int) l0 (l0.length : Int) 0)
theorem directory_Encode.mono_l : ∀ k, (∀ y0 y1 y2 y3 y4, LeO (directory_Encode.l0 k y0 y1 y2 y3 y4) (directory_Encode.l0 (k + 1) y0 y1 y2 y3 y4)) ∧ (∀ y0 y1 y2 y3 y4, LeO (directory_Encode.l1 k y0 y1 y2 y3 y4) (directory_Encode.l1 (k + 1) y0 y1 y2 y3 y4))
 | 0 => ⟨fun _ _ _ _ _ r h => by simp [directory_Encode.l0] at h, fun _ _ _ _ _ r h => by simp [directory_Encode.l1] at h⟩
 | k + 1 => by
  obtain ⟨ih0, ih1⟩ := directory_Encode.mono_l k
  refine ⟨?_, ?_⟩
  ·intro y0 y1 y2 y3 y4
   unfold directory_Encode.l0
   repeat' first
   | (with_reducible exact ih0 _ _ _ _ _)
   | (with_reducible exact ih1 _ _ _ _ _)
   | (with_reducible exact directory_Blocks.mono _ _)
   | (with_reducible exact directory_Offsets.mono _ _)
   | (with_reducible exact dirrecord_Encode.mono _ _ _ _ _ _ _ _ _)
   | (with_reducible exact LeO.refl _)
   | (with_reducible exact LeO.none _)
   | (with_reducible refine LeO.ite ?_ ?_)
   | (with_reducible refine LeO.bind ?_ (fun _ => ?_))
   | exact ih0 _ _ _ _ _
   | exact ih1 _ _ _ _ _
   | exact directory_Blocks.mono _ _
   | exact directory_Offsets.mono _ _
   | exact dirrecord_Encode.mono _ _ _ _ _ _ _ _ _
   | exact LeO.none _
   | refine LeO.ite ?_ ?_
   | refine LeO.bind ?_ (fun _ => ?_)
  ·intro y0 y1 y2 y3 y4
   unfold directory_Encode.l1
   repeat' first
   | (with_reducible exact ih0 _ _ _ _ _)
   | (with_reducible exact ih1 _ _ _ _ _)
   | (with_reducible exact directory_Blocks.mono _ _)
   | (with_reducible exact directory_Offsets.mono _ _)
   | (with_reducible exact dirrecord_Encode.mono _ _ _ _ _ _ _ _ _)
   | (with_reducible exact LeO.refl _)
   | (with_reducible exact LeO.none _)
   | (with_reducible refine LeO.ite ?_ ?_)
   | (with_reducible refine LeO.bind ?_ (fun _ => ?_))
   | exact ih0 _ _ _ _ _
   | exact ih1 _ _ _ _ _
   | exact directory_Blocks.mono _ _
   | exact directory_Offsets.mono _ _
   | exact dirrecord_Encode.mono _ _ _ _ _ _ _ _ _
   | exact LeO.none _
   | refine LeO.ite ?_ ?_
   | refine LeO.bind ?_ (fun _ => ?_)
theorem directory_Encode.mono : ∀ a0 k, LeO (directory_Encode.f k a0) (directory_Encode.f (k + 1) a0) := by
 intro a0 k
 obtain ⟨ih0, ih1⟩ := directory_Encode.mono_l k
 unfold directory_Encode.f
 repeat' first
   | (with_reducible exact ih0 _ _ _ _ _)
   | (with_reducible exact ih1 _ _ _ _ _)
   | (with_reducible exact directory_Blocks.mono _ _)
   | (with_reducible exact directory_Offsets.mono _ _)
   | (with_reducible exact dirrecord_Encode.mono _ _ _ _ _ _ _ _ _)
   | (with_reducible exact LeO.refl _)
   | (with_reducible exact LeO.none _)
   | (with_reducible refine LeO.ite ?_ ?_)
   | (with_reducible refine LeO.bind ?_ (fun _ => ?_))
   | exact ih0 _ _ _ _ _
   | exact ih1 _ _ _ _ _
   | exact directory_Blocks.mono _ _
   | exact directory_Offsets.mono _ _
   | exact dirrecord_Encode.mono _ _ _ _ _ _ _ _ _
   | exact LeO.none _
   | refine LeO.ite ?_ ?_
   | refine LeO.bind ?_ (fun _ => ?_)
def directory_Encode.B17 : List Nat := [0, 0, 3, 0, 0, 24, 56, 127]
set_option maxHeartbeats 8000000 in
set_option maxRecDepth 100000 in
theorem directory_Encode.calls (k : Nat) (A0 : Option Addr) (c0 : Nat) (l0 : List (S45)) (r1 : ByteArray) (r2 : Int) (w : World) (hr0 : Kd.C k45 w A0 l0.length l0) (hc0 : l0.length ≤ c0) (h : directory_Encode.f k l0 = some (r1, r2)) :
  Calls Tryz.prog 24 #[.slice A0 l0.length c0] w fun e w' => e = .returned (.tuple #[.string r1, .int .i64 r2]) ∧ Below w.heap.size w w' := by
 have hu45 := Tryz.underlying45
 have HR0 := Aside0.mk hr0
 have HC0 := Aside0.mk hc0
 clear hr0 hc0
 have HB := Aside0.mk (Below.refl w.heap.size w)
 have H : (if (l0.length : Int) > 1024 then (some ((⟨#[]⟩ : ByteArray), 7)) else (directory_Encode.l0 k ([] : List ByteArray) ([] : List Int) l0 (l0.length : Int) 0)) = some (r1, r2) := h
 clear h
 by_cases c2 : (l0.length : Int) > 1024
 ·rw [if_pos c2] at H
  have c2b0 : decide (1024 < (l0.length : Int)) = true := decide_eq_true c2
  have c2b1 : decide (1024 < l0.length) = true := decide_eq_true (by omega)
  clear c2
  simp only [Option.some.injEq, Prod.mk.injEq] at H
  obtain ⟨rfl, rfl⟩ := H
  go_enter Tryz.func24, Tryz.ntmps24
  go_wp2
  go_ret2
  exact ⟨by first | rfl | (simp [errW_none, errW_some] <;> rfl) | (simp [*, errW_none, errW_some] <;> rfl), uB HB.out⟩
 ·rw [if_neg c2] at H
  have c2b0 : decide (1024 < (l0.length : Int)) = false := decide_eq_false c2
  have c2b1 : decide (1024 < l0.length) = false := decide_eq_false (by omega)
  clear c2
  have H' := Aside0.mk H
  clear H
  go_enter Tryz.func24, Tryz.ntmps24
  go_wp2
  go_loopg [4, 5, 18] k (fun kq v4 v5 v18 w' => ∃ (x4_1 : List ByteArray) (x5_1 : List Int) (x18_1 : Int), v18 = .int .i64 x18_1 ∧ Aside0 (directory_Encode.l0 kq x4_1 x5_1 l0 (l0.length : Int) x18_1 = some (r1, r2)) ∧ Aside0 (kq ≤ k) ∧ Aside0 (Kd.R Kd.string 9 w' w.heap.size (fun _ => True) v4 x4_1) ∧ Aside0 (Kd.R (Kd.int .i64) 3 w' w.heap.size (fun _ => True) v5 x5_1) ∧ Aside0 (Below w.heap.size w w'))
  case atStart => exact ⟨(([] : List ByteArray)), (([] : List Int)), (0), (by first | rfl | (simp; done) | (simp [*]; done)), H', ⟨Nat.le_refl _⟩, ⟨by first | exact Kd.R_nil _ _ _ _ _ | exact Kd.N_nil _ _ _ _ _ | exact Kd.V_nil _ _ _ _ _ | exact Kd.Q_nil _ _ _ _ _ | exact Kd.S_nil _ _ _ _ _⟩, ⟨by first | exact Kd.R_nil _ _ _ _ _ | exact Kd.N_nil _ _ _ _ _ | exact Kd.V_nil _ _ _ _ _ | exact Kd.Q_nil _ _ _ _ _ | exact Kd.S_nil _ _ _ _ _⟩, ⟨uB HB.out⟩⟩
  case round =>
   clear H'
   try clear c2
   try clear c2b0
   try clear c2b1
   try clear p2
   obtain ⟨x4_1, x5_1, x18_1, rfl, HA, HK1, HO_4, HO_5, HB⟩ := hrel
   cases gk with
   | zero => exact absurd HA.out (by simp [directory_Encode.l0])
   | succ k1 =>
    have H := HA.out
    clear HA
    simp only [directory_Encode.l0] at H
    by_cases c3 : x18_1 < (l0.length : Int)
    ·rw [if_pos c3] at H
     have c3b0 : decide (x18_1 < (l0.length : Int)) = true := decide_eq_true c3
     clear c3
     by_cases c4 : 0 ≤ x18_1
     rotate_left
     ·rw [if_neg c4] at H
      exact absurd H (by simp)
     rw [if_pos c4] at H
     have c4b0 : decide (0 ≤ x18_1) = true := decide_eq_true c4
     clear c4
     by_cases c5 : x18_1 < (l0.length : Int)
     rotate_left
     ·rw [if_neg c5] at H
      exact absurd H (by simp)
     rw [if_pos c5] at H
     have c5b0 : decide (x18_1 < (l0.length : Int)) = true := decide_eq_true c5
     clear c5
     replace H := Option.bind_eq_some_iff.mp H
     obtain ⟨⟨t132, t133⟩, A60, H⟩ := H
     replace H : (if t133 = 0 then (if x4_1.length < 8796093022208 then (if x5_1.length < 17592186044416 then (directory_Encode.l0 k1 (x4_1 ++ [t132]) (x5_1 ++ [(t132.size : Int)]) l0 (l0.length : Int) (wrap64 (x18_1 + 1))) else (none)) else (none)) else (some ((⟨#[]⟩ : ByteArray), t133))) = some (r1, r2) := H
     have A6 := Aside0.mk A60
     clear A60
     by_cases c7 : t133 = 0
     ·rw [if_pos c7] at H
      have c7b0 : (t133 == 0) = true := beq_iff_eq.mpr c7
      have c7b1 : (t133 != 0) = false := bne_eq_false_iff_eq.mpr c7
      clear c7
      by_cases c8 : x4_1.length < 8796093022208
      rotate_left
      ·rw [if_neg c8] at H
       exact absurd H (by simp)
      rw [if_pos c8] at H
      have LMc8 := Aside0.mk c8
      clear c8
      obtain ⟨y134, hy134⟩ : ∃ y_ : List ByteArray, y_ = (x4_1 ++ [t132]) := ⟨_, rfl⟩
      replace H : (if x5_1.length < 17592186044416 then (directory_Encode.l0 k1 y134 (x5_1 ++ [(t132.size : Int)]) l0 (l0.length : Int) (wrap64 (x18_1 + 1))) else (none)) = some (r1, r2) := by first | (rw [hy134]; with_reducible exact H) | (have H2_ := (Option.bind_some _ _).symm.trans H; rw [hy134]; with_reducible exact H2_) | (have H2_ := (Option.bind_some _ _).symm.trans H; with_reducible exact H2_) | with_reducible exact H | (rw [hy134]; exact H) | exact H
      have Ny134 := Aside0.mk hy134
      clear hy134
      by_cases c9 : x5_1.length < 17592186044416
      rotate_left
      ·rw [if_neg c9] at H
       exact absurd H (by simp)
      rw [if_pos c9] at H
      have LMc9 := Aside0.mk c9
      clear c9
      obtain ⟨y137, hy137⟩ : ∃ y_ : List Int, y_ = (x5_1 ++ [(t132.size : Int)]) := ⟨_, rfl⟩
      replace H : (directory_Encode.l0 k1 y134 y137 l0 (l0.length : Int) (wrap64 (x18_1 + 1))) = some (r1, r2) := by first | (rw [hy137]; with_reducible exact H) | (have H2_ := (Option.bind_some _ _).symm.trans H; rw [hy137]; with_reducible exact H2_) | (have H2_ := (Option.bind_some _ _).symm.trans H; with_reducible exact H2_) | with_reducible exact H | (rw [hy137]; exact H) | exact H
      have Ny137 := Aside0.mk hy137
      clear hy137
      have H' := Aside0.mk H
      clear H
      have p130 : 0 ≤ (x18_1 : Int) := of_decide_eq_true (by first | (with_reducible assumption) | assumption)
      have q130 : x18_1 < (l0.length : Int) := of_decide_eq_true (by first | (with_reducible assumption) | assumption)
      obtain ⟨ad130, e130, hx130_0, hx130_1, hx130_2, hx130_3, hx130_4, hx130_5, hx130_6, hx130_7⟩ := at_T45 HR0.out x18_1 p130 q130
      cases e130
      replace hx130_0 := (HB.out.cell (World.block_lt_of_cell? w _ hx130_0)).trans hx130_0
      replace hx130_1 := (HB.out.cell (World.block_lt_of_cell? w _ hx130_1)).trans hx130_1
      replace hx130_2 := (HB.out.cell (World.block_lt_of_cell? w _ hx130_2)).trans hx130_2
      replace hx130_3 := (HB.out.cell (World.block_lt_of_cell? w _ hx130_3)).trans hx130_3
      replace hx130_4 := (HB.out.cell (World.block_lt_of_cell? w _ hx130_4)).trans hx130_4
      replace hx130_5 := (HB.out.cell (World.block_lt_of_cell? w _ hx130_5)).trans hx130_5
      replace hx130_6 := (HB.out.cell (World.block_lt_of_cell? w _ hx130_6)).trans hx130_6
      replace hx130_7 := (HB.out.cell (World.block_lt_of_cell? w _ hx130_7)).trans hx130_7
      replace p130 := eq_true p130
      replace q130 := eq_true q130
      go_wp2_with (first | ((with_reducible refine gate_dst (N := 7) rfl ?_); refine box_event ?hg (N := 7) ?hd (cs := #[.string (⟨#[]⟩ : ByteArray), .int .i64 0, .int .i64 0, .int .i64 0, .int .i64 0, .int .i64 0, .int .i64 0, .string (⟨#[]⟩ : ByteArray)]) (t := 45) ?hr ?_; (case hd => rfl); (case hg => rfl); (case hr => first | (go_simp; done) | (go_simp; rfl)); intro gb131 hg w10 hbox hb; have n0_ := Aside0.mk (Kd.R_below (uR HO_4.out) hb); have n1_ := Aside0.mk (Kd.R_below (uR HO_5.out) hb); have n2_ := Aside0.mk (below_step (uB HB.out) hb); have n3_ := Aside0.mk (hbox); have n4_ := Aside0.mk ((by rw [hg]; exact (below_size (uB HB.out)) : w.heap.size ≤ gb131)); have n5_ := Aside0.mk ((by rw [hg]; exact (below_size (uB HB.out)) : w.heap.size ≤ gb131)); clear HO_4; clear HO_5; clear HB; have HO_4 := n0_; have HO_5 := n1_; have HB := n2_; have BK131 := n3_; have GW131 := n4_; have GE131 := n5_; clear n0_ n1_ n2_ n3_ n4_ n5_; clear hb hbox hg; have hcz11_0 : w10.cell? ⟨gb131, 0, none⟩ = some (.string (⟨#[]⟩ : ByteArray)) := (blk_cell BK131.out 0).trans rfl; have hcz11_1 : w10.cell? ⟨gb131, 1, none⟩ = some (.int .i64 0) := (blk_cell BK131.out 1).trans rfl; have hcz11_2 : w10.cell? ⟨gb131, 2, none⟩ = some (.int .i64 0) := (blk_cell BK131.out 2).trans rfl; have hcz11_3 : w10.cell? ⟨gb131, 3, none⟩ = some (.int .i64 0) := (blk_cell BK131.out 3).trans rfl; have hcz11_4 : w10.cell? ⟨gb131, 4, none⟩ = some (.int .i64 0) := (blk_cell BK131.out 4).trans rfl; have hcz11_5 : w10.cell? ⟨gb131, 5, none⟩ = some (.int .i64 0) := (blk_cell BK131.out 5).trans rfl; have hcz11_6 : w10.cell? ⟨gb131, 6, none⟩ = some (.int .i64 0) := (blk_cell BK131.out 6).trans rfl; have hcz11_7 : w10.cell? ⟨gb131, 7, none⟩ = some (.string (⟨#[]⟩ : ByteArray)) := (blk_cell BK131.out 7).trans rfl; have hfz11_0 := blk_frozen BK131.out 0; have hfz11_1 := blk_frozen BK131.out 1; have hfz11_2 := blk_frozen BK131.out 2; have hfz11_3 := blk_frozen BK131.out 3; have hfz11_4 := blk_frozen BK131.out 4; have hfz11_5 := blk_frozen BK131.out 5; have hfz11_6 := blk_frozen BK131.out 6; have hfz11_7 := blk_frozen BK131.out 7) | ((with_reducible refine gate_callee (f := 48) rfl ?_); refine gL (some 24) Tryz.func48 #[.agg #[.string ((rd_T45 l0 x18_1).f0), .int .i64 ((rd_T45 l0 x18_1).f1), .int .i64 ((rd_T45 l0 x18_1).f2), .int .i64 ((rd_T45 l0 x18_1).f3), .int .i64 ((rd_T45 l0 x18_1).f4), .int .i64 ((rd_T45 l0 x18_1).f5), .int .i64 ((rd_T45 l0 x18_1).f6), .string ((rd_T45 l0 x18_1).f7)]] ?_; (with_reducible refine (dirrecord_Encode.calls k1 ((rd_T45 l0 x18_1).f0) ((rd_T45 l0 x18_1).f1) ((rd_T45 l0 x18_1).f2) ((rd_T45 l0 x18_1).f3) ((rd_T45 l0 x18_1).f4) ((rd_T45 l0 x18_1).f5) ((rd_T45 l0 x18_1).f6) ((rd_T45 l0 x18_1).f7) t132 t133 _ A6.out).mono ?_); rintro e w12 ⟨rfl, hb⟩; refine ⟨_, rfl, ?_⟩; have n0_ := Aside0.mk (Kd.R_below (by (with_reducible repeat (first | apply Kd.R_alloc | apply Kd.R_drewN | apply Kd.R_drew)); exact (Kd.R_mono (Kd.R_far (p := ⟨gb131, 7, none⟩) (Kd.R_far (p := ⟨gb131, 6, none⟩) (Kd.R_far (p := ⟨gb131, 5, none⟩) (Kd.R_far (p := ⟨gb131, 4, none⟩) (Kd.R_far (p := ⟨gb131, 3, none⟩) (Kd.R_far (p := ⟨gb131, 2, none⟩) (Kd.R_far (p := ⟨gb131, 1, none⟩) (Kd.R_far (p := ⟨gb131, 0, none⟩) (Kd.R_types HO_4.out BK131.out (by decide)) (fun _ hk => hk.2) (.string ((rd_T45 l0 x18_1).f0))) (fun _ hk => hk.2) (.int .i64 ((rd_T45 l0 x18_1).f1))) (fun _ hk => hk.2) (.int .i64 ((rd_T45 l0 x18_1).f2))) (fun _ hk => hk.2) (.int .i64 ((rd_T45 l0 x18_1).f3))) (fun _ hk => hk.2) (.int .i64 ((rd_T45 l0 x18_1).f4))) (fun _ hk => hk.2) (.int .i64 ((rd_T45 l0 x18_1).f5))) (fun _ hk => hk.2) (.int .i64 ((rd_T45 l0 x18_1).f6))) (fun _ hk => hk.2) (.string ((rd_T45 l0 x18_1).f7))) (fun _ h_ => h_.1))) hb); have n1_ := Aside0.mk (Kd.R_below (by (with_reducible repeat (first | apply Kd.R_alloc | apply Kd.R_drewN | apply Kd.R_drew)); exact (Kd.R_mono (Kd.R_far (p := ⟨gb131, 7, none⟩) (Kd.R_far (p := ⟨gb131, 6, none⟩) (Kd.R_far (p := ⟨gb131, 5, none⟩) (Kd.R_far (p := ⟨gb131, 4, none⟩) (Kd.R_far (p := ⟨gb131, 3, none⟩) (Kd.R_far (p := ⟨gb131, 2, none⟩) (Kd.R_far (p := ⟨gb131, 1, none⟩) (Kd.R_far (p := ⟨gb131, 0, none⟩) (Kd.R_types HO_5.out BK131.out (by decide)) (fun _ hk => hk.2) (.string ((rd_T45 l0 x18_1).f0))) (fun _ hk => hk.2) (.int .i64 ((rd_T45 l0 x18_1).f1))) (fun _ hk => hk.2) (.int .i64 ((rd_T45 l0 x18_1).f2))) (fun _ hk => hk.2) (.int .i64 ((rd_T45 l0 x18_1).f3))) (fun _ hk => hk.2) (.int .i64 ((rd_T45 l0 x18_1).f4))) (fun _ hk => hk.2) (.int .i64 ((rd_T45 l0 x18_1).f5))) (fun _ hk => hk.2) (.int .i64 ((rd_T45 l0 x18_1).f6))) (fun _ hk => hk.2) (.string ((rd_T45 l0 x18_1).f7))) (fun _ h_ => h_.1))) hb); have n2_ := Aside0.mk (blk_below (g := gb131) (o := .cells #[.string ((rd_T45 l0 x18_1).f0), .int .i64 ((rd_T45 l0 x18_1).f1), .int .i64 ((rd_T45 l0 x18_1).f2), .int .i64 ((rd_T45 l0 x18_1).f3), .int .i64 ((rd_T45 l0 x18_1).f4), .int .i64 ((rd_T45 l0 x18_1).f5), .int .i64 ((rd_T45 l0 x18_1).f6), .string ((rd_T45 l0 x18_1).f7)] 45 (0, 0)) (by (with_reducible repeat (first | refine blk_drewN ?_ _ | refine blk_drew ?_ | refine blk_alloc ?_ _)); refine blk_put (cs := #[.string ((rd_T45 l0 x18_1).f0), .int .i64 ((rd_T45 l0 x18_1).f1), .int .i64 ((rd_T45 l0 x18_1).f2), .int .i64 ((rd_T45 l0 x18_1).f3), .int .i64 ((rd_T45 l0 x18_1).f4), .int .i64 ((rd_T45 l0 x18_1).f5), .int .i64 ((rd_T45 l0 x18_1).f6), .string (⟨#[]⟩ : ByteArray)]) ?_ 7 _ rfl; (with_reducible repeat (first | refine blk_drewN ?_ _ | refine blk_drew ?_ | refine blk_alloc ?_ _)); refine blk_put (cs := #[.string ((rd_T45 l0 x18_1).f0), .int .i64 ((rd_T45 l0 x18_1).f1), .int .i64 ((rd_T45 l0 x18_1).f2), .int .i64 ((rd_T45 l0 x18_1).f3), .int .i64 ((rd_T45 l0 x18_1).f4), .int .i64 ((rd_T45 l0 x18_1).f5), .int .i64 0, .string (⟨#[]⟩ : ByteArray)]) ?_ 6 _ rfl; (with_reducible repeat (first | refine blk_drewN ?_ _ | refine blk_drew ?_ | refine blk_alloc ?_ _)); refine blk_put (cs := #[.string ((rd_T45 l0 x18_1).f0), .int .i64 ((rd_T45 l0 x18_1).f1), .int .i64 ((rd_T45 l0 x18_1).f2), .int .i64 ((rd_T45 l0 x18_1).f3), .int .i64 ((rd_T45 l0 x18_1).f4), .int .i64 0, .int .i64 0, .string (⟨#[]⟩ : ByteArray)]) ?_ 5 _ rfl; (with_reducible repeat (first | refine blk_drewN ?_ _ | refine blk_drew ?_ | refine blk_alloc ?_ _)); refine blk_put (cs := #[.string ((rd_T45 l0 x18_1).f0), .int .i64 ((rd_T45 l0 x18_1).f1), .int .i64 ((rd_T45 l0 x18_1).f2), .int .i64 ((rd_T45 l0 x18_1).f3), .int .i64 0, .int .i64 0, .int .i64 0, .string (⟨#[]⟩ : ByteArray)]) ?_ 4 _ rfl; (with_reducible repeat (first | refine blk_drewN ?_ _ | refine blk_drew ?_ | refine blk_alloc ?_ _)); refine blk_put (cs := #[.string ((rd_T45 l0 x18_1).f0), .int .i64 ((rd_T45 l0 x18_1).f1), .int .i64 ((rd_T45 l0 x18_1).f2), .int .i64 0, .int .i64 0, .int .i64 0, .int .i64 0, .string (⟨#[]⟩ : ByteArray)]) ?_ 3 _ rfl; (with_reducible repeat (first | refine blk_drewN ?_ _ | refine blk_drew ?_ | refine blk_alloc ?_ _)); refine blk_put (cs := #[.string ((rd_T45 l0 x18_1).f0), .int .i64 ((rd_T45 l0 x18_1).f1), .int .i64 0, .int .i64 0, .int .i64 0, .int .i64 0, .int .i64 0, .string (⟨#[]⟩ : ByteArray)]) ?_ 2 _ rfl; (with_reducible repeat (first | refine blk_drewN ?_ _ | refine blk_drew ?_ | refine blk_alloc ?_ _)); refine blk_put (cs := #[.string ((rd_T45 l0 x18_1).f0), .int .i64 0, .int .i64 0, .int .i64 0, .int .i64 0, .int .i64 0, .int .i64 0, .string (⟨#[]⟩ : ByteArray)]) ?_ 1 _ rfl; (with_reducible repeat (first | refine blk_drewN ?_ _ | refine blk_drew ?_ | refine blk_alloc ?_ _)); refine blk_put (cs := #[.string (⟨#[]⟩ : ByteArray), .int .i64 0, .int .i64 0, .int .i64 0, .int .i64 0, .int .i64 0, .int .i64 0, .string (⟨#[]⟩ : ByteArray)]) ?_ 0 _ rfl; (with_reducible repeat (first | refine blk_drewN ?_ _ | refine blk_drew ?_ | refine blk_alloc ?_ _)); exact BK131.out) hb); have n3_ := Aside0.mk (below_step (by repeat (first | (with_reducible first | exact HB.out | apply below_alloc | apply pw_below_drewN | apply below_drew1 | refine below_set ?_ GE131.out) | exact HB.out)) hb); clear HO_4; clear HO_5; clear BK131; clear HB; have HO_4 := n0_; have HO_5 := n1_; have BK131 := n2_; have HB := n3_; clear n0_ n1_ n2_ n3_; (try clear hb); (try clear hb2); (try clear hk); (try clear hi)) | ((with_reducible refine gate_builtin (b := .append) (xs := #[.tmp 30, .tmp 32]) rfl ?_); at_builtin; refine Kd.R_append Kd.string (w0 := w) w.heap.size rfl (.tmp 30) (.tmp 32) 53 9 (.string ⟨#[]⟩) 16 rfl Tryz.underlying53 info9 rfl (by decide) (by omega) u4 x4_1 t132 [.string t132] (fun _ => True) (fun _ => False) rfl rfl ?aP (fun _ hk => hk.elim) ?aF ?aO ?aB ?aS ?aL ?_; (case aP => exact rfl); (case aB => exact (by repeat (first | (with_reducible first | exact HB.out | apply below_alloc | apply pw_below_drewN | apply below_drew1 | refine below_set ?_ GE131.out) | exact HB.out))); (case aF => exact (fun _ _ => trivial)); (case aO => exact (uR HO_4.out)); (case aS => exact (below_size (by repeat (first | (with_reducible first | exact HB.out | apply below_alloc | apply pw_below_drewN | apply below_drew1 | refine below_set ?_ GE131.out) | exact HB.out)))); (case aL => have := LMc8.out; omega); intro v135 w13 ho hb hg hat; rw [← Ny134.out] at ho; have n0_ := Aside0.mk (Kd.R_over' (uR HO_5.out) (Kd.R_typed (uR HO_4.out)) (by decide) hg); have n1_ := Aside0.mk (blk_grown (g := gb131) (o := .cells #[.string ((rd_T45 l0 x18_1).f0), .int .i64 ((rd_T45 l0 x18_1).f1), .int .i64 ((rd_T45 l0 x18_1).f2), .int .i64 ((rd_T45 l0 x18_1).f3), .int .i64 ((rd_T45 l0 x18_1).f4), .int .i64 ((rd_T45 l0 x18_1).f5), .int .i64 ((rd_T45 l0 x18_1).f6), .string ((rd_T45 l0 x18_1).f7)] 45 (0, 0)) (by (with_reducible repeat (first | refine blk_drewN ?_ _ | refine blk_drew ?_ | refine blk_alloc ?_ _)); exact BK131.out) hg (Kd.R_ne HO_4.out BK131.out (by decide))); have n2_ := Aside0.mk (hb); have n3_ := Aside0.mk (ho); clear HO_5; clear BK131; clear HB; clear HO_4; have HO_5 := n0_; have BK131 := n1_; have HB := n2_; have HO136 := n3_; clear n0_ n1_ n2_ n3_; clear ho hb hg hat) | ((with_reducible refine gate_builtin (b := .append) (xs := #[.tmp 34, .tmp 37]) rfl ?_); at_builtin; refine Kd.R_append (Kd.int .i64) (w0 := w) w.heap.size rfl (.tmp 34) (.tmp 37) 33 3 (.int .i64 0) 8 rfl Tryz.underlying33 info3 rfl (by decide) (by omega) u5 x5_1 (t132.size : Int) [.int .i64 (t132.size : Int)] (fun _ => True) (fun _ => False) rfl rfl ?aP (fun _ hk => hk.elim) ?aF ?aO ?aB ?aS ?aL ?_; (case aP => exact rfl); (case aB => exact (by repeat (first | (with_reducible first | exact HB.out | apply below_alloc | apply pw_below_drewN | apply below_drew1 | refine below_set ?_ GE131.out) | exact HB.out))); (case aF => exact (fun _ _ => trivial)); (case aO => exact (uR HO_5.out)); (case aS => exact (below_size (by repeat (first | (with_reducible first | exact HB.out | apply below_alloc | apply pw_below_drewN | apply below_drew1 | refine below_set ?_ GE131.out) | exact HB.out)))); (case aL => have := LMc9.out; omega); intro v138 w14 ho hb hg hat; rw [← Ny137.out] at ho; have n0_ := Aside0.mk (blk_grown (g := gb131) (o := .cells #[.string ((rd_T45 l0 x18_1).f0), .int .i64 ((rd_T45 l0 x18_1).f1), .int .i64 ((rd_T45 l0 x18_1).f2), .int .i64 ((rd_T45 l0 x18_1).f3), .int .i64 ((rd_T45 l0 x18_1).f4), .int .i64 ((rd_T45 l0 x18_1).f5), .int .i64 ((rd_T45 l0 x18_1).f6), .string ((rd_T45 l0 x18_1).f7)] 45 (0, 0)) (by (with_reducible repeat (first | refine blk_drewN ?_ _ | refine blk_drew ?_ | refine blk_alloc ?_ _)); exact BK131.out) hg (Kd.R_ne HO_5.out BK131.out (by decide))); have n1_ := Aside0.mk (Kd.R_over' (uR HO136.out) (Kd.R_typed (uR HO_5.out)) (by decide) hg); have n2_ := Aside0.mk (hb); have n3_ := Aside0.mk (ho); clear BK131; clear HO136; clear HB; clear HO_5; have BK131 := n0_; have HO136 := n1_; have HB := n2_; have HO139 := n3_; clear n0_ n1_ n2_ n3_; clear ho hb hg hat))
      go_roundg k1
      case measure => have := HK1.out; omega
      case rel => exact ⟨(y134), (y137), (wrap64 (x18_1 + 1)), (by first | rfl | (simp; done) | (simp [*]; done)), H', ⟨by have := HK1.out; omega⟩, ⟨uR HO136.out⟩, ⟨uR HO139.out⟩, ⟨by repeat (first | (with_reducible first | exact HB.out | apply below_alloc | apply pw_below_drewN | apply below_drew1 | refine below_set ?_ GE131.out) | exact HB.out)⟩⟩
     ·rw [if_neg c7] at H
      have c7b0 : (t133 == 0) = false := beq_eq_false_iff_ne.mpr c7
      have c7b1 : (t133 != 0) = true := bne_iff_ne.mpr c7
      simp only [Option.some.injEq, Prod.mk.injEq] at H
      obtain ⟨rfl, rfl⟩ := H
      have p130 : 0 ≤ (x18_1 : Int) := of_decide_eq_true (by first | (with_reducible assumption) | assumption)
      have q130 : x18_1 < (l0.length : Int) := of_decide_eq_true (by first | (with_reducible assumption) | assumption)
      obtain ⟨ad130, e130, hx130_0, hx130_1, hx130_2, hx130_3, hx130_4, hx130_5, hx130_6, hx130_7⟩ := at_T45 HR0.out x18_1 p130 q130
      cases e130
      replace hx130_0 := (HB.out.cell (World.block_lt_of_cell? w _ hx130_0)).trans hx130_0
      replace hx130_1 := (HB.out.cell (World.block_lt_of_cell? w _ hx130_1)).trans hx130_1
      replace hx130_2 := (HB.out.cell (World.block_lt_of_cell? w _ hx130_2)).trans hx130_2
      replace hx130_3 := (HB.out.cell (World.block_lt_of_cell? w _ hx130_3)).trans hx130_3
      replace hx130_4 := (HB.out.cell (World.block_lt_of_cell? w _ hx130_4)).trans hx130_4
      replace hx130_5 := (HB.out.cell (World.block_lt_of_cell? w _ hx130_5)).trans hx130_5
      replace hx130_6 := (HB.out.cell (World.block_lt_of_cell? w _ hx130_6)).trans hx130_6
      replace hx130_7 := (HB.out.cell (World.block_lt_of_cell? w _ hx130_7)).trans hx130_7
      replace p130 := eq_true p130
      replace q130 := eq_true q130
      go_wp2_with (first | ((with_reducible refine gate_dst (N := 7) rfl ?_); refine box_event ?hg (N := 7) ?hd (cs := #[.string (⟨#[]⟩ : ByteArray), .int .i64 0, .int .i64 0, .int .i64 0, .int .i64 0, .int .i64 0, .int .i64 0, .string (⟨#[]⟩ : ByteArray)]) (t := 45) ?hr ?_; (case hd => rfl); (case hg => rfl); (case hr => first | (go_simp; done) | (go_simp; rfl)); intro gb131 hg w15 hbox hb; have n0_ := Aside0.mk (Kd.R_below (uR HO_4.out) hb); have n1_ := Aside0.mk (Kd.R_below (uR HO_5.out) hb); have n2_ := Aside0.mk (below_step (uB HB.out) hb); have n3_ := Aside0.mk (hbox); have n4_ := Aside0.mk ((by rw [hg]; exact (below_size (uB HB.out)) : w.heap.size ≤ gb131)); have n5_ := Aside0.mk ((by rw [hg]; exact (below_size (uB HB.out)) : w.heap.size ≤ gb131)); clear HO_4; clear HO_5; clear HB; have HO_4 := n0_; have HO_5 := n1_; have HB := n2_; have BK131 := n3_; have GW131 := n4_; have GE131 := n5_; clear n0_ n1_ n2_ n3_ n4_ n5_; clear hb hbox hg; have hcz16_0 : w15.cell? ⟨gb131, 0, none⟩ = some (.string (⟨#[]⟩ : ByteArray)) := (blk_cell BK131.out 0).trans rfl; have hcz16_1 : w15.cell? ⟨gb131, 1, none⟩ = some (.int .i64 0) := (blk_cell BK131.out 1).trans rfl; have hcz16_2 : w15.cell? ⟨gb131, 2, none⟩ = some (.int .i64 0) := (blk_cell BK131.out 2).trans rfl; have hcz16_3 : w15.cell? ⟨gb131, 3, none⟩ = some (.int .i64 0) := (blk_cell BK131.out 3).trans rfl; have hcz16_4 : w15.cell? ⟨gb131, 4, none⟩ = some (.int .i64 0) := (blk_cell BK131.out 4).trans rfl; have hcz16_5 : w15.cell? ⟨gb131, 5, none⟩ = some (.int .i64 0) := (blk_cell BK131.out 5).trans rfl; have hcz16_6 : w15.cell? ⟨gb131, 6, none⟩ = some (.int .i64 0) := (blk_cell BK131.out 6).trans rfl; have hcz16_7 : w15.cell? ⟨gb131, 7, none⟩ = some (.string (⟨#[]⟩ : ByteArray)) := (blk_cell BK131.out 7).trans rfl; have hfz16_0 := blk_frozen BK131.out 0; have hfz16_1 := blk_frozen BK131.out 1; have hfz16_2 := blk_frozen BK131.out 2; have hfz16_3 := blk_frozen BK131.out 3; have hfz16_4 := blk_frozen BK131.out 4; have hfz16_5 := blk_frozen BK131.out 5; have hfz16_6 := blk_frozen BK131.out 6; have hfz16_7 := blk_frozen BK131.out 7) | ((with_reducible refine gate_callee (f := 48) rfl ?_); refine gL (some 24) Tryz.func48 #[.agg #[.string ((rd_T45 l0 x18_1).f0), .int .i64 ((rd_T45 l0 x18_1).f1), .int .i64 ((rd_T45 l0 x18_1).f2), .int .i64 ((rd_T45 l0 x18_1).f3), .int .i64 ((rd_T45 l0 x18_1).f4), .int .i64 ((rd_T45 l0 x18_1).f5), .int .i64 ((rd_T45 l0 x18_1).f6), .string ((rd_T45 l0 x18_1).f7)]] ?_; (with_reducible refine (dirrecord_Encode.calls k1 ((rd_T45 l0 x18_1).f0) ((rd_T45 l0 x18_1).f1) ((rd_T45 l0 x18_1).f2) ((rd_T45 l0 x18_1).f3) ((rd_T45 l0 x18_1).f4) ((rd_T45 l0 x18_1).f5) ((rd_T45 l0 x18_1).f6) ((rd_T45 l0 x18_1).f7) t132 t133 _ A6.out).mono ?_); rintro e w17 ⟨rfl, hb⟩; refine ⟨_, rfl, ?_⟩; have n0_ := Aside0.mk (Kd.R_below (by (with_reducible repeat (first | apply Kd.R_alloc | apply Kd.R_drewN | apply Kd.R_drew)); exact (Kd.R_mono (Kd.R_far (p := ⟨gb131, 7, none⟩) (Kd.R_far (p := ⟨gb131, 6, none⟩) (Kd.R_far (p := ⟨gb131, 5, none⟩) (Kd.R_far (p := ⟨gb131, 4, none⟩) (Kd.R_far (p := ⟨gb131, 3, none⟩) (Kd.R_far (p := ⟨gb131, 2, none⟩) (Kd.R_far (p := ⟨gb131, 1, none⟩) (Kd.R_far (p := ⟨gb131, 0, none⟩) (Kd.R_types HO_4.out BK131.out (by decide)) (fun _ hk => hk.2) (.string ((rd_T45 l0 x18_1).f0))) (fun _ hk => hk.2) (.int .i64 ((rd_T45 l0 x18_1).f1))) (fun _ hk => hk.2) (.int .i64 ((rd_T45 l0 x18_1).f2))) (fun _ hk => hk.2) (.int .i64 ((rd_T45 l0 x18_1).f3))) (fun _ hk => hk.2) (.int .i64 ((rd_T45 l0 x18_1).f4))) (fun _ hk => hk.2) (.int .i64 ((rd_T45 l0 x18_1).f5))) (fun _ hk => hk.2) (.int .i64 ((rd_T45 l0 x18_1).f6))) (fun _ hk => hk.2) (.string ((rd_T45 l0 x18_1).f7))) (fun _ h_ => h_.1))) hb); have n1_ := Aside0.mk (Kd.R_below (by (with_reducible repeat (first | apply Kd.R_alloc | apply Kd.R_drewN | apply Kd.R_drew)); exact (Kd.R_mono (Kd.R_far (p := ⟨gb131, 7, none⟩) (Kd.R_far (p := ⟨gb131, 6, none⟩) (Kd.R_far (p := ⟨gb131, 5, none⟩) (Kd.R_far (p := ⟨gb131, 4, none⟩) (Kd.R_far (p := ⟨gb131, 3, none⟩) (Kd.R_far (p := ⟨gb131, 2, none⟩) (Kd.R_far (p := ⟨gb131, 1, none⟩) (Kd.R_far (p := ⟨gb131, 0, none⟩) (Kd.R_types HO_5.out BK131.out (by decide)) (fun _ hk => hk.2) (.string ((rd_T45 l0 x18_1).f0))) (fun _ hk => hk.2) (.int .i64 ((rd_T45 l0 x18_1).f1))) (fun _ hk => hk.2) (.int .i64 ((rd_T45 l0 x18_1).f2))) (fun _ hk => hk.2) (.int .i64 ((rd_T45 l0 x18_1).f3))) (fun _ hk => hk.2) (.int .i64 ((rd_T45 l0 x18_1).f4))) (fun _ hk => hk.2) (.int .i64 ((rd_T45 l0 x18_1).f5))) (fun _ hk => hk.2) (.int .i64 ((rd_T45 l0 x18_1).f6))) (fun _ hk => hk.2) (.string ((rd_T45 l0 x18_1).f7))) (fun _ h_ => h_.1))) hb); have n2_ := Aside0.mk (blk_below (g := gb131) (o := .cells #[.string ((rd_T45 l0 x18_1).f0), .int .i64 ((rd_T45 l0 x18_1).f1), .int .i64 ((rd_T45 l0 x18_1).f2), .int .i64 ((rd_T45 l0 x18_1).f3), .int .i64 ((rd_T45 l0 x18_1).f4), .int .i64 ((rd_T45 l0 x18_1).f5), .int .i64 ((rd_T45 l0 x18_1).f6), .string ((rd_T45 l0 x18_1).f7)] 45 (0, 0)) (by (with_reducible repeat (first | refine blk_drewN ?_ _ | refine blk_drew ?_ | refine blk_alloc ?_ _)); refine blk_put (cs := #[.string ((rd_T45 l0 x18_1).f0), .int .i64 ((rd_T45 l0 x18_1).f1), .int .i64 ((rd_T45 l0 x18_1).f2), .int .i64 ((rd_T45 l0 x18_1).f3), .int .i64 ((rd_T45 l0 x18_1).f4), .int .i64 ((rd_T45 l0 x18_1).f5), .int .i64 ((rd_T45 l0 x18_1).f6), .string (⟨#[]⟩ : ByteArray)]) ?_ 7 _ rfl; (with_reducible repeat (first | refine blk_drewN ?_ _ | refine blk_drew ?_ | refine blk_alloc ?_ _)); refine blk_put (cs := #[.string ((rd_T45 l0 x18_1).f0), .int .i64 ((rd_T45 l0 x18_1).f1), .int .i64 ((rd_T45 l0 x18_1).f2), .int .i64 ((rd_T45 l0 x18_1).f3), .int .i64 ((rd_T45 l0 x18_1).f4), .int .i64 ((rd_T45 l0 x18_1).f5), .int .i64 0, .string (⟨#[]⟩ : ByteArray)]) ?_ 6 _ rfl; (with_reducible repeat (first | refine blk_drewN ?_ _ | refine blk_drew ?_ | refine blk_alloc ?_ _)); refine blk_put (cs := #[.string ((rd_T45 l0 x18_1).f0), .int .i64 ((rd_T45 l0 x18_1).f1), .int .i64 ((rd_T45 l0 x18_1).f2), .int .i64 ((rd_T45 l0 x18_1).f3), .int .i64 ((rd_T45 l0 x18_1).f4), .int .i64 0, .int .i64 0, .string (⟨#[]⟩ : ByteArray)]) ?_ 5 _ rfl; (with_reducible repeat (first | refine blk_drewN ?_ _ | refine blk_drew ?_ | refine blk_alloc ?_ _)); refine blk_put (cs := #[.string ((rd_T45 l0 x18_1).f0), .int .i64 ((rd_T45 l0 x18_1).f1), .int .i64 ((rd_T45 l0 x18_1).f2), .int .i64 ((rd_T45 l0 x18_1).f3), .int .i64 0, .int .i64 0, .int .i64 0, .string (⟨#[]⟩ : ByteArray)]) ?_ 4 _ rfl; (with_reducible repeat (first | refine blk_drewN ?_ _ | refine blk_drew ?_ | refine blk_alloc ?_ _)); refine blk_put (cs := #[.string ((rd_T45 l0 x18_1).f0), .int .i64 ((rd_T45 l0 x18_1).f1), .int .i64 ((rd_T45 l0 x18_1).f2), .int .i64 0, .int .i64 0, .int .i64 0, .int .i64 0, .string (⟨#[]⟩ : ByteArray)]) ?_ 3 _ rfl; (with_reducible repeat (first | refine blk_drewN ?_ _ | refine blk_drew ?_ | refine blk_alloc ?_ _)); refine blk_put (cs := #[.string ((rd_T45 l0 x18_1).f0), .int .i64 ((rd_T45 l0 x18_1).f1), .int .i64 0, .int .i64 0, .int .i64 0, .int .i64 0, .int .i64 0, .string (⟨#[]⟩ : ByteArray)]) ?_ 2 _ rfl; (with_reducible repeat (first | refine blk_drewN ?_ _ | refine blk_drew ?_ | refine blk_alloc ?_ _)); refine blk_put (cs := #[.string ((rd_T45 l0 x18_1).f0), .int .i64 0, .int .i64 0, .int .i64 0, .int .i64 0, .int .i64 0, .int .i64 0, .string (⟨#[]⟩ : ByteArray)]) ?_ 1 _ rfl; (with_reducible repeat (first | refine blk_drewN ?_ _ | refine blk_drew ?_ | refine blk_alloc ?_ _)); refine blk_put (cs := #[.string (⟨#[]⟩ : ByteArray), .int .i64 0, .int .i64 0, .int .i64 0, .int .i64 0, .int .i64 0, .int .i64 0, .string (⟨#[]⟩ : ByteArray)]) ?_ 0 _ rfl; (with_reducible repeat (first | refine blk_drewN ?_ _ | refine blk_drew ?_ | refine blk_alloc ?_ _)); exact BK131.out) hb); have n3_ := Aside0.mk (below_step (by repeat (first | (with_reducible first | exact HB.out | apply below_alloc | apply pw_below_drewN | apply below_drew1 | refine below_set ?_ GE131.out) | exact HB.out)) hb); clear HO_4; clear HO_5; clear BK131; clear HB; have HO_4 := n0_; have HO_5 := n1_; have BK131 := n2_; have HB := n3_; clear n0_ n1_ n2_ n3_; (try clear hb); (try clear hb2); (try clear hk); (try clear hi)))
      go_ret2
      exact ⟨by first | rfl | (simp [errW_none, errW_some] <;> rfl) | (simp [*, errW_none, errW_some] <;> rfl), by repeat (first | (with_reducible first | exact HB.out | apply below_alloc | apply pw_below_drewN | apply below_drew1 | refine below_set ?_ GE131.out) | exact HB.out)⟩
    ·rw [if_neg c3] at H
     have c3b0 : decide (x18_1 < (l0.length : Int)) = false := decide_eq_false c3
     clear c3
     replace H := Option.bind_eq_some_iff.mp H
     obtain ⟨t140, A180, H⟩ := H
     replace H : (if 0 ≤ (wrap64 (t140 * 2048)) then (if (wrap64 (t140 * 2048) : Int).toNat ≤ 281474976710656 then ((directory_Offsets.f k1 x5_1).bind fun t144 => (directory_Encode.l1 k1 x4_1 (List.replicate (wrap64 (t140 * 2048) : Int).toNat 0) t144 (t144.length : Int) 0)) else (none)) else (none)) = some (r1, r2) := H
     have A18 := Aside0.mk A180
     clear A180
     obtain ⟨ji19, hji19⟩ : ∃ j_ : Int, (wrap64 (t140 * 2048)) = j_ := ⟨_, rfl⟩
     replace H : (if 0 ≤ (ji19) then (if (ji19 : Int).toNat ≤ 281474976710656 then ((directory_Offsets.f k1 x5_1).bind fun t144 => (directory_Encode.l1 k1 x4_1 (List.replicate (ji19 : Int).toNat 0) t144 (t144.length : Int) 0)) else (none)) else (none)) = some (r1, r2) := by first | (rw [hji19] at H; exact H) | (simp only [hji19] at H ⊢; exact H)
     (try rw [hji19] at A18)
     have hji19w : (IntKind.i64.wrap (t140 * 2048)) = ji19 := (i64_w _).trans hji19
     by_cases c20 : 0 ≤ (ji19)
     rotate_left
     ·rw [if_neg c20] at H
      exact absurd H (by simp)
     rw [if_pos c20] at H
     have c20b0 := eq_true c20
     have c20b1 : decide (0 ≤ (ji19)) = true := decide_eq_true c20
     clear c20
     by_cases c21 : (ji19 : Int).toNat ≤ 281474976710656
     rotate_left
     ·rw [if_neg c21] at H
      exact absurd H (by simp)
     rw [if_pos c21] at H
     have c21b0 := eq_true c21
     have c21b1 : decide ((ji19 : Int).toNat ≤ 281474976710656) = true := decide_eq_true c21
     clear c21
     obtain ⟨y141, hy141⟩ : ∃ y_ : List Int, y_ = (List.replicate (ji19 : Int).toNat 0) := ⟨_, rfl⟩
     replace H : ((directory_Offsets.f k1 x5_1).bind fun t144 => (directory_Encode.l1 k1 x4_1 y141 t144 (t144.length : Int) 0)) = some (r1, r2) := by first | (rw [hy141]; with_reducible exact H) | (have H2_ := (Option.bind_some _ _).symm.trans H; rw [hy141]; with_reducible exact H2_) | (have H2_ := (Option.bind_some _ _).symm.trans H; with_reducible exact H2_) | with_reducible exact H | (rw [hy141]; exact H) | exact H
     have Ny141 := Aside0.mk hy141
     clear hy141
     replace H := Option.bind_eq_some_iff.mp H
     obtain ⟨t144, A220, H⟩ := H
     replace H : (directory_Encode.l1 k1 x4_1 y141 t144 (t144.length : Int) 0) = some (r1, r2) := H
     have A22 := Aside0.mk A220
     clear A220
     have H' := Aside0.mk H
     clear H
     obtain ⟨Ao23, co23, eo23⟩ := Kd.R_slice HO_5.out
     subst eo23
     go_wp2_with (first | ((with_reducible refine gate_callee (f := 19) rfl ?_); refine gL (some 41) Tryz.func19 #[.slice Ao23 x5_1.length co23] ?_; (with_reducible refine (directory_Blocks.calls k1 _ _ x5_1 t140 _ ?side1 ?side2 A18.out).mono ?_); (case side1 => repeat (first | exact (Kd.R_reads' HO_5.out).2.2 | (with_reducible refine Kd.C_alloc ?_ _) | (with_reducible refine Kd.C_drewN ?_ _) | (with_reducible refine Kd.C_drew ?_))); (case side2 => exact (Kd.R_reads' HO_5.out).2.1); rintro e w24 ⟨rfl, hb⟩; refine ⟨_, rfl, ?_⟩; have n0_ := Aside0.mk (Kd.R_below (uR HO_4.out) hb); have n1_ := Aside0.mk (Kd.R_below (uR HO_5.out) hb); have n2_ := Aside0.mk (below_step (uB HB.out) hb); clear HO_4; clear HO_5; clear HB; have HO_4 := n0_; have HO_5 := n1_; have HB := n2_; clear n0_ n1_ n2_; (try clear hb); (try clear hb2); (try clear hk); (try clear hi)) | ((with_reducible refine gate_dst (N := 43) rfl ?_); refine Kd.R_make (Kd.int .u8) _ 5 rfl (N := 43) rfl 69 _ _ rfl ji19 rfl rfl Tryz.underlying69 (.int .u8 0) 1 info5 rfl (by decide) (by omega) 0 (ok := fun _ => True) (okp := fun _ => True) rfl (fun _ hk => hk) trivial (of_decide_eq_true (by first | (with_reducible assumption) | assumption)) (Nat.le_trans (Nat.mul_le_mul_right _ (of_decide_eq_true (by first | (with_reducible assumption) | assumption) : ji19.toNat ≤ 281474976710656)) (by omega)) (Below.refl _ _) (Nat.le_refl _) ?_; intro v142 w25 ho26 hb hg_ hnew_; clear hg_ hnew_; (first | rw [← Ny141.out] at ho26 | (simp only [Int.reduceToNat] at ho26; rw [← Ny141.out] at ho26)); have n0_ := Aside0.mk (Kd.R_below (uR HO_4.out) hb); have n1_ := Aside0.mk (Kd.R_below (uR HO_5.out) hb); have n2_ := Aside0.mk (Kd.R_lower ho26 (below_size (uB HB.out))); have n3_ := Aside0.mk (below_step (uB HB.out) hb); clear HO_4; clear HO_5; clear HB; have HO_4 := n0_; have HO_5 := n1_; have HO143 := n2_; have HB := n3_; clear n0_ n1_ n2_ n3_; clear hb ho26) | ((with_reducible refine gate_callee (f := 22) rfl ?_); refine gL (some 45) Tryz.func22 #[.slice Ao23 x5_1.length co23] ?_; (with_reducible refine (directory_Offsets.calls k1 _ _ x5_1 t144 _ ?side1 ?side2 A22.out).mono ?_); (case side1 => repeat (first | exact (Kd.R_reads' HO_5.out).2.2 | (with_reducible refine Kd.C_alloc ?_ _) | (with_reducible refine Kd.C_drewN ?_ _) | (with_reducible refine Kd.C_drew ?_))); (case side2 => exact (Kd.R_reads' HO_5.out).2.1); rintro e w27 ⟨v145, rfl, ho0, hb⟩; refine ⟨_, rfl, ?_⟩; have n0_ := Aside0.mk (Kd.R_below (uR HO_4.out) hb); have n1_ := Aside0.mk (Kd.R_elder' (uR HO_5.out) (Kd.R_base ho0) hb); have n2_ := Aside0.mk (Kd.R_below (uR HO143.out) hb); have n3_ := Aside0.mk (Kd.R_lower (Kd.R_new' ho0 (Kd.R_lt (uR HO_5.out))) (below_size (uB HB.out))); have n4_ := Aside0.mk (below_step (uB HB.out) hb); clear HO_4; clear HO_5; clear HO143; clear HB; have HO_4 := n0_; have HO_5 := n1_; have HO143 := n2_; have HO146 := n3_; have HB := n4_; clear n0_ n1_ n2_ n3_ n4_; (try clear hb); (try clear hb2); (try clear hk); (try clear hi); (try clear ho0); obtain ⟨Ao28, co28, eo28⟩ := Kd.R_slice HO146.out; subst eo28))
     go_loopg [47] k1 (fun kq v47 w' => ∃ (x10_2 : List Int) (x47_2 : Int), v47 = .int .i64 x47_2 ∧ Aside0 (directory_Encode.l1 kq x4_1 x10_2 t144 (t144.length : Int) x47_2 = some (r1, r2)) ∧ Aside0 (kq ≤ k1) ∧ Aside0 (Kd.R Kd.string 9 w' w.heap.size (fun _ => True) u4 x4_1) ∧ Aside0 (Kd.R (Kd.int .u8) 5 w' w.heap.size (fun _ => True) v142 x10_2) ∧ Aside0 (Kd.R (Kd.int .i64) 3 w' w.heap.size (fun _ => True) (.slice Ao28 t144.length co28) t144) ∧ Aside0 (Below w.heap.size w w'))
     case atStart => exact ⟨(y141), (0), (by first | rfl | (simp; done) | (simp [*]; done)), H', ⟨Nat.le_refl _⟩, ⟨uR HO_4.out⟩, ⟨uR HO143.out⟩, ⟨by (with_reducible repeat (first | apply Kd.R_alloc | apply Kd.R_drewN | apply Kd.R_drew)); exact Kd.R_mono HO146.out (fun _ hk => trivial)⟩, ⟨uB HB.out⟩⟩
     case round =>
      clear H'
      try clear c1
      try clear p1
      try clear q1
      try clear hx1
      try clear c2
      try clear c2b0
      try clear c2b1
      try clear p2
      try clear c3
      try clear c3b0
      try clear c4
      try clear c4b0
      try clear c5
      try clear c5b0
      try clear p6
      try clear c7
      try clear c7b0
      try clear c7b1
      try clear c8
      try clear c9
      try clear p13
      try clear q13
      try clear hx13
      try clear c19
      try clear c20
      try clear c20b0
      try clear c20b1
      try clear c21
      try clear c21b0
      try clear c21b1
      try clear c22
      try clear c24
      try clear hcz11_0
      try clear hcz11_1
      try clear hcz11_2
      try clear hcz11_3
      try clear hcz11_4
      try clear hcz11_5
      try clear hcz11_6
      try clear hcz11_7
      try clear hcz16_0
      try clear hcz16_1
      try clear hcz16_2
      try clear hcz16_3
      try clear hcz16_4
      try clear hcz16_5
      try clear hcz16_6
      try clear hcz16_7
      try clear hfz11_0
      try clear hfz11_1
      try clear hfz11_2
      try clear hfz11_3
      try clear hfz11_4
      try clear hfz11_5
      try clear hfz11_6
      try clear hfz11_7
      try clear hfz16_0
      try clear hfz16_1
      try clear hfz16_2
      try clear hfz16_3
      try clear hfz16_4
      try clear hfz16_5
      try clear hfz16_6
      try clear hfz16_7
      try clear hx130_0
      try clear hx130_1
      try clear hx130_2
      try clear hx130_3
      try clear hx130_4
      try clear hx130_5
      try clear hx130_6
      try clear hx130_7
      try clear p130
      try clear p2
      try clear q130
      obtain ⟨x10_2, x47_2, rfl, HA, HK2, HO_4, HO_10, HO_45, HB⟩ := hrel
      cases gk with
      | zero => exact absurd HA.out (by simp [directory_Encode.l1])
      | succ k2 =>
       have H := HA.out
       clear HA
       simp only [directory_Encode.l1] at H
       by_cases c29 : x47_2 < (t144.length : Int)
       ·rw [if_pos c29] at H
        have c29b0 : decide (x47_2 < (t144.length : Int)) = true := decide_eq_true c29
        clear c29
        by_cases c30 : 0 ≤ x47_2
        rotate_left
        ·rw [if_neg c30] at H
         exact absurd H (by simp)
        rw [if_pos c30] at H
        have c30b0 : decide (0 ≤ x47_2) = true := decide_eq_true c30
        clear c30
        by_cases c31 : x47_2 < (t144.length : Int)
        rotate_left
        ·rw [if_neg c31] at H
         exact absurd H (by simp)
        rw [if_pos c31] at H
        have c31b0 : decide (x47_2 < (t144.length : Int)) = true := decide_eq_true c31
        clear c31
        by_cases c32 : 0 ≤ (rd t144 x47_2)
        rotate_left
        ·rw [if_neg c32] at H
         exact absurd H (by simp)
        rw [if_pos c32] at H
        have c32b0 : decide (0 ≤ (rd t144 x47_2)) = true := decide_eq_true c32
        clear c32
        by_cases c33 : (rd t144 x47_2) < (x10_2.length : Int)
        rotate_left
        ·rw [if_neg c33] at H
         exact absurd H (by simp)
        rw [if_pos c33] at H
        have c33b0 : decide ((rd t144 x47_2) < (x10_2.length : Int)) = true := decide_eq_true c33
        clear c33
        by_cases c35 : x47_2 < (x4_1.length : Int)
        rotate_left
        ·rw [if_neg c35] at H
         exact absurd H (by simp)
        rw [if_pos c35] at H
        have c35b0 : decide (x47_2 < (x4_1.length : Int)) = true := decide_eq_true c35
        clear c35
        have c36 : (rd t144 x47_2) + ((rdOf ByteArray.empty x4_1 x47_2).size : Int) ≤ (x10_2.length : Int) := by
         by_cases c_ : (rd t144 x47_2) + ((rdOf ByteArray.empty x4_1 x47_2).size : Int) ≤ (x10_2.length : Int)
         ·exact c_
         ·rw [if_neg c_] at H; exact absurd H (by simp)
        rw [if_pos c36] at H
        obtain ⟨y149, hy149⟩ : ∃ y_ : List Int, y_ = (layAll x10_2 (rd t144 x47_2).toNat (bytesNum (rdOf ByteArray.empty x4_1 x47_2))) := ⟨_, rfl⟩
        replace H : (directory_Encode.l1 k2 x4_1 y149 t144 (t144.length : Int) (wrap64 (x47_2 + 1))) = some (r1, r2) := by first | (rw [hy149]; with_reducible exact H) | (have H2_ := (Option.bind_some _ _).symm.trans H; rw [hy149]; with_reducible exact H2_) | (have H2_ := (Option.bind_some _ _).symm.trans H; with_reducible exact H2_) | with_reducible exact H | (rw [hy149]; exact H) | exact H
        have Ny149 := Aside0.mk hy149
        clear hy149
        have H' := Aside0.mk H
        clear H
        have p147 : 0 ≤ (x47_2 : Int) := of_decide_eq_true (by first | (with_reducible assumption) | assumption)
        have q147 : x47_2 < (t144.length : Int) := of_decide_eq_true (by first | (with_reducible assumption) | assumption)
        obtain ⟨ad147, e147, hx147_0⟩ := Kd.at_int (Kd.R_reads' HO_45.out).2.2 x47_2 p147 q147
        cases e147
        replace p147 := eq_true p147
        replace q147 := eq_true q147
        try go_wp2
        replace HO_4 := Aside0.mk (Kd.R_drew HO_4.out)
        replace HO_10 := Aside0.mk (Kd.R_drew HO_10.out)
        replace HO_45 := Aside0.mk (Kd.R_drew HO_45.out)
        replace HB := Aside0.mk (below_drew1 HB.out)
        have p34 : 0 ≤ ((rd t144 x47_2) : Int) := of_decide_eq_true (by first | (with_reducible assumption) | assumption)
        have q34 : ((rd t144 x47_2) : Int) < ((x10_2.length : Int) : Int) := of_decide_eq_true (by first | (with_reducible assumption) | assumption)
        obtain ⟨go34, co34, eo34, gb34, gl34, cl34, HG34⟩ := Kd.R_form HO_10.out (by omega)
        (first | cases eo34 | (injection eo34 with ea_ en_ ec_; (first | subst ea_ | (injection ea_ with ea_; subst ea_)); subst ec_; clear en_))
        have GB34 := Aside0.mk gb34
        have GG34 := Aside0.mk HG34
        clear gb34 gl34 HG34
        obtain ⟨Ao37, co37, eo37⟩ := Kd.R_slice HO_4.out
        (first | subst eo37 | (injection eo37 with f1_ f2_ f3_; have f4_ := f1_.symm; have f5_ := f3_.symm; clear f1_ f2_ f3_; subst f4_; subst f5_))
        have p148 : 0 ≤ (x47_2 : Int) := of_decide_eq_true (by first | (with_reducible assumption) | assumption)
        have q148 : x47_2 < (x4_1.length : Int) := of_decide_eq_true (by first | (with_reducible assumption) | assumption)
        obtain ⟨ad148, e148, hx148_0⟩ := Kd.at_string (Kd.R_reads' HO_4.out).2.2 x47_2 p148 q148
        cases e148
        replace p148 := eq_true p148
        replace q148 := eq_true q148
        obtain ⟨str_, hstr_⟩ : ∃ s_, s_ = rdOf ByteArray.empty x4_1 x47_2 := ⟨_, rfl⟩
        rw [← hstr_] at hx148_0 c36
        obtain ⟨n_, hn_⟩ : ∃ n_ : Nat, rd t144 x47_2 = (n_ : Int) := ⟨(rd t144 x47_2).toNat, (Int.toNat_of_nonneg (of_decide_eq_true (by assumption))).symm⟩
        have Ny_ : y149 = layAll x10_2 n_ (bytesNum str_) := by have h_ := Ny149.out; rw [hn_, ← hstr_] at h_; simpa using h_
        rw [hn_] at hx147_0 c36
        have hle_ : n_ + str_.size ≤ x10_2.length := by omega
        have hs0_ : (0 : Int) ≤ (n_ : Int) := by omega
        have hs1_ : (n_ : Int) ≤ (x10_2.length : Int) := by omega
        have hcl_ : ∀ j, j < str_.size → (wr.drew.cell? ⟨go34, n_ + j, none⟩).isSome = true ∧ wr.drew.frozen? ⟨go34, n_ + j, none⟩ = false := fun j hj => by
         have h_ := Kd.R_celln 0 HO_10.out ((n_ + j : Nat) : Int) (by omega) (by omega)
         rw [Int.toNat_natCast] at h_
         exact ⟨by rw [h_.1]; rfl, h_.2⟩
        have HQ_ := Aside0.mk (R_layAll str_.data.toList n_ wr.drew x10_2 HO_10.out)
        have HF4_ := Aside0.mk (R_farAll str_.data.toList n_ wr.drew go34 (Kd.R_types HO_4.out GG34.out (by decide)) (fun _ hk => hk.2))
        have HF45_ := Aside0.mk (R_farAll str_.data.toList n_ wr.drew go34 (Kd.R_types HO_45.out GG34.out (by decide)) (fun _ hk => hk.2))
        have HBB_ := Aside0.mk (below_setCells GB34.out (str_.data.toList.map fun x => Value.int .u8 (x.toNat : Int)) n_ wr.drew HB.out)
        replace Ny_ := Ny_.symm
        have hnc_ : ¬ co34 = n_ := by have h_ := (Kd.R_reads' HO_10.out).2.1; omega
        have hz_ : ∀ W_, (Go.sizeOf 5).run Tryz.prog W_ = .ok 1 W_ := fun _ => by kernel_rfl
        go_region_law (refine step_copy_string rfl (.tmp 54) (.tmp 58) 69 9 rfl 5 Tryz.underlying69 hz_ go34 n_ (x10_2.length - n_) (co34 - n_) (by simp [Act.eval, Act.put, hnc_]) str_ (by simp [Act.eval, Act.put, hstr_]) (by omega) (fun j hj => (hcl_ j hj).1) (fun j hj => (hcl_ j hj).2) ?_)
        rw [← hstr_]
        replace HQ_ := HQ_.out
        rw [show layAll x10_2 n_ (List.map (fun x => (x.toNat : Int)) str_.data.toList) = y149 from Ny_] at HQ_
        replace HQ_ := Aside0.mk HQ_
        generalize wr.drew.setCells go34 n_ (List.map (fun x => Value.int .u8 (x.toNat : Int)) str_.data.toList) = wq_ at HQ_ HF4_ HF45_ HBB_ ⊢
        go_wp2
        go_roundg k2
        case measure => have := HK1.out; have := HK2.out; omega
        case rel => exact ⟨y149, (wrap64 (x47_2 + 1)), (by first | rfl | (simp; done) | (simp [*]; done)), H', ⟨by have := HK1.out; have := HK2.out; omega⟩, ⟨Kd.R_mono HF4_.out (fun _ hk => trivial)⟩, ⟨HQ_.out⟩, ⟨Kd.R_mono HF45_.out (fun _ hk => trivial)⟩, ⟨HBB_.out⟩⟩
       ·rw [if_neg c29] at H
        have c29b0 : decide (x47_2 < (t144.length : Int)) = false := decide_eq_false c29
        clear c29
        simp only [Option.some.injEq, Prod.mk.injEq] at H
        obtain ⟨rfl, rfl⟩ := H
        have hcv39 := own_string (P := Tryz.prog) Tryz.underlying69 Tryz.underlying5 Tryz.underlying9 (Kd.own_of_R HO_10.out)
        go_wp2
        go_ret2
        exact ⟨by first | rfl | (simp [errW_none, errW_some] <;> rfl) | (simp only [← hji19]; first | rfl | (simp [errW_none, errW_some] <;> rfl)) | (simp [*, errW_none, errW_some] <;> rfl), uB HB.out⟩

end Go.Proofs.YthblghfobnhoeaaGreat.H
namespace Go.Proofs.YthblghfobnhoeaaGreat.H
open Go.RowKit Go.Proofs.YthblghfobnhoeaaGreat.A Go.Proofs.YthblghfobnhoeaaGreatW.PrintWords Go.Proofs.YthblghfobnhoeaaGreatW.PrintLast Go.Proofs.YthblghfobnhoeaaGreatW.PrintMore
attribute [local go_sem] max2_int min2_int max_two min_two max_three min_three max_four min_four   -- for this text's walks alone
set_option linter.unusedVariables false
set_option linter.unusedSimpArgs false
attribute [-simp] ByteArray.size_extract
theorem info45 : (Tryz.prog.info? 45).map (fun i => (i.zero, i.size, i.bytes)) = some (some (.agg #[(.string ⟨#[]⟩), (.int .i64 0), (.int .i64 0), (.int .i64 0), (.int .i64 0), (.int .i64 0), (.int .i64 0), (.string ⟨#[]⟩)]), 8, 80) := by kernel_rfl

/-! ### directory_Decode: function 27 -/
def directory_Decode.l0 : Nat → ByteArray → List (S45) → List Int → Int → Option ((List (S45)) × List Int × Int)
 | 0, _, _, _, _ => none
 | k + 1, x0, x5, x6, x7 => if x7 < (x0.size : Int) then (if 0 ≤ x7 then (if x7 ≤ (wrap64 ((wrap64 ((wrap64 (Int.tdiv x7 2048)) + 1)) * 2048)) then (if (wrap64 ((wrap64 ((wrap64 (Int.tdiv x7 2048)) + 1)) * 2048)) ≤ (x0.size : Int) then (if 0 < ((x0.extract (x7 : Int).toNat ((wrap64 ((wrap64 ((wrap64 (Int.tdiv x7 2048)) + 1)) * 2048)) : Int).toNat).size : Int) then (if (bt (x0.extract (x7 : Int).toNat ((wrap64 ((wrap64 ((wrap64 (Int.tdiv x7 2048)) + 1)) * 2048)) : Int).toNat) 0) = 0 then (directory_Decode.l0 k x0 x5 x6 (wrap64 ((wrap64 ((wrap64 (Int.tdiv x7 2048)) + 1)) * 2048))) else (if (wrap64 (bt (x0.extract (x7 : Int).toNat ((wrap64 ((wrap64 ((wrap64 (Int.tdiv x7 2048)) + 1)) * 2048)) : Int).toNat) 0)) > ((x0.extract (x7 : Int).toNat ((wrap64 ((wrap64 ((wrap64 (Int.tdiv x7 2048)) + 1)) * 2048)) : Int).toNat).size : Int) then (some (([] : List (S45)), ([] : List Int), 10)) else ((dirrecord_Decode.f k (x0.extract (x7 : Int).toNat ((wrap64 ((wrap64 ((wrap64 (Int.tdiv x7 2048)) + 1)) * 2048)) : Int).toNat)).bind fun bt112 => (if bt112.2.2.2.2.2.2.2.2.2 = 0 then (if (x5.length : Int) = 1024 then (some (([] : List (S45)), ([] : List Int), 7)) else (if x5.length < 1759218604441 then (if x6.length < 17592186044416 then (directory_Decode.l0 k x0 (x5 ++ [(⟨bt112.1, bt112.2.1, bt112.2.2.1, bt112.2.2.2.1, bt112.2.2.2.2.1, bt112.2.2.2.2.2.1, bt112.2.2.2.2.2.2.1, bt112.2.2.2.2.2.2.2.1⟩ : S45)]) (x6 ++ [x7]) (wrap64 (x7 + bt112.2.2.2.2.2.2.2.2.1))) else (none)) else (none))) else (some (([] : List (S45)), ([] : List Int), bt112.2.2.2.2.2.2.2.2.2)))))) else (none)) else (none)) else (none)) else (none)) else (some (x5, x6, 0))
def directory_Decode.f (k : Nat) (a0 : ByteArray) : Option ((List (S45)) × List Int × Int) := if ((a0.size : Int) % 2048) = 0 then (if (a0.size : Int) > 131072 then (some (([] : List (S45)), ([] : List Int), 7)) else (directory_Decode.l0 k a0 ([] : List (S45)) ([] : List Int) 0)) else (some (([] : List (S45)), ([] : List Int), 1))
theorem directory_Decode.mono_l : ∀ k, (∀ y0 y1 y2 y3, LeO (directory_Decode.l0 k y0 y1 y2 y3) (directory_Decode.l0 (k + 1) y0 y1 y2 y3))
 | 0 => fun _ _ _ _ r h => by simp [directory_Decode.l0] at h
 | k + 1 => by
  have ih0 := directory_Decode.mono_l k
  ·intro y0 y1 y2 y3
   unfold directory_Decode.l0
   repeat' first
   | (with_reducible exact ih0 _ _ _ _)
   | (with_reducible exact dirrecord_Decode.mono _ _)
   | (with_reducible exact LeO.refl _)
   | (with_reducible exact LeO.none _)
   | (with_reducible refine LeO.ite ?_ ?_)
   | (with_reducible refine LeO.bind ?_ (fun _ => ?_))
   | exact ih0 _ _ _ _
   | exact dirrecord_Decode.mono _ _
   | exact LeO.none _
   | refine LeO.ite ?_ ?_
   | refine LeO.bind ?_ (fun _ => ?_)
theorem directory_Decode.mono : ∀ a0 k, LeO (directory_Decode.f k a0) (directory_Decode.f (k + 1) a0) := by
 intro a0 k
 have ih0 := directory_Decode.mono_l k
 unfold directory_Decode.f
 repeat' first
   | (with_reducible exact ih0 _ _ _ _)
   | (with_reducible exact dirrecord_Decode.mono _ _)
   | (with_reducible exact LeO.refl _)
   | (with_reducible exact LeO.none _)
   | (with_reducible refine LeO.ite ?_ ?_)
   | (with_reducible refine LeO.bind ?_ (fun _ => ?_))
   | exact ih0 _ _ _ _
   | exact dirrecord_Decode.mono _ _
   | exact LeO.none _
   | refine LeO.ite ?_ ?_
   | refine LeO.bind ?_ (fun _ => ?_)
set_option maxHeartbeats 8000000 in
set_option maxRecDepth 100000 in
theorem directory_Decode.calls (k : Nat) (a0 : ByteArray) (r1 : List (S45)) (r2 : List Int) (r3 : Int) (w : World) (h : directory_Decode.f k a0 = some (r1, r2, r3)) :
  Calls Tryz.prog 27 #[.string a0] w fun e w' => ∃ v0_ v1_ : Value, e = .returned (.tuple #[v0_, v1_, .int .i64 r3]) ∧ Kd.R k45 45 w' w.heap.size (fun _ => True) v0_ r1 ∧ Kd.R (Kd.int .i64) 3 w' w.heap.size (fun _ => True) v1_ r2 ∧ Below w.heap.size w w' := by
 have hu45 := Tryz.underlying45
 have HB := Aside0.mk (Below.refl w.heap.size w)
 have H : (if ((a0.size : Int) % 2048) = 0 then (if (a0.size : Int) > 131072 then (some (([] : List (S45)), ([] : List Int), 7)) else (directory_Decode.l0 k a0 ([] : List (S45)) ([] : List Int) 0)) else (some (([] : List (S45)), ([] : List Int), 1))) = some (r1, r2, r3) := h
 clear h
 by_cases c2 : ((a0.size : Int) % 2048) = 0
 ·rw [if_pos c2] at H
  have c2b0 : (((a0.size : Int) % 2048) == 0) = true := beq_iff_eq.mpr c2
  have c2b1 : (((a0.size : Int) % 2048) != 0) = false := bne_eq_false_iff_eq.mpr c2
  clear c2
  by_cases c3 : (a0.size : Int) > 131072
  ·rw [if_pos c3] at H
   have c3b0 : decide (131072 < (a0.size : Int)) = true := decide_eq_true c3
   have c3b1 : decide (131072 < a0.size) = true := decide_eq_true (by omega)
   clear c3
   simp only [Option.some.injEq, Prod.mk.injEq] at H
   obtain ⟨rfl, rfl, rfl⟩ := H
   go_enter Tryz.func27, Tryz.ntmps27
   go_wp2
   go_ret3
   exact ⟨_, _, by first | rfl | (simp [errW_none, errW_some] <;> rfl) | (simp [*, errW_none, errW_some] <;> rfl), by first | exact Kd.R_nil _ _ _ _ _ | exact Kd.N_nil _ _ _ _ _ | exact Kd.V_nil _ _ _ _ _ | exact Kd.Q_nil _ _ _ _ _ | exact Kd.S_nil _ _ _ _ _, by first | exact Kd.R_nil _ _ _ _ _ | exact Kd.N_nil _ _ _ _ _ | exact Kd.V_nil _ _ _ _ _ | exact Kd.Q_nil _ _ _ _ _ | exact Kd.S_nil _ _ _ _ _, uB HB.out⟩
  ·rw [if_neg c3] at H
   have c3b0 : decide (131072 < (a0.size : Int)) = false := decide_eq_false c3
   have c3b1 : decide (131072 < a0.size) = false := decide_eq_false (by omega)
   clear c3
   have H' := Aside0.mk H
   clear H
   go_enter Tryz.func27, Tryz.ntmps27
   go_wp2
   go_loopg [5, 6, 7] k (fun kq v5 v6 v7 w' => ∃ (x5_1 : List (S45)) (x6_1 : List Int) (x7_1 : Int), v7 = .int .i64 x7_1 ∧ Aside0 (directory_Decode.l0 kq a0 x5_1 x6_1 x7_1 = some (r1, r2, r3)) ∧ Aside0 (kq ≤ k) ∧ Aside0 (Kd.R k45 45 w' w.heap.size (fun _ => True) v5 x5_1) ∧ Aside0 (Kd.R (Kd.int .i64) 3 w' w.heap.size (fun _ => True) v6 x6_1) ∧ Aside0 (Below w.heap.size w w'))
   case atStart => exact ⟨(([] : List (S45))), (([] : List Int)), (0), (by first | rfl | (simp; done) | (simp [*]; done)), H', ⟨Nat.le_refl _⟩, ⟨by first | exact Kd.R_nil _ _ _ _ _ | exact Kd.N_nil _ _ _ _ _ | exact Kd.V_nil _ _ _ _ _ | exact Kd.Q_nil _ _ _ _ _ | exact Kd.S_nil _ _ _ _ _⟩, ⟨by first | exact Kd.R_nil _ _ _ _ _ | exact Kd.N_nil _ _ _ _ _ | exact Kd.V_nil _ _ _ _ _ | exact Kd.Q_nil _ _ _ _ _ | exact Kd.S_nil _ _ _ _ _⟩, ⟨uB HB.out⟩⟩
   case round =>
    clear H'
    try clear c2
    try clear c2b0
    try clear c2b1
    try clear p2
    try clear c3
    try clear c3b0
    try clear c3b1
    obtain ⟨x5_1, x6_1, x7_1, rfl, HA, HK1, HO_5, HO_6, HB⟩ := hrel
    cases gk with
    | zero => exact absurd HA.out (by simp [directory_Decode.l0])
    | succ k1 =>
     have H := HA.out
     clear HA
     simp only [directory_Decode.l0] at H
     by_cases c4 : x7_1 < (a0.size : Int)
     ·rw [if_pos c4] at H
      have c4b0 : decide (x7_1 < (a0.size : Int)) = true := decide_eq_true c4
      clear c4
      by_cases c5 : 0 ≤ x7_1
      rotate_left
      ·rw [if_neg c5] at H
       exact absurd H (by simp)
      rw [if_pos c5] at H
      have c5b0 := eq_true c5
      have c5b1 : decide (0 ≤ x7_1) = true := decide_eq_true c5
      clear c5
      by_cases c6 : x7_1 ≤ (wrap64 ((wrap64 ((wrap64 (Int.tdiv x7_1 2048)) + 1)) * 2048))
      rotate_left
      ·rw [if_neg c6] at H
       exact absurd H (by simp)
      rw [if_pos c6] at H
      have c6b0 := eq_true c6
      have c6b1 : decide (x7_1 ≤ (wrap64 ((wrap64 ((wrap64 (Int.tdiv x7_1 2048)) + 1)) * 2048))) = true := decide_eq_true c6
      by_cases c7 : (wrap64 ((wrap64 ((wrap64 (Int.tdiv x7_1 2048)) + 1)) * 2048)) ≤ (a0.size : Int)
      rotate_left
      ·rw [if_neg c7] at H
       exact absurd H (by simp)
      rw [if_pos c7] at H
      have c7b0 := eq_true c7
      have c7b1 : decide ((wrap64 ((wrap64 ((wrap64 (Int.tdiv x7_1 2048)) + 1)) * 2048)) ≤ (a0.size : Int)) = true := decide_eq_true c7
      by_cases c8 : 0 < ((a0.extract (x7_1 : Int).toNat ((wrap64 ((wrap64 ((wrap64 (Int.tdiv x7_1 2048)) + 1)) * 2048)) : Int).toNat).size : Int)
      rotate_left
      ·rw [if_neg c8] at H
       exact absurd H (by simp)
      rw [if_pos c8] at H
      have c8b0 : decide (0 < ((a0.extract (x7_1 : Int).toNat ((wrap64 ((wrap64 ((wrap64 (Int.tdiv x7_1 2048)) + 1)) * 2048)) : Int).toNat).size : Int)) = true := decide_eq_true c8
      have c8b1 : decide (0 < (a0.extract (x7_1 : Int).toNat ((wrap64 ((wrap64 ((wrap64 (Int.tdiv x7_1 2048)) + 1)) * 2048)) : Int).toNat).size) = true := decide_eq_true (by omega)
      clear c8
      by_cases c10 : (bt (a0.extract (x7_1 : Int).toNat ((wrap64 ((wrap64 ((wrap64 (Int.tdiv x7_1 2048)) + 1)) * 2048)) : Int).toNat) 0) = 0
      ·rw [if_pos c10] at H
       have c10b0 : ((bt (a0.extract (x7_1 : Int).toNat ((wrap64 ((wrap64 ((wrap64 (Int.tdiv x7_1 2048)) + 1)) * 2048)) : Int).toNat) 0) == 0) = true := beq_iff_eq.mpr c10
       have c10b1 : ((bt (a0.extract (x7_1 : Int).toNat ((wrap64 ((wrap64 ((wrap64 (Int.tdiv x7_1 2048)) + 1)) * 2048)) : Int).toNat) 0) != 0) = false := bne_eq_false_iff_eq.mpr c10
       clear c10
       have H' := Aside0.mk H
       clear H
       have p9 : 0 ≤ (0 : Int) := (by omega)
       have q9 : 0 < (a0.extract (x7_1 : Int).toNat ((wrap64 ((wrap64 ((wrap64 (Int.tdiv x7_1 2048)) + 1)) * 2048)) : Int).toNat).size := (by have : (0 : Int) < ((a0.extract (x7_1 : Int).toNat ((wrap64 ((wrap64 ((wrap64 (Int.tdiv x7_1 2048)) + 1)) * 2048)) : Int).toNat).size : Int) := of_decide_eq_true (by first | (with_reducible assumption) | assumption); omega)
       have hx9 : ∀ h : 0 < (a0.extract (x7_1 : Int).toNat ((wrap64 ((wrap64 ((wrap64 (Int.tdiv x7_1 2048)) + 1)) * 2048)) : Int).toNat).size, (((a0.extract (x7_1 : Int).toNat ((wrap64 ((wrap64 ((wrap64 (Int.tdiv x7_1 2048)) + 1)) * 2048)) : Int).toNat)[0]'h).toNat : Int) = bt (a0.extract (x7_1 : Int).toNat ((wrap64 ((wrap64 ((wrap64 (Int.tdiv x7_1 2048)) + 1)) * 2048)) : Int).toNat) 0 := bt_at (a0.extract (x7_1 : Int).toNat ((wrap64 ((wrap64 ((wrap64 (Int.tdiv x7_1 2048)) + 1)) * 2048)) : Int).toNat) 0
       clear p9
       have qi9 : (0 < ((a0.extract (x7_1 : Int).toNat ((wrap64 ((wrap64 ((wrap64 (Int.tdiv x7_1 2048)) + 1)) * 2048)) : Int).toNat).size : Int)) = True := eq_true (of_decide_eq_true (by first | (with_reducible assumption) | assumption))
       replace q9 := eq_true q9
       go_wp2
       go_roundg k1
       case measure => have := HK1.out; omega
       case rel => exact ⟨(x5_1), (x6_1), (wrap64 ((wrap64 ((wrap64 (Int.tdiv x7_1 2048)) + 1)) * 2048)), (by first | rfl | (simp; done) | (simp [*]; done)), H', ⟨by have := HK1.out; omega⟩, ⟨uR HO_5.out⟩, ⟨uR HO_6.out⟩, ⟨uB HB.out⟩⟩
      ·rw [if_neg c10] at H
       have c10b0 : ((bt (a0.extract (x7_1 : Int).toNat ((wrap64 ((wrap64 ((wrap64 (Int.tdiv x7_1 2048)) + 1)) * 2048)) : Int).toNat) 0) == 0) = false := beq_eq_false_iff_ne.mpr c10
       have c10b1 : ((bt (a0.extract (x7_1 : Int).toNat ((wrap64 ((wrap64 ((wrap64 (Int.tdiv x7_1 2048)) + 1)) * 2048)) : Int).toNat) 0) != 0) = true := bne_iff_ne.mpr c10
       by_cases c12 : (wrap64 (bt (a0.extract (x7_1 : Int).toNat ((wrap64 ((wrap64 ((wrap64 (Int.tdiv x7_1 2048)) + 1)) * 2048)) : Int).toNat) 0)) > ((a0.extract (x7_1 : Int).toNat ((wrap64 ((wrap64 ((wrap64 (Int.tdiv x7_1 2048)) + 1)) * 2048)) : Int).toNat).size : Int)
       ·rw [if_pos c12] at H
        have c12b0 : decide (((a0.extract (x7_1 : Int).toNat ((wrap64 ((wrap64 ((wrap64 (Int.tdiv x7_1 2048)) + 1)) * 2048)) : Int).toNat).size : Int) < (wrap64 (bt (a0.extract (x7_1 : Int).toNat ((wrap64 ((wrap64 ((wrap64 (Int.tdiv x7_1 2048)) + 1)) * 2048)) : Int).toNat) 0))) = true := decide_eq_true c12
        clear c12
        simp only [Option.some.injEq, Prod.mk.injEq] at H
        obtain ⟨rfl, rfl, rfl⟩ := H
        have p9 : 0 ≤ (0 : Int) := (by omega)
        have q9 : 0 < (a0.extract (x7_1 : Int).toNat ((wrap64 ((wrap64 ((wrap64 (Int.tdiv x7_1 2048)) + 1)) * 2048)) : Int).toNat).size := (by have : (0 : Int) < ((a0.extract (x7_1 : Int).toNat ((wrap64 ((wrap64 ((wrap64 (Int.tdiv x7_1 2048)) + 1)) * 2048)) : Int).toNat).size : Int) := of_decide_eq_true (by first | (with_reducible assumption) | assumption); omega)
        have hx9 : ∀ h : 0 < (a0.extract (x7_1 : Int).toNat ((wrap64 ((wrap64 ((wrap64 (Int.tdiv x7_1 2048)) + 1)) * 2048)) : Int).toNat).size, (((a0.extract (x7_1 : Int).toNat ((wrap64 ((wrap64 ((wrap64 (Int.tdiv x7_1 2048)) + 1)) * 2048)) : Int).toNat)[0]'h).toNat : Int) = bt (a0.extract (x7_1 : Int).toNat ((wrap64 ((wrap64 ((wrap64 (Int.tdiv x7_1 2048)) + 1)) * 2048)) : Int).toNat) 0 := bt_at (a0.extract (x7_1 : Int).toNat ((wrap64 ((wrap64 ((wrap64 (Int.tdiv x7_1 2048)) + 1)) * 2048)) : Int).toNat) 0
        clear p9
        have qi9 : (0 < ((a0.extract (x7_1 : Int).toNat ((wrap64 ((wrap64 ((wrap64 (Int.tdiv x7_1 2048)) + 1)) * 2048)) : Int).toNat).size : Int)) = True := eq_true (of_decide_eq_true (by first | (with_reducible assumption) | assumption))
        replace q9 := eq_true q9
        have p11 : 0 ≤ (0 : Int) := (by omega)
        have q11 : 0 < (a0.extract (x7_1 : Int).toNat ((wrap64 ((wrap64 ((wrap64 (Int.tdiv x7_1 2048)) + 1)) * 2048)) : Int).toNat).size := (by have : (0 : Int) < ((a0.extract (x7_1 : Int).toNat ((wrap64 ((wrap64 ((wrap64 (Int.tdiv x7_1 2048)) + 1)) * 2048)) : Int).toNat).size : Int) := of_decide_eq_true (by first | (with_reducible assumption) | assumption); omega)
        have hx11 : ∀ h : 0 < (a0.extract (x7_1 : Int).toNat ((wrap64 ((wrap64 ((wrap64 (Int.tdiv x7_1 2048)) + 1)) * 2048)) : Int).toNat).size, (((a0.extract (x7_1 : Int).toNat ((wrap64 ((wrap64 ((wrap64 (Int.tdiv x7_1 2048)) + 1)) * 2048)) : Int).toNat)[0]'h).toNat : Int) = bt (a0.extract (x7_1 : Int).toNat ((wrap64 ((wrap64 ((wrap64 (Int.tdiv x7_1 2048)) + 1)) * 2048)) : Int).toNat) 0 := bt_at (a0.extract (x7_1 : Int).toNat ((wrap64 ((wrap64 ((wrap64 (Int.tdiv x7_1 2048)) + 1)) * 2048)) : Int).toNat) 0
        clear p11
        have qi11 : (0 < ((a0.extract (x7_1 : Int).toNat ((wrap64 ((wrap64 ((wrap64 (Int.tdiv x7_1 2048)) + 1)) * 2048)) : Int).toNat).size : Int)) = True := eq_true (of_decide_eq_true (by first | (with_reducible assumption) | assumption))
        replace q11 := eq_true q11
        go_wp2
        go_ret3
        exact ⟨_, _, by first | rfl | (simp [errW_none, errW_some] <;> rfl) | (simp [*, errW_none, errW_some] <;> rfl), by first | exact Kd.R_nil _ _ _ _ _ | exact Kd.N_nil _ _ _ _ _ | exact Kd.V_nil _ _ _ _ _ | exact Kd.Q_nil _ _ _ _ _ | exact Kd.S_nil _ _ _ _ _, by first | exact Kd.R_nil _ _ _ _ _ | exact Kd.N_nil _ _ _ _ _ | exact Kd.V_nil _ _ _ _ _ | exact Kd.Q_nil _ _ _ _ _ | exact Kd.S_nil _ _ _ _ _, uB HB.out⟩
       ·rw [if_neg c12] at H
        have c12b0 : decide (((a0.extract (x7_1 : Int).toNat ((wrap64 ((wrap64 ((wrap64 (Int.tdiv x7_1 2048)) + 1)) * 2048)) : Int).toNat).size : Int) < (wrap64 (bt (a0.extract (x7_1 : Int).toNat ((wrap64 ((wrap64 ((wrap64 (Int.tdiv x7_1 2048)) + 1)) * 2048)) : Int).toNat) 0))) = false := decide_eq_false c12
        clear c12
        replace H := Option.bind_eq_some_iff.mp H
        obtain ⟨⟨t112, t113, t114, t115, t116, t117, t118, t119, t120, t121⟩, A130, H⟩ := H
        replace H : (if t121 = 0 then (if (x5_1.length : Int) = 1024 then (some (([] : List (S45)), ([] : List Int), 7)) else (if x5_1.length < 1759218604441 then (if x6_1.length < 17592186044416 then (directory_Decode.l0 k1 a0 (x5_1 ++ [(⟨t112, t113, t114, t115, t116, t117, t118, t119⟩ : S45)]) (x6_1 ++ [x7_1]) (wrap64 (x7_1 + t120))) else (none)) else (none))) else (some (([] : List (S45)), ([] : List Int), t121))) = some (r1, r2, r3) := H
        have A13 := Aside0.mk A130
        clear A130
        by_cases c14 : t121 = 0
        ·rw [if_pos c14] at H
         have c14b0 : (t121 == 0) = true := beq_iff_eq.mpr c14
         have c14b1 : (t121 != 0) = false := bne_eq_false_iff_eq.mpr c14
         clear c14
         by_cases c15 : (x5_1.length : Int) = 1024
         ·rw [if_pos c15] at H
          have c15b0 : ((x5_1.length : Int) == 1024) = true := beq_iff_eq.mpr c15
          have c15b1 : ((x5_1.length : Int) != 1024) = false := bne_eq_false_iff_eq.mpr c15
          clear c15
          simp only [Option.some.injEq, Prod.mk.injEq] at H
          obtain ⟨rfl, rfl, rfl⟩ := H
          have p9 : 0 ≤ (0 : Int) := (by omega)
          have q9 : 0 < (a0.extract (x7_1 : Int).toNat ((wrap64 ((wrap64 ((wrap64 (Int.tdiv x7_1 2048)) + 1)) * 2048)) : Int).toNat).size := (by have : (0 : Int) < ((a0.extract (x7_1 : Int).toNat ((wrap64 ((wrap64 ((wrap64 (Int.tdiv x7_1 2048)) + 1)) * 2048)) : Int).toNat).size : Int) := of_decide_eq_true (by first | (with_reducible assumption) | assumption); omega)
          have hx9 : ∀ h : 0 < (a0.extract (x7_1 : Int).toNat ((wrap64 ((wrap64 ((wrap64 (Int.tdiv x7_1 2048)) + 1)) * 2048)) : Int).toNat).size, (((a0.extract (x7_1 : Int).toNat ((wrap64 ((wrap64 ((wrap64 (Int.tdiv x7_1 2048)) + 1)) * 2048)) : Int).toNat)[0]'h).toNat : Int) = bt (a0.extract (x7_1 : Int).toNat ((wrap64 ((wrap64 ((wrap64 (Int.tdiv x7_1 2048)) + 1)) * 2048)) : Int).toNat) 0 := bt_at (a0.extract (x7_1 : Int).toNat ((wrap64 ((wrap64 ((wrap64 (Int.tdiv x7_1 2048)) + 1)) * 2048)) : Int).toNat) 0
          clear p9
          have qi9 : (0 < ((a0.extract (x7_1 : Int).toNat ((wrap64 ((wrap64 ((wrap64 (Int.tdiv x7_1 2048)) + 1)) * 2048)) : Int).toNat).size : Int)) = True := eq_true (of_decide_eq_true (by first | (with_reducible assumption) | assumption))
          replace q9 := eq_true q9
          have p11 : 0 ≤ (0 : Int) := (by omega)
          have q11 : 0 < (a0.extract (x7_1 : Int).toNat ((wrap64 ((wrap64 ((wrap64 (Int.tdiv x7_1 2048)) + 1)) * 2048)) : Int).toNat).size := (by have : (0 : Int) < ((a0.extract (x7_1 : Int).toNat ((wrap64 ((wrap64 ((wrap64 (Int.tdiv x7_1 2048)) + 1)) * 2048)) : Int).toNat).size : Int) := of_decide_eq_true (by first | (with_reducible assumption) | assumption); omega)
          have hx11 : ∀ h : 0 < (a0.extract (x7_1 : Int).toNat ((wrap64 ((wrap64 ((wrap64 (Int.tdiv x7_1 2048)) + 1)) * 2048)) : Int).toNat).size, (((a0.extract (x7_1 : Int).toNat ((wrap64 ((wrap64 ((wrap64 (Int.tdiv x7_1 2048)) + 1)) * 2048)) : Int).toNat)[0]'h).toNat : Int) = bt (a0.extract (x7_1 : Int).toNat ((wrap64 ((wrap64 ((wrap64 (Int.tdiv x7_1 2048)) + 1)) * 2048)) : Int).toNat) 0 := bt_at (a0.extract (x7_1 : Int).toNat ((wrap64 ((wrap64 ((wrap64 (Int.tdiv x7_1 2048)) + 1)) * 2048)) : Int).toNat) 0
          clear p11
          have qi11 : (0 < ((a0.extract (x7_1 : Int).toNat ((wrap64 ((wrap64 ((wrap64 (Int.tdiv x7_1 2048)) + 1)) * 2048)) : Int).toNat).size : Int)) = True := eq_true (of_decide_eq_true (by first | (with_reducible assumption) | assumption))
          replace q11 := eq_true q11
          go_wp2_with (first | ((with_reducible refine gate_callee (f := 50) rfl ?_); refine gL (some 44) Tryz.func50 #[.string (a0.extract (x7_1 : Int).toNat ((wrap64 ((wrap64 ((wrap64 (Int.tdiv x7_1 2048)) + 1)) * 2048)) : Int).toNat)] ?_; (with_reducible refine (dirrecord_Decode.calls k1 (a0.extract (x7_1 : Int).toNat ((wrap64 ((wrap64 ((wrap64 (Int.tdiv x7_1 2048)) + 1)) * 2048)) : Int).toNat) t112 t113 t114 t115 t116 t117 t118 t119 t120 t121 _ A13.out).mono ?_); rintro e w16 ⟨rfl, hb⟩; refine ⟨_, rfl, ?_⟩; have n0_ := Aside0.mk (Kd.R_below (uR HO_5.out) hb); have n1_ := Aside0.mk (Kd.R_below (uR HO_6.out) hb); have n2_ := Aside0.mk (below_step (uB HB.out) hb); clear HO_5; clear HO_6; clear HB; have HO_5 := n0_; have HO_6 := n1_; have HB := n2_; clear n0_ n1_ n2_; (try clear hb); (try clear hb2); (try clear hk); (try clear hi)) | ((with_reducible refine gate_dst (N := 10) rfl ?_); refine box_event ?hg (N := 10) ?hd (cs := #[.string (⟨#[]⟩ : ByteArray), .int .i64 0, .int .i64 0, .int .i64 0, .int .i64 0, .int .i64 0, .int .i64 0, .string (⟨#[]⟩ : ByteArray)]) (t := 45) ?hr ?_; (case hd => rfl); (case hg => rfl); (case hr => first | (go_simp; done) | (go_simp; rfl)); intro gb122 hg w17 hbox hb; have n0_ := Aside0.mk (Kd.R_below (Kd.R_elderB (uR HO_5.out) gb122 (Nat.le_of_eq hg.symm)) hb); have n1_ := Aside0.mk (Kd.R_below (uR HO_6.out) hb); have n2_ := Aside0.mk (below_step (uB HB.out) hb); have n3_ := Aside0.mk (hbox); have n4_ := Aside0.mk ((by rw [hg]; exact (below_size (uB HB.out)) : w.heap.size ≤ gb122)); have n5_ := Aside0.mk ((by rw [hg]; exact (below_size (uB HB.out)) : w.heap.size ≤ gb122)); clear HO_5; clear HO_6; clear HB; have HO_5 := n0_; have HO_6 := n1_; have HB := n2_; have BK122 := n3_; have GW122 := n4_; have GE122 := n5_; clear n0_ n1_ n2_ n3_ n4_ n5_; clear hb hbox hg; have hcz18_0 : w17.cell? ⟨gb122, 0, none⟩ = some (.string (⟨#[]⟩ : ByteArray)) := (blk_cell BK122.out 0).trans rfl; have hcz18_1 : w17.cell? ⟨gb122, 1, none⟩ = some (.int .i64 0) := (blk_cell BK122.out 1).trans rfl; have hcz18_2 : w17.cell? ⟨gb122, 2, none⟩ = some (.int .i64 0) := (blk_cell BK122.out 2).trans rfl; have hcz18_3 : w17.cell? ⟨gb122, 3, none⟩ = some (.int .i64 0) := (blk_cell BK122.out 3).trans rfl; have hcz18_4 : w17.cell? ⟨gb122, 4, none⟩ = some (.int .i64 0) := (blk_cell BK122.out 4).trans rfl; have hcz18_5 : w17.cell? ⟨gb122, 5, none⟩ = some (.int .i64 0) := (blk_cell BK122.out 5).trans rfl; have hcz18_6 : w17.cell? ⟨gb122, 6, none⟩ = some (.int .i64 0) := (blk_cell BK122.out 6).trans rfl; have hcz18_7 : w17.cell? ⟨gb122, 7, none⟩ = some (.string (⟨#[]⟩ : ByteArray)) := (blk_cell BK122.out 7).trans rfl; have hfz18_0 := blk_frozen BK122.out 0; have hfz18_1 := blk_frozen BK122.out 1; have hfz18_2 := blk_frozen BK122.out 2; have hfz18_3 := blk_frozen BK122.out 3; have hfz18_4 := blk_frozen BK122.out 4; have hfz18_5 := blk_frozen BK122.out 5; have hfz18_6 := blk_frozen BK122.out 6; have hfz18_7 := blk_frozen BK122.out 7; obtain ⟨Ao19, co19, eo19⟩ := Kd.R_slice HO_5.out; subst eo19))
          go_ret3
          exact ⟨_, _, by first | rfl | (simp [errW_none, errW_some] <;> rfl) | (simp [*, errW_none, errW_some] <;> rfl), by first | exact Kd.R_nil _ _ _ _ _ | exact Kd.N_nil _ _ _ _ _ | exact Kd.V_nil _ _ _ _ _ | exact Kd.Q_nil _ _ _ _ _ | exact Kd.S_nil _ _ _ _ _, by first | exact Kd.R_nil _ _ _ _ _ | exact Kd.N_nil _ _ _ _ _ | exact Kd.V_nil _ _ _ _ _ | exact Kd.Q_nil _ _ _ _ _ | exact Kd.S_nil _ _ _ _ _, by repeat (first | (with_reducible first | exact HB.out | apply below_alloc | apply pw_below_drewN | apply below_drew1 | refine below_set ?_ GE122.out) | exact HB.out)⟩
         ·rw [if_neg c15] at H
          have c15b0 : ((x5_1.length : Int) == 1024) = false := beq_eq_false_iff_ne.mpr c15
          have c15b1 : ((x5_1.length : Int) != 1024) = true := bne_iff_ne.mpr c15
          by_cases c20 : x5_1.length < 1759218604441
          rotate_left
          ·rw [if_neg c20] at H
           exact absurd H (by simp)
          rw [if_pos c20] at H
          have LMc20 := Aside0.mk c20
          clear c20
          obtain ⟨y123, hy123⟩ : ∃ y_ : List (S45), y_ = (x5_1 ++ [(⟨t112, t113, t114, t115, t116, t117, t118, t119⟩ : S45)]) := ⟨_, rfl⟩
          replace H : (if x6_1.length < 17592186044416 then (directory_Decode.l0 k1 a0 y123 (x6_1 ++ [x7_1]) (wrap64 (x7_1 + t120))) else (none)) = some (r1, r2, r3) := by first | (rw [hy123]; with_reducible exact H) | (have H2_ := (Option.bind_some _ _).symm.trans H; rw [hy123]; with_reducible exact H2_) | (have H2_ := (Option.bind_some _ _).symm.trans H; with_reducible exact H2_) | with_reducible exact H | (rw [hy123]; exact H) | exact H
          have Ny123 := Aside0.mk hy123
          clear hy123
          by_cases c21 : x6_1.length < 17592186044416
          rotate_left
          ·rw [if_neg c21] at H
           exact absurd H (by simp)
          rw [if_pos c21] at H
          have LMc21 := Aside0.mk c21
          clear c21
          obtain ⟨y126, hy126⟩ : ∃ y_ : List Int, y_ = (x6_1 ++ [x7_1]) := ⟨_, rfl⟩
          replace H : (directory_Decode.l0 k1 a0 y123 y126 (wrap64 (x7_1 + t120))) = some (r1, r2, r3) := by first | (rw [hy126]; with_reducible exact H) | (have H2_ := (Option.bind_some _ _).symm.trans H; rw [hy126]; with_reducible exact H2_) | (have H2_ := (Option.bind_some _ _).symm.trans H; with_reducible exact H2_) | with_reducible exact H | (rw [hy126]; exact H) | exact H
          have Ny126 := Aside0.mk hy126
          clear hy126
          have H' := Aside0.mk H
          clear H
          have p9 : 0 ≤ (0 : Int) := (by omega)
          have q9 : 0 < (a0.extract (x7_1 : Int).toNat ((wrap64 ((wrap64 ((wrap64 (Int.tdiv x7_1 2048)) + 1)) * 2048)) : Int).toNat).size := (by have : (0 : Int) < ((a0.extract (x7_1 : Int).toNat ((wrap64 ((wrap64 ((wrap64 (Int.tdiv x7_1 2048)) + 1)) * 2048)) : Int).toNat).size : Int) := of_decide_eq_true (by first | (with_reducible assumption) | assumption); omega)
          have hx9 : ∀ h : 0 < (a0.extract (x7_1 : Int).toNat ((wrap64 ((wrap64 ((wrap64 (Int.tdiv x7_1 2048)) + 1)) * 2048)) : Int).toNat).size, (((a0.extract (x7_1 : Int).toNat ((wrap64 ((wrap64 ((wrap64 (Int.tdiv x7_1 2048)) + 1)) * 2048)) : Int).toNat)[0]'h).toNat : Int) = bt (a0.extract (x7_1 : Int).toNat ((wrap64 ((wrap64 ((wrap64 (Int.tdiv x7_1 2048)) + 1)) * 2048)) : Int).toNat) 0 := bt_at (a0.extract (x7_1 : Int).toNat ((wrap64 ((wrap64 ((wrap64 (Int.tdiv x7_1 2048)) + 1)) * 2048)) : Int).toNat) 0
          clear p9
          have qi9 : (0 < ((a0.extract (x7_1 : Int).toNat ((wrap64 ((wrap64 ((wrap64 (Int.tdiv x7_1 2048)) + 1)) * 2048)) : Int).toNat).size : Int)) = True := eq_true (of_decide_eq_true (by first | (with_reducible assumption) | assumption))
          replace q9 := eq_true q9
          have p11 : 0 ≤ (0 : Int) := (by omega)
          have q11 : 0 < (a0.extract (x7_1 : Int).toNat ((wrap64 ((wrap64 ((wrap64 (Int.tdiv x7_1 2048)) + 1)) * 2048)) : Int).toNat).size := (by have : (0 : Int) < ((a0.extract (x7_1 : Int).toNat ((wrap64 ((wrap64 ((wrap64 (Int.tdiv x7_1 2048)) + 1)) * 2048)) : Int).toNat).size : Int) := of_decide_eq_true (by first | (with_reducible assumption) | assumption); omega)
          have hx11 : ∀ h : 0 < (a0.extract (x7_1 : Int).toNat ((wrap64 ((wrap64 ((wrap64 (Int.tdiv x7_1 2048)) + 1)) * 2048)) : Int).toNat).size, (((a0.extract (x7_1 : Int).toNat ((wrap64 ((wrap64 ((wrap64 (Int.tdiv x7_1 2048)) + 1)) * 2048)) : Int).toNat)[0]'h).toNat : Int) = bt (a0.extract (x7_1 : Int).toNat ((wrap64 ((wrap64 ((wrap64 (Int.tdiv x7_1 2048)) + 1)) * 2048)) : Int).toNat) 0 := bt_at (a0.extract (x7_1 : Int).toNat ((wrap64 ((wrap64 ((wrap64 (Int.tdiv x7_1 2048)) + 1)) * 2048)) : Int).toNat) 0
          clear p11
          have qi11 : (0 < ((a0.extract (x7_1 : Int).toNat ((wrap64 ((wrap64 ((wrap64 (Int.tdiv x7_1 2048)) + 1)) * 2048)) : Int).toNat).size : Int)) = True := eq_true (of_decide_eq_true (by first | (with_reducible assumption) | assumption))
          replace q11 := eq_true q11
          go_wp2_with (first | ((with_reducible refine gate_callee (f := 50) rfl ?_); refine gL (some 44) Tryz.func50 #[.string (a0.extract (x7_1 : Int).toNat ((wrap64 ((wrap64 ((wrap64 (Int.tdiv x7_1 2048)) + 1)) * 2048)) : Int).toNat)] ?_; (with_reducible refine (dirrecord_Decode.calls k1 (a0.extract (x7_1 : Int).toNat ((wrap64 ((wrap64 ((wrap64 (Int.tdiv x7_1 2048)) + 1)) * 2048)) : Int).toNat) t112 t113 t114 t115 t116 t117 t118 t119 t120 t121 _ A13.out).mono ?_); rintro e w22 ⟨rfl, hb⟩; refine ⟨_, rfl, ?_⟩; have n0_ := Aside0.mk (Kd.R_below (uR HO_5.out) hb); have n1_ := Aside0.mk (Kd.R_below (uR HO_6.out) hb); have n2_ := Aside0.mk (below_step (uB HB.out) hb); clear HO_5; clear HO_6; clear HB; have HO_5 := n0_; have HO_6 := n1_; have HB := n2_; clear n0_ n1_ n2_; (try clear hb); (try clear hb2); (try clear hk); (try clear hi)) | ((with_reducible refine gate_dst (N := 10) rfl ?_); refine box_event ?hg (N := 10) ?hd (cs := #[.string (⟨#[]⟩ : ByteArray), .int .i64 0, .int .i64 0, .int .i64 0, .int .i64 0, .int .i64 0, .int .i64 0, .string (⟨#[]⟩ : ByteArray)]) (t := 45) ?hr ?_; (case hd => rfl); (case hg => rfl); (case hr => first | (go_simp; done) | (go_simp; rfl)); intro gb122 hg w23 hbox hb; have n0_ := Aside0.mk (Kd.R_below (Kd.R_elderB (uR HO_5.out) gb122 (Nat.le_of_eq hg.symm)) hb); have n1_ := Aside0.mk (Kd.R_below (uR HO_6.out) hb); have n2_ := Aside0.mk (below_step (uB HB.out) hb); have n3_ := Aside0.mk (hbox); have n4_ := Aside0.mk ((by rw [hg]; exact (below_size (uB HB.out)) : w.heap.size ≤ gb122)); have n5_ := Aside0.mk ((by rw [hg]; exact (below_size (uB HB.out)) : w.heap.size ≤ gb122)); clear HO_5; clear HO_6; clear HB; have HO_5 := n0_; have HO_6 := n1_; have HB := n2_; have BK122 := n3_; have GW122 := n4_; have GE122 := n5_; clear n0_ n1_ n2_ n3_ n4_ n5_; clear hb hbox hg; have hcz24_0 : w23.cell? ⟨gb122, 0, none⟩ = some (.string (⟨#[]⟩ : ByteArray)) := (blk_cell BK122.out 0).trans rfl; have hcz24_1 : w23.cell? ⟨gb122, 1, none⟩ = some (.int .i64 0) := (blk_cell BK122.out 1).trans rfl; have hcz24_2 : w23.cell? ⟨gb122, 2, none⟩ = some (.int .i64 0) := (blk_cell BK122.out 2).trans rfl; have hcz24_3 : w23.cell? ⟨gb122, 3, none⟩ = some (.int .i64 0) := (blk_cell BK122.out 3).trans rfl; have hcz24_4 : w23.cell? ⟨gb122, 4, none⟩ = some (.int .i64 0) := (blk_cell BK122.out 4).trans rfl; have hcz24_5 : w23.cell? ⟨gb122, 5, none⟩ = some (.int .i64 0) := (blk_cell BK122.out 5).trans rfl; have hcz24_6 : w23.cell? ⟨gb122, 6, none⟩ = some (.int .i64 0) := (blk_cell BK122.out 6).trans rfl; have hcz24_7 : w23.cell? ⟨gb122, 7, none⟩ = some (.string (⟨#[]⟩ : ByteArray)) := (blk_cell BK122.out 7).trans rfl; have hfz24_0 := blk_frozen BK122.out 0; have hfz24_1 := blk_frozen BK122.out 1; have hfz24_2 := blk_frozen BK122.out 2; have hfz24_3 := blk_frozen BK122.out 3; have hfz24_4 := blk_frozen BK122.out 4; have hfz24_5 := blk_frozen BK122.out 5; have hfz24_6 := blk_frozen BK122.out 6; have hfz24_7 := blk_frozen BK122.out 7; obtain ⟨Ao25, co25, eo25⟩ := Kd.R_slice HO_5.out; subst eo25) | ((with_reducible refine gate_builtin (b := .append) (xs := #[.tmp 54, .tmp 56]) rfl ?_); at_builtin; refine Kd.R_append k45 (w0 := w) w.heap.size rfl (.tmp 54) (.tmp 56) 26 45 (.agg #[(.string ⟨#[]⟩), (.int .i64 0), (.int .i64 0), (.int .i64 0), (.int .i64 0), (.int .i64 0), (.int .i64 0), (.string ⟨#[]⟩)]) 80 rfl Tryz.underlying26 info45 rfl (by decide) (by omega) (.slice Ao25 x5_1.length co25) x5_1 (⟨t112, t113, t114, t115, t116, t117, t118, t119⟩ : S45) [.string t112, .int .i64 t113, .int .i64 t114, .int .i64 t115, .int .i64 t116, .int .i64 t117, .int .i64 t118, .string t119] (fun k_ => k_ ≠ gb122) (fun _ => False) rfl (by first | (go_simp; done) | (go_simp; rfl)) ?aP (fun _ hk => hk.elim) ?aF ?aO ?aB ?aS ?aL ?_; (case aP => exact k45_mkM _ _ _ (⟨t112, t113, t114, t115, t116, t117, t118, t119⟩ : S45)); (case aB => exact (by repeat (first | (with_reducible first | exact HB.out | apply below_alloc | apply pw_below_drewN | apply below_drew1 | refine below_set ?_ GE122.out) | exact HB.out))); (case aF => exact (fun k_ hk => Kd.freshB (g := gb122) (o := .cells #[.string t112, .int .i64 t113, .int .i64 t114, .int .i64 t115, .int .i64 t116, .int .i64 t117, .int .i64 t118, .string t119] 45 (0, 0)) (by (with_reducible repeat (first | refine blk_drewN ?_ _ | refine blk_drew ?_ | refine blk_alloc ?_ _)); refine blk_put (cs := #[.string t112, .int .i64 t113, .int .i64 t114, .int .i64 t115, .int .i64 t116, .int .i64 t117, .int .i64 t118, .string (⟨#[]⟩ : ByteArray)]) ?_ 7 _ rfl; (with_reducible repeat (first | refine blk_drewN ?_ _ | refine blk_drew ?_ | refine blk_alloc ?_ _)); refine blk_put (cs := #[.string t112, .int .i64 t113, .int .i64 t114, .int .i64 t115, .int .i64 t116, .int .i64 t117, .int .i64 0, .string (⟨#[]⟩ : ByteArray)]) ?_ 6 _ rfl; (with_reducible repeat (first | refine blk_drewN ?_ _ | refine blk_drew ?_ | refine blk_alloc ?_ _)); refine blk_put (cs := #[.string t112, .int .i64 t113, .int .i64 t114, .int .i64 t115, .int .i64 t116, .int .i64 0, .int .i64 0, .string (⟨#[]⟩ : ByteArray)]) ?_ 5 _ rfl; (with_reducible repeat (first | refine blk_drewN ?_ _ | refine blk_drew ?_ | refine blk_alloc ?_ _)); refine blk_put (cs := #[.string t112, .int .i64 t113, .int .i64 t114, .int .i64 t115, .int .i64 0, .int .i64 0, .int .i64 0, .string (⟨#[]⟩ : ByteArray)]) ?_ 4 _ rfl; (with_reducible repeat (first | refine blk_drewN ?_ _ | refine blk_drew ?_ | refine blk_alloc ?_ _)); refine blk_put (cs := #[.string t112, .int .i64 t113, .int .i64 t114, .int .i64 0, .int .i64 0, .int .i64 0, .int .i64 0, .string (⟨#[]⟩ : ByteArray)]) ?_ 3 _ rfl; (with_reducible repeat (first | refine blk_drewN ?_ _ | refine blk_drew ?_ | refine blk_alloc ?_ _)); refine blk_put (cs := #[.string t112, .int .i64 t113, .int .i64 0, .int .i64 0, .int .i64 0, .int .i64 0, .int .i64 0, .string (⟨#[]⟩ : ByteArray)]) ?_ 2 _ rfl; (with_reducible repeat (first | refine blk_drewN ?_ _ | refine blk_drew ?_ | refine blk_alloc ?_ _)); refine blk_put (cs := #[.string t112, .int .i64 0, .int .i64 0, .int .i64 0, .int .i64 0, .int .i64 0, .int .i64 0, .string (⟨#[]⟩ : ByteArray)]) ?_ 1 _ rfl; (with_reducible repeat (first | refine blk_drewN ?_ _ | refine blk_drew ?_ | refine blk_alloc ?_ _)); refine blk_put (cs := #[.string (⟨#[]⟩ : ByteArray), .int .i64 0, .int .i64 0, .int .i64 0, .int .i64 0, .int .i64 0, .int .i64 0, .string (⟨#[]⟩ : ByteArray)]) ?_ 0 _ rfl; (with_reducible repeat (first | refine blk_drewN ?_ _ | refine blk_drew ?_ | refine blk_alloc ?_ _)); exact BK122.out) k_ hk)); (case aO => exact (by (with_reducible repeat (first | apply Kd.R_alloc | apply Kd.R_drewN | apply Kd.R_drew)); exact Kd.R_mono (Kd.R_far (p := ⟨gb122, 7, none⟩) (Kd.R_far (p := ⟨gb122, 6, none⟩) (Kd.R_far (p := ⟨gb122, 5, none⟩) (Kd.R_far (p := ⟨gb122, 4, none⟩) (Kd.R_far (p := ⟨gb122, 3, none⟩) (Kd.R_far (p := ⟨gb122, 2, none⟩) (Kd.R_far (p := ⟨gb122, 1, none⟩) (Kd.R_far (p := ⟨gb122, 0, none⟩) (Kd.R_mono HO_5.out (fun k_ hk => (⟨hk, hk.2⟩ : _ ∧ k_ ≠ gb122))) (fun _ hk => hk.2) (.string t112)) (fun _ hk => hk.2) (.int .i64 t113)) (fun _ hk => hk.2) (.int .i64 t114)) (fun _ hk => hk.2) (.int .i64 t115)) (fun _ hk => hk.2) (.int .i64 t116)) (fun _ hk => hk.2) (.int .i64 t117)) (fun _ hk => hk.2) (.int .i64 t118)) (fun _ hk => hk.2) (.string t119)) (fun _ hk => hk.1.2))); (case aS => exact (below_size (by repeat (first | (with_reducible first | exact HB.out | apply below_alloc | apply pw_below_drewN | apply below_drew1 | refine below_set ?_ GE122.out) | exact HB.out)))); (case aL => have := LMc20.out; omega); intro v124 w26 ho hb hg hat; rw [← Ny123.out] at ho; have n0_ := Aside0.mk (Kd.R_over' (by (with_reducible repeat (first | apply Kd.R_alloc | apply Kd.R_drewN | apply Kd.R_drew)); exact (Kd.R_mono (Kd.R_far (p := ⟨gb122, 7, none⟩) (Kd.R_far (p := ⟨gb122, 6, none⟩) (Kd.R_far (p := ⟨gb122, 5, none⟩) (Kd.R_far (p := ⟨gb122, 4, none⟩) (Kd.R_far (p := ⟨gb122, 3, none⟩) (Kd.R_far (p := ⟨gb122, 2, none⟩) (Kd.R_far (p := ⟨gb122, 1, none⟩) (Kd.R_far (p := ⟨gb122, 0, none⟩) (Kd.R_types HO_6.out BK122.out (by decide)) (fun _ hk => hk.2) (.string t112)) (fun _ hk => hk.2) (.int .i64 t113)) (fun _ hk => hk.2) (.int .i64 t114)) (fun _ hk => hk.2) (.int .i64 t115)) (fun _ hk => hk.2) (.int .i64 t116)) (fun _ hk => hk.2) (.int .i64 t117)) (fun _ hk => hk.2) (.int .i64 t118)) (fun _ hk => hk.2) (.string t119)) (fun _ h_ => h_.1))) (Kd.R_typed (by (with_reducible repeat (first | apply Kd.R_alloc | apply Kd.R_drewN | apply Kd.R_drew)); exact (Kd.R_mono (Kd.R_far (p := ⟨gb122, 7, none⟩) (Kd.R_far (p := ⟨gb122, 6, none⟩) (Kd.R_far (p := ⟨gb122, 5, none⟩) (Kd.R_far (p := ⟨gb122, 4, none⟩) (Kd.R_far (p := ⟨gb122, 3, none⟩) (Kd.R_far (p := ⟨gb122, 2, none⟩) (Kd.R_far (p := ⟨gb122, 1, none⟩) (Kd.R_far (p := ⟨gb122, 0, none⟩) (Kd.R_mono HO_5.out (fun k_ hk => (⟨hk, hk.2⟩ : _ ∧ k_ ≠ gb122))) (fun _ hk => hk.2) (.string t112)) (fun _ hk => hk.2) (.int .i64 t113)) (fun _ hk => hk.2) (.int .i64 t114)) (fun _ hk => hk.2) (.int .i64 t115)) (fun _ hk => hk.2) (.int .i64 t116)) (fun _ hk => hk.2) (.int .i64 t117)) (fun _ hk => hk.2) (.int .i64 t118)) (fun _ hk => hk.2) (.string t119)) (fun _ h_ => h_.1)))) (by decide) hg); have n1_ := Aside0.mk (blk_grown (g := gb122) (o := .cells #[.string t112, .int .i64 t113, .int .i64 t114, .int .i64 t115, .int .i64 t116, .int .i64 t117, .int .i64 t118, .string t119] 45 (0, 0)) (by (with_reducible repeat (first | refine blk_drewN ?_ _ | refine blk_drew ?_ | refine blk_alloc ?_ _)); refine blk_put (cs := #[.string t112, .int .i64 t113, .int .i64 t114, .int .i64 t115, .int .i64 t116, .int .i64 t117, .int .i64 t118, .string (⟨#[]⟩ : ByteArray)]) ?_ 7 _ rfl; (with_reducible repeat (first | refine blk_drewN ?_ _ | refine blk_drew ?_ | refine blk_alloc ?_ _)); refine blk_put (cs := #[.string t112, .int .i64 t113, .int .i64 t114, .int .i64 t115, .int .i64 t116, .int .i64 t117, .int .i64 0, .string (⟨#[]⟩ : ByteArray)]) ?_ 6 _ rfl; (with_reducible repeat (first | refine blk_drewN ?_ _ | refine blk_drew ?_ | refine blk_alloc ?_ _)); refine blk_put (cs := #[.string t112, .int .i64 t113, .int .i64 t114, .int .i64 t115, .int .i64 t116, .int .i64 0, .int .i64 0, .string (⟨#[]⟩ : ByteArray)]) ?_ 5 _ rfl; (with_reducible repeat (first | refine blk_drewN ?_ _ | refine blk_drew ?_ | refine blk_alloc ?_ _)); refine blk_put (cs := #[.string t112, .int .i64 t113, .int .i64 t114, .int .i64 t115, .int .i64 0, .int .i64 0, .int .i64 0, .string (⟨#[]⟩ : ByteArray)]) ?_ 4 _ rfl; (with_reducible repeat (first | refine blk_drewN ?_ _ | refine blk_drew ?_ | refine blk_alloc ?_ _)); refine blk_put (cs := #[.string t112, .int .i64 t113, .int .i64 t114, .int .i64 0, .int .i64 0, .int .i64 0, .int .i64 0, .string (⟨#[]⟩ : ByteArray)]) ?_ 3 _ rfl; (with_reducible repeat (first | refine blk_drewN ?_ _ | refine blk_drew ?_ | refine blk_alloc ?_ _)); refine blk_put (cs := #[.string t112, .int .i64 t113, .int .i64 0, .int .i64 0, .int .i64 0, .int .i64 0, .int .i64 0, .string (⟨#[]⟩ : ByteArray)]) ?_ 2 _ rfl; (with_reducible repeat (first | refine blk_drewN ?_ _ | refine blk_drew ?_ | refine blk_alloc ?_ _)); refine blk_put (cs := #[.string t112, .int .i64 0, .int .i64 0, .int .i64 0, .int .i64 0, .int .i64 0, .int .i64 0, .string (⟨#[]⟩ : ByteArray)]) ?_ 1 _ rfl; (with_reducible repeat (first | refine blk_drewN ?_ _ | refine blk_drew ?_ | refine blk_alloc ?_ _)); refine blk_put (cs := #[.string (⟨#[]⟩ : ByteArray), .int .i64 0, .int .i64 0, .int .i64 0, .int .i64 0, .int .i64 0, .int .i64 0, .string (⟨#[]⟩ : ByteArray)]) ?_ 0 _ rfl; (with_reducible repeat (first | refine blk_drewN ?_ _ | refine blk_drew ?_ | refine blk_alloc ?_ _)); exact BK122.out) hg (Kd.R_away HO_5.out (fun _ hk => hk.2))); have n2_ := Aside0.mk (hb); have n3_ := Aside0.mk (ho); clear HO_6; clear BK122; clear HB; clear HO_5; have HO_6 := n0_; have BK122 := n1_; have HB := n2_; have HO125 := n3_; clear n0_ n1_ n2_ n3_; clear ho hb hg hat) | ((with_reducible refine gate_builtin (b := .append) (xs := #[.tmp 58, .tmp 60]) rfl ?_); at_builtin; refine Kd.R_append (Kd.int .i64) (w0 := w) w.heap.size rfl (.tmp 58) (.tmp 60) 33 3 (.int .i64 0) 8 rfl Tryz.underlying33 info3 rfl (by decide) (by omega) u6 x6_1 x7_1 [.int .i64 x7_1] (fun _ => True) (fun _ => False) rfl rfl ?aP (fun _ hk => hk.elim) ?aF ?aO ?aB ?aS ?aL ?_; (case aP => exact rfl); (case aB => exact (by repeat (first | (with_reducible first | exact HB.out | apply below_alloc | apply pw_below_drewN | apply below_drew1 | refine below_set ?_ GE122.out) | exact HB.out))); (case aF => exact (fun _ _ => trivial)); (case aO => exact (uR HO_6.out)); (case aS => exact (below_size (by repeat (first | (with_reducible first | exact HB.out | apply below_alloc | apply pw_below_drewN | apply below_drew1 | refine below_set ?_ GE122.out) | exact HB.out)))); (case aL => have := LMc21.out; omega); intro v127 w27 ho hb hg hat; rw [← Ny126.out] at ho; have n0_ := Aside0.mk (blk_grown (g := gb122) (o := .cells #[.string t112, .int .i64 t113, .int .i64 t114, .int .i64 t115, .int .i64 t116, .int .i64 t117, .int .i64 t118, .string t119] 45 (0, 0)) (by (with_reducible repeat (first | refine blk_drewN ?_ _ | refine blk_drew ?_ | refine blk_alloc ?_ _)); exact BK122.out) hg (Kd.R_ne HO_6.out BK122.out (by decide))); have n1_ := Aside0.mk (Kd.R_over' (uR HO125.out) (Kd.R_typed (uR HO_6.out)) (by decide) hg); have n2_ := Aside0.mk (hb); have n3_ := Aside0.mk (ho); clear BK122; clear HO125; clear HB; clear HO_6; have BK122 := n0_; have HO125 := n1_; have HB := n2_; have HO128 := n3_; clear n0_ n1_ n2_ n3_; clear ho hb hg hat))
          go_roundg k1
          case measure => have := HK1.out; omega
          case rel => exact ⟨(y123), (y126), (wrap64 (x7_1 + t120)), (by first | rfl | (simp; done) | (simp [*]; done)), H', ⟨by have := HK1.out; omega⟩, ⟨by (with_reducible repeat (first | apply Kd.R_alloc | apply Kd.R_drewN | apply Kd.R_drew)); exact Kd.R_mono HO125.out (fun _ hk => trivial)⟩, ⟨uR HO128.out⟩, ⟨by repeat (first | (with_reducible first | exact HB.out | apply below_alloc | apply pw_below_drewN | apply below_drew1 | refine below_set ?_ GE122.out) | exact HB.out)⟩⟩
        ·rw [if_neg c14] at H
         have c14b0 : (t121 == 0) = false := beq_eq_false_iff_ne.mpr c14
         have c14b1 : (t121 != 0) = true := bne_iff_ne.mpr c14
         simp only [Option.some.injEq, Prod.mk.injEq] at H
         obtain ⟨rfl, rfl, rfl⟩ := H
         have p9 : 0 ≤ (0 : Int) := (by omega)
         have q9 : 0 < (a0.extract (x7_1 : Int).toNat ((wrap64 ((wrap64 ((wrap64 (Int.tdiv x7_1 2048)) + 1)) * 2048)) : Int).toNat).size := (by have : (0 : Int) < ((a0.extract (x7_1 : Int).toNat ((wrap64 ((wrap64 ((wrap64 (Int.tdiv x7_1 2048)) + 1)) * 2048)) : Int).toNat).size : Int) := of_decide_eq_true (by first | (with_reducible assumption) | assumption); omega)
         have hx9 : ∀ h : 0 < (a0.extract (x7_1 : Int).toNat ((wrap64 ((wrap64 ((wrap64 (Int.tdiv x7_1 2048)) + 1)) * 2048)) : Int).toNat).size, (((a0.extract (x7_1 : Int).toNat ((wrap64 ((wrap64 ((wrap64 (Int.tdiv x7_1 2048)) + 1)) * 2048)) : Int).toNat)[0]'h).toNat : Int) = bt (a0.extract (x7_1 : Int).toNat ((wrap64 ((wrap64 ((wrap64 (Int.tdiv x7_1 2048)) + 1)) * 2048)) : Int).toNat) 0 := bt_at (a0.extract (x7_1 : Int).toNat ((wrap64 ((wrap64 ((wrap64 (Int.tdiv x7_1 2048)) + 1)) * 2048)) : Int).toNat) 0
         clear p9
         have qi9 : (0 < ((a0.extract (x7_1 : Int).toNat ((wrap64 ((wrap64 ((wrap64 (Int.tdiv x7_1 2048)) + 1)) * 2048)) : Int).toNat).size : Int)) = True := eq_true (of_decide_eq_true (by first | (with_reducible assumption) | assumption))
         replace q9 := eq_true q9
         have p11 : 0 ≤ (0 : Int) := (by omega)
         have q11 : 0 < (a0.extract (x7_1 : Int).toNat ((wrap64 ((wrap64 ((wrap64 (Int.tdiv x7_1 2048)) + 1)) * 2048)) : Int).toNat).size := (by have : (0 : Int) < ((a0.extract (x7_1 : Int).toNat ((wrap64 ((wrap64 ((wrap64 (Int.tdiv x7_1 2048)) + 1)) * 2048)) : Int).toNat).size : Int) := of_decide_eq_true (by first | (with_reducible assumption) | assumption); omega)
         have hx11 : ∀ h : 0 < (a0.extract (x7_1 : Int).toNat ((wrap64 ((wrap64 ((wrap64 (Int.tdiv x7_1 2048)) + 1)) * 2048)) : Int).toNat).size, (((a0.extract (x7_1 : Int).toNat ((wrap64 ((wrap64 ((wrap64 (Int.tdiv x7_1 2048)) + 1)) * 2048)) : Int).toNat)[0]'h).toNat : Int) = bt (a0.extract (x7_1 : Int).toNat ((wrap64 ((wrap64 ((wrap64 (Int.tdiv x7_1 2048)) + 1)) * 2048)) : Int).toNat) 0 := bt_at (a0.extract (x7_1 : Int).toNat ((wrap64 ((wrap64 ((wrap64 (Int.tdiv x7_1 2048)) + 1)) * 2048)) : Int).toNat) 0
         clear p11
         have qi11 : (0 < ((a0.extract (x7_1 : Int).toNat ((wrap64 ((wrap64 ((wrap64 (Int.tdiv x7_1 2048)) + 1)) * 2048)) : Int).toNat).size : Int)) = True := eq_true (of_decide_eq_true (by first | (with_reducible assumption) | assumption))
         replace q11 := eq_true q11
         go_wp2_with (first | ((with_reducible refine gate_callee (f := 50) rfl ?_); refine gL (some 44) Tryz.func50 #[.string (a0.extract (x7_1 : Int).toNat ((wrap64 ((wrap64 ((wrap64 (Int.tdiv x7_1 2048)) + 1)) * 2048)) : Int).toNat)] ?_; (with_reducible refine (dirrecord_Decode.calls k1 (a0.extract (x7_1 : Int).toNat ((wrap64 ((wrap64 ((wrap64 (Int.tdiv x7_1 2048)) + 1)) * 2048)) : Int).toNat) t112 t113 t114 t115 t116 t117 t118 t119 t120 t121 _ A13.out).mono ?_); rintro e w28 ⟨rfl, hb⟩; refine ⟨_, rfl, ?_⟩; have n0_ := Aside0.mk (Kd.R_below (uR HO_5.out) hb); have n1_ := Aside0.mk (Kd.R_below (uR HO_6.out) hb); have n2_ := Aside0.mk (below_step (uB HB.out) hb); clear HO_5; clear HO_6; clear HB; have HO_5 := n0_; have HO_6 := n1_; have HB := n2_; clear n0_ n1_ n2_; (try clear hb); (try clear hb2); (try clear hk); (try clear hi)) | ((with_reducible refine gate_dst (N := 10) rfl ?_); refine box_event ?hg (N := 10) ?hd (cs := #[.string (⟨#[]⟩ : ByteArray), .int .i64 0, .int .i64 0, .int .i64 0, .int .i64 0, .int .i64 0, .int .i64 0, .string (⟨#[]⟩ : ByteArray)]) (t := 45) ?hr ?_; (case hd => rfl); (case hg => rfl); (case hr => first | (go_simp; done) | (go_simp; rfl)); intro gb122 hg w29 hbox hb; have n0_ := Aside0.mk (Kd.R_below (Kd.R_elderB (uR HO_5.out) gb122 (Nat.le_of_eq hg.symm)) hb); have n1_ := Aside0.mk (Kd.R_below (uR HO_6.out) hb); have n2_ := Aside0.mk (below_step (uB HB.out) hb); have n3_ := Aside0.mk (hbox); have n4_ := Aside0.mk ((by rw [hg]; exact (below_size (uB HB.out)) : w.heap.size ≤ gb122)); have n5_ := Aside0.mk ((by rw [hg]; exact (below_size (uB HB.out)) : w.heap.size ≤ gb122)); clear HO_5; clear HO_6; clear HB; have HO_5 := n0_; have HO_6 := n1_; have HB := n2_; have BK122 := n3_; have GW122 := n4_; have GE122 := n5_; clear n0_ n1_ n2_ n3_ n4_ n5_; clear hb hbox hg; have hcz30_0 : w29.cell? ⟨gb122, 0, none⟩ = some (.string (⟨#[]⟩ : ByteArray)) := (blk_cell BK122.out 0).trans rfl; have hcz30_1 : w29.cell? ⟨gb122, 1, none⟩ = some (.int .i64 0) := (blk_cell BK122.out 1).trans rfl; have hcz30_2 : w29.cell? ⟨gb122, 2, none⟩ = some (.int .i64 0) := (blk_cell BK122.out 2).trans rfl; have hcz30_3 : w29.cell? ⟨gb122, 3, none⟩ = some (.int .i64 0) := (blk_cell BK122.out 3).trans rfl; have hcz30_4 : w29.cell? ⟨gb122, 4, none⟩ = some (.int .i64 0) := (blk_cell BK122.out 4).trans rfl; have hcz30_5 : w29.cell? ⟨gb122, 5, none⟩ = some (.int .i64 0) := (blk_cell BK122.out 5).trans rfl; have hcz30_6 : w29.cell? ⟨gb122, 6, none⟩ = some (.int .i64 0) := (blk_cell BK122.out 6).trans rfl; have hcz30_7 : w29.cell? ⟨gb122, 7, none⟩ = some (.string (⟨#[]⟩ : ByteArray)) := (blk_cell BK122.out 7).trans rfl; have hfz30_0 := blk_frozen BK122.out 0; have hfz30_1 := blk_frozen BK122.out 1; have hfz30_2 := blk_frozen BK122.out 2; have hfz30_3 := blk_frozen BK122.out 3; have hfz30_4 := blk_frozen BK122.out 4; have hfz30_5 := blk_frozen BK122.out 5; have hfz30_6 := blk_frozen BK122.out 6; have hfz30_7 := blk_frozen BK122.out 7))
         go_ret3
         exact ⟨_, _, by first | rfl | (simp [errW_none, errW_some] <;> rfl) | (simp [*, errW_none, errW_some] <;> rfl), by first | exact Kd.R_nil _ _ _ _ _ | exact Kd.N_nil _ _ _ _ _ | exact Kd.V_nil _ _ _ _ _ | exact Kd.Q_nil _ _ _ _ _ | exact Kd.S_nil _ _ _ _ _, by first | exact Kd.R_nil _ _ _ _ _ | exact Kd.N_nil _ _ _ _ _ | exact Kd.V_nil _ _ _ _ _ | exact Kd.Q_nil _ _ _ _ _ | exact Kd.S_nil _ _ _ _ _, by repeat (first | (with_reducible first | exact HB.out | apply below_alloc | apply pw_below_drewN | apply below_drew1 | refine below_set ?_ GE122.out) | exact HB.out)⟩
     ·rw [if_neg c4] at H
      have c4b0 : decide (x7_1 < (a0.size : Int)) = false := decide_eq_false c4
      clear c4
      simp only [Option.some.injEq, Prod.mk.injEq] at H
      obtain ⟨rfl, rfl, rfl⟩ := H
      go_wp2
      go_ret3
      exact ⟨_, _, by first | rfl | (simp [errW_none, errW_some] <;> rfl) | (simp [*, errW_none, errW_some] <;> rfl), by (with_reducible repeat (first | apply Kd.R_alloc | apply Kd.R_drewN | apply Kd.R_drew)); exact HO_5.out, by (with_reducible repeat (first | apply Kd.R_alloc | apply Kd.R_drewN | apply Kd.R_drew)); exact HO_6.out, uB HB.out⟩
 ·rw [if_neg c2] at H
  have c2b0 : (((a0.size : Int) % 2048) == 0) = false := beq_eq_false_iff_ne.mpr c2
  have c2b1 : (((a0.size : Int) % 2048) != 0) = true := bne_iff_ne.mpr c2
  simp only [Option.some.injEq, Prod.mk.injEq] at H
  obtain ⟨rfl, rfl, rfl⟩ := H
  go_enter Tryz.func27, Tryz.ntmps27
  go_wp2
  go_ret3
  exact ⟨_, _, by first | rfl | (simp [errW_none, errW_some] <;> rfl) | (simp [*, errW_none, errW_some] <;> rfl), by first | exact Kd.R_nil _ _ _ _ _ | exact Kd.N_nil _ _ _ _ _ | exact Kd.V_nil _ _ _ _ _ | exact Kd.Q_nil _ _ _ _ _ | exact Kd.S_nil _ _ _ _ _, by first | exact Kd.R_nil _ _ _ _ _ | exact Kd.N_nil _ _ _ _ _ | exact Kd.V_nil _ _ _ _ _ | exact Kd.Q_nil _ _ _ _ _ | exact Kd.S_nil _ _ _ _ _, uB HB.out⟩

end Go.Proofs.YthblghfobnhoeaaGreat.H
namespace Go.Proofs.YthblghfobnhoeaaGreat.H
open Go.RowKit Go.Proofs.YthblghfobnhoeaaGreatW.PrintWords Go.Proofs.YthblghfobnhoeaaGreatW.PrintLast Go.Proofs.YthblghfobnhoeaaGreatW.PrintMore Go.Proofs.YthblghfobnhoeaaGreat.A
set_option linter.unusedVariables false
set_option linter.unusedSimpArgs false

/-! directory.Sort's order, and the call of a function value that has captured something. -/
section
variable {P : Program} {ops : Array Oper} {Q : Exit → Act → World → Prop}
/-- A call of a function value that is known, with what it has captured. -/
theorem goesC_ {oi : Oper} {N : Option Tmp} {a : Act} {w : World} {K : Act → World → Prop} {f : FuncId} {fn : Func} {av : Array Operand} {ts : Array TypeId} {t : Tmp} {lb : Array Value} (hf : P.funcs[f]? = some fn) (hname : (fn.name == "runtime.NumGoroutine") = false) (hb : fn.body.isSome = true) (args : Array Value)
  (hw : Region.wanted oi (yielded ops a.tmps) = true) (hN : oi.dst = N) (hop : oi.op = .call { callee := .value (.tmp t), args := av, argTypes := ts }) (hfn : a.eval (.tmp t) = .func (.func f) #[] lb) (hargs : av.map a.eval ++ lb = args)
  (h : Calls P f args w fun e w' => ∃ v, e = .returned v ∧ K (a.put N v) w') : if Region.wanted oi (yielded ops a.tmps) = true then Oper.wp P oi a w K Q else K (a.put N undef) w := by
 refine Go.Proofs.YthblghfobnhoeaaGreatW.PrintLast.call_ f args hw hN ?_ h
 have he := Go.Proofs.YthblghfobnhoeaaGreatW.PrintLast.enters_ hf hname hb args w
 unfold execOp
 simp [hop, resolve, Deferred.ofValue, invoke, hfn, hargs, he]
/-- A whole element of a row of the call's own is written, in a region that draws its order. -/
theorem stR_ {oi : Oper} {a : Act} {W w0 w00 : World} {K : Act → World → Prop} {S : Nat → Prop} {α : Type} (d : Kd α) {e base g n cap o : Nat} {ok : Nat → Prop} {xs : List α} {u : Value} (hw : Region.wanted oi (yielded ops a.tmps) = true) (hN : oi.dst = none)
  (t : TypeId) (p x : Operand) (ho : oi.op = .store t p x) {i : Int} {x' : α} (haddr : a.eval p = .pointer (some ⟨g, o, none⟩)) (hoff : o = i.toNat * d.sz) (hx : a.eval x = u) (hsz : (P.info? t).map (·.size) = some u.cells.toList.length) (h1 : ∀ q ∈ u.cells.toList, q.oneCell' = true)
  (hlen : u.cells.toList.length = d.sz) (hM : ∀ W : World, d.M W base (fun k => ok k ∧ k ≠ g) x' u.cells.toList) (HO : d.R e W base ok (.slice (some ⟨g, 0, none⟩) n cap) xs) (h0 : 0 ≤ i) (hi : i < (n : Int)) (HK : Kept w0 W S) (hS : S g ∨ w0.heap.size ≤ g) (HB : Below base w00 W)
  (h : ∀ w1, d.R e w1 base ok (.slice (some ⟨g, 0, none⟩) n cap) (xs.set i.toNat x') → Kept w0 w1 S → Below base w00 w1 → K a w1) : if Region.wanted oi (yielded ops a.tmps) = true then Oper.wp P oi a W K Q else K (a.put none undef) W := by
 subst hoff
 obtain ⟨c, hcl, _, hcc, hfr⟩ := Kd.R_elem HO x' i h0 hi
 obtain ⟨hrow, hg⟩ := Kd.R_seg (seg := u.cells.toList) (j := 0) HO i h0 hi hcl hcc (by omega) (x' := x') (okp := fun k => ok k ∧ k ≠ g) (by
  have hz : c.drop (0 + u.cells.toList.length) = [] := List.drop_of_length_le (by omega)
  rw [List.take_zero, hz, List.append_nil, List.nil_append]
  exact hM W) (fun k hk => hk)
 have hbg : base ≤ g := Kd.R_base HO g (by simp [Value.ownBlock])
 have hrun : (execOp a.eval oi).run P W = .ok .skip (W.setCells g (i.toNat * d.sz + 0) u.cells.toList) := by
  obtain ⟨_, inner, hown, hr⟩ := HO
  rcases hown.2 with ⟨hv, _⟩ | ⟨g', cap', cur, hv, hb, hh, hnc, hcm, hcs, _⟩
  ·cases hv
  injection hv with ha _ hc
  injection ha with ha
  injection ha with hg'
  subst hg'; subst hc
  have hil : i.toNat < n := by omega
  have h2 : i.toNat * d.sz + d.sz ≤ n * d.sz := by rw [← Nat.succ_mul]; exact Nat.mul_le_mul_right _ hil
  have h3 : n * d.sz ≤ cap * d.sz := Nat.mul_le_mul_right _ (by omega)
  have hst := run_store_run (P := P) t u u.cells.toList (o := i.toNat * d.sz) hh rfl hsz (by omega) h1
  unfold execOp
  simp only [ho, haddr, hx, Sem.run_bind, Sem.run_pure, Result.andThen_ok, hst]
  rfl
 refine Go.Proofs.YthblghfobnhoeaaGreatW.PrintLast.skip_ hw hN hrun (h _ hrow (Kept.of_grown hg HK (fun k hk => by injection hk with hk; exact hk ▸ hS)) ?_)
 exact HB.trans ⟨hg.os, hg.tape, hg.output, hg.size, fun k hk => by
  rcases Nat.lt_or_ge k W.heap.size with hlt | hge
  ·exact hg.block k hlt (fun he => by injection he with he; omega)
  ·exact setCells_far u.cells.toList _ k (by omega)⟩
end

/-- directory.Sort's order of two records. -/
def directory_Sort_1.f (x0 : ByteArray) (x1 x2 x3 x4 x5 x6 : Int) (x7 y0 : ByteArray) (y1 y2 y3 y4 y5 y6 : Int) (y7 : ByteArray) (a : Bool) : Option Int := directory_Compare.f 400 x0 y0 a
set_option maxRecDepth 100000 in
set_option maxHeartbeats 4000000 in
theorem directory_Sort_1.calls (x0 : ByteArray) (x1 x2 x3 x4 x5 x6 : Int) (x7 y0 : ByteArray) (y1 y2 y3 y4 y5 y6 : Int) (y7 : ByteArray) (a : Bool) (r : Int) (w0 w : World) (cw : Addr) (hcw : Aside0 (w0.cell? cw = some (.bool a))) (hB : Below w0.heap.size w0 w) (h : directory_Sort_1.f x0 x1 x2 x3 x4 x5 x6 x7 y0 y1 y2 y3 y4 y5 y6 y7 a = some r) :
  Calls Tryz.prog 46 #[.agg #[.string x0, .int .i64 x1, .int .i64 x2, .int .i64 x3, .int .i64 x4, .int .i64 x5, .int .i64 x6, .string x7], .agg #[.string y0, .int .i64 y1, .int .i64 y2, .int .i64 y3, .int .i64 y4, .int .i64 y5, .int .i64 y6, .string y7], .pointer (some cw)] w fun e w' => e = .returned (.int .i64 r) ∧ Below w.heap.size w w' := by
 have hc0 : w.cell? cw = some (.bool a) := (hB.cell (World.block_lt_of_cell? _ _ hcw.out)).trans hcw.out
 have hlt := World.block_lt_of_cell? _ _ hc0
 have hbel := Lib.hid (((Below.refl w.heap.size w).alloc (Nat.le_refl _) (.cells #[.string x0, .int .i64 x1, .int .i64 x2, .int .i64 x3, .int .i64 x4, .int .i64 x5, .int .i64 x6, .string x7] 45)).alloc (by simp) (.cells #[.string y0, .int .i64 y1, .int .i64 y2, .int .i64 y3, .int .i64 y4, .int .i64 y5, .int .i64 y6, .string y7] 45))
 have hc := (hbel.out.cell hlt).trans hc0
 have H := Lib.hid h
 clear h hc0 hcw hB
 go_enter Tryz.func46, Tryz.ntmps46
 go_wp2_with (go_at_call 11; refine (directory_Compare.calls 400 x0 y0 a r _ H.out).mono ?_; rintro e w2 ⟨rfl, hb2⟩)
 go_ret
 exact ⟨rfl, below_step hbel.out hb2⟩

end Go.Proofs.YthblghfobnhoeaaGreat.H
namespace Go.Proofs.YthblghfobnhoeaaGreat.H
open Go.RowKit Go.Proofs.YthblghfobnhoeaaGreat.A Go.Proofs.YthblghfobnhoeaaGreatW.PrintWords Go.Proofs.YthblghfobnhoeaaGreatW.PrintLast Go.Proofs.YthblghfobnhoeaaGreatW.PrintMore
attribute [local go_sem] max2_int min2_int max_two min_two max_three min_three max_four min_four   -- for this text's walks alone
set_option linter.unusedVariables false
set_option linter.unusedSimpArgs false

/-! ### insSort: function 91 -/
mutual
def insSort.l0 : Nat → List (S45) → Int → Int → Bool → Int → Option ((List (S45)))
 | 0, _, _, _, _, _ => none
 | k + 1, x0, x1, x2, x3, x8 => if x8 < x2 then (insSort.l1 k x0 x1 x2 x3 x8 x8) else (some x0)
def insSort.l1 : Nat → List (S45) → Int → Int → Bool → Int → Int → Option ((List (S45)))
 | 0, _, _, _, _, _, _ => none
 | k + 1, x0, x1, x2, x3, x8, x9 => if x9 > x1 then (if 0 ≤ x9 then (if x9 < (x0.length : Int) then (if 0 ≤ (wrap64 (x9 - 1)) then (if (wrap64 (x9 - 1)) < (x0.length : Int) then ((directory_Sort_1.f ((rd_T45 x0 x9).f0) ((rd_T45 x0 x9).f1) ((rd_T45 x0 x9).f2) ((rd_T45 x0 x9).f3) ((rd_T45 x0 x9).f4) ((rd_T45 x0 x9).f5) ((rd_T45 x0 x9).f6) ((rd_T45 x0 x9).f7) ((rd_T45 x0 (wrap64 (x9 - 1))).f0) ((rd_T45 x0 (wrap64 (x9 - 1))).f1) ((rd_T45 x0 (wrap64 (x9 - 1))).f2) ((rd_T45 x0 (wrap64 (x9 - 1))).f3) ((rd_T45 x0 (wrap64 (x9 - 1))).f4) ((rd_T45 x0 (wrap64 (x9 - 1))).f5) ((rd_T45 x0 (wrap64 (x9 - 1))).f6) ((rd_T45 x0 (wrap64 (x9 - 1))).f7) x3).bind fun t140 => (if t140 < 0 then (insSort.l1 k ((x0.set (x9 : Int).toNat (⟨(rd_T45 x0 (wrap64 (x9 - 1))).f0, (rd_T45 x0 (wrap64 (x9 - 1))).f1, (rd_T45 x0 (wrap64 (x9 - 1))).f2, (rd_T45 x0 (wrap64 (x9 - 1))).f3, (rd_T45 x0 (wrap64 (x9 - 1))).f4, (rd_T45 x0 (wrap64 (x9 - 1))).f5, (rd_T45 x0 (wrap64 (x9 - 1))).f6, (rd_T45 x0 (wrap64 (x9 - 1))).f7⟩ : S45)).set ((wrap64 (x9 - 1)) : Int).toNat (⟨(rd_T45 x0 x9).f0, (rd_T45 x0 x9).f1, (rd_T45 x0 x9).f2, (rd_T45 x0 x9).f3, (rd_T45 x0 x9).f4, (rd_T45 x0 x9).f5, (rd_T45 x0 x9).f6, (rd_T45 x0 x9).f7⟩ : S45)) x1 x2 x3 x8 (wrap64 (x9 - 1))) else (insSort.l0 k x0 x1 x2 x3 (wrap64 (x8 + 1))))) else (none)) else (none)) else (none)) else (none)) else (insSort.l0 k x0 x1 x2 x3 (wrap64 (x8 + 1)))
end
def insSort.f (k : Nat) (l0 : List (S45)) (a1 : Int) (a2 : Int) (a3 : Bool) : Option ((List (S45))) := insSort.l0 k l0 a1 a2 a3 (wrap64 (a1 + 1))
theorem insSort.mono_l : ∀ k, (∀ y0 y1 y2 y3 y4, LeO (insSort.l0 k y0 y1 y2 y3 y4) (insSort.l0 (k + 1) y0 y1 y2 y3 y4)) ∧ (∀ y0 y1 y2 y3 y4 y5, LeO (insSort.l1 k y0 y1 y2 y3 y4 y5) (insSort.l1 (k + 1) y0 y1 y2 y3 y4 y5))
 | 0 => ⟨fun _ _ _ _ _ r h => by simp [insSort.l0] at h, fun _ _ _ _ _ _ r h => by simp [insSort.l1] at h⟩
 | k + 1 => by
  obtain ⟨ih0, ih1⟩ := insSort.mono_l k
  refine ⟨?_, ?_⟩
  ·intro y0 y1 y2 y3 y4
   unfold insSort.l0
   repeat' first
   | (with_reducible exact ih0 _ _ _ _ _)
   | (with_reducible exact ih1 _ _ _ _ _ _)
   | (with_reducible exact LeO.refl _)
   | (with_reducible exact LeO.none _)
   | (with_reducible refine LeO.ite ?_ ?_)
   | (with_reducible refine LeO.bind ?_ (fun _ => ?_))
   | exact ih0 _ _ _ _ _
   | exact ih1 _ _ _ _ _ _
   | exact LeO.none _
   | refine LeO.ite ?_ ?_
   | refine LeO.bind ?_ (fun _ => ?_)
  ·intro y0 y1 y2 y3 y4 y5
   unfold insSort.l1
   repeat' first
   | (with_reducible exact ih0 _ _ _ _ _)
   | (with_reducible exact ih1 _ _ _ _ _ _)
   | (with_reducible exact LeO.refl _)
   | (with_reducible exact LeO.none _)
   | (with_reducible refine LeO.ite ?_ ?_)
   | (with_reducible refine LeO.bind ?_ (fun _ => ?_))
   | exact ih0 _ _ _ _ _
   | exact ih1 _ _ _ _ _ _
   | exact LeO.none _
   | refine LeO.ite ?_ ?_
   | refine LeO.bind ?_ (fun _ => ?_)
theorem insSort.mono : ∀ a0 a1 a2 a3 k, LeO (insSort.f k a0 a1 a2 a3) (insSort.f (k + 1) a0 a1 a2 a3) := by
 intro a0 a1 a2 a3 k
 obtain ⟨ih0, ih1⟩ := insSort.mono_l k
 unfold insSort.f
 repeat' first
   | (with_reducible exact ih0 _ _ _ _ _)
   | (with_reducible exact ih1 _ _ _ _ _ _)
   | (with_reducible exact LeO.refl _)
   | (with_reducible exact LeO.none _)
   | (with_reducible refine LeO.ite ?_ ?_)
   | (with_reducible refine LeO.bind ?_ (fun _ => ?_))
   | exact ih0 _ _ _ _ _
   | exact ih1 _ _ _ _ _ _
   | exact LeO.none _
   | refine LeO.ite ?_ ?_
   | refine LeO.bind ?_ (fun _ => ?_)
def insSort.T4 : Bool × List (List Nat × List Nat) := (true, [([], []), ([], []), ([0, 1], [0, 1]), ([2], [2]), ([3], [3]), ([3], [3]), ([3], [3]), ([5, 6, 3], [3, 5, 6]), ([7, 3], [3, 7]), ([3], [3]), ([3], [3]), ([10, 3], [3, 10]), ([9, 11, 3], [3, 9, 11]), ([12, 3], [3, 12]), ([4, 8, 13, 3, 3], [3, 4, 8, 13]), ([14, 3], [3, 14]), ([3, 15], [3, 15])])
def insSort.B4 : List Nat := [0, 0, 3, 7, 15, 15, 15, 111, 239, 15, 15, 1039, 3599, 7695, 16383, 32767, 65535]
theorem insSort.tab4 : rtab .any (opsOf Tryz.f91 4) = insSort.T4 := by kernel_rfl
theorem insSort.bits4 : waitsOk insSort.T4.2 insSort.B4 = true := by kernel_rfl
def insSort.T6 : Bool × List (List Nat × List Nat) := (true, [([], []), ([], []), ([], []), ([], []), ([3], [3]), ([], []), ([], []), ([6], [6]), ([5, 7], [5, 7]), ([8], [8]), ([], []), ([], []), ([10, 11], [10, 11]), ([12], [12]), ([0, 1, 0, 1, 5, 6, 7, 8, 9, 13], [0, 1]), ([14, 9, 0, 1, 5, 6, 7, 8, 9, 13], [9, 14]), ([2, 4, 0, 1, 2, 3, 4, 5, 6, 7, 8, 9, 10, 11, 12, 13, 14, 15], [2, 4]), ([16, 13, 15, 0, 1, 2, 3, 4, 5, 6, 7, 8, 9, 10, 11, 12, 13, 14, 15], [13, 16])])
def insSort.B6 : List Nat := [0, 0, 0, 0, 8, 0, 0, 64, 224, 480, 0, 0, 3072, 7168, 16355, 32739, 65535, 131071]
theorem insSort.tab6 : rtab .any (opsOf Tryz.f91 6) = insSort.T6 := by kernel_rfl
theorem insSort.bits6 : waitsOk insSort.T6.2 insSort.B6 = true := by kernel_rfl
set_option maxHeartbeats 8000000 in
set_option maxRecDepth 100000 in
theorem insSort.calls (k : Nat) (P0_ : Nat → Prop) (u9000_ : Value) (l0 : List (S45)) (a1 : Int) (a2 : Int) (a3 : Bool) (r : List (S45)) (w0 w : World) (cw_ : Addr) (hcw_ : Aside0 (w0.cell? cw_ = some (.bool a3))) (hB : Below w0.heap.size w0 w) (ho0 : Kd.R k45 45 w w0.heap.size P0_ u9000_ l0) (h : insSort.f k l0 a1 a2 a3 = some r) :
  Calls Tryz.prog 91 #[u9000_, .int .i64 a1, .int .i64 a2, (.func (.func 46) #[] #[.pointer (some cw_)])] w fun e w' => e = .returned (.tuple #[]) ∧ Kd.R k45 45 w' w0.heap.size (fun k_ => (P0_ k_ ∨ w.heap.size ≤ k_)) u9000_ r ∧ Below w0.heap.size w0 w' ∧ Kept w w' (fun k_ => P0_ k_) := by
 have hu45 := Tryz.underlying45
 have HO0 := Aside0.mk (show Kd.R k45 45 w w0.heap.size (fun k_ => (P0_ k_ ∨ w.heap.size ≤ k_)) u9000_ l0 from Kd.R_mono ho0 (fun k_ hk => (.inl hk)))
 have HK := Aside0.mk (Kept.refl w (fun k_ => P0_ k_))
 have HW0 := Aside0.mk hB.size
 have HB := Aside0.mk hB
 clear hB
 have H : (insSort.l0 k l0 a1 a2 a3 (wrap64 (a1 + 1))) = some r := h
 clear h
 have H' := Aside0.mk H
 clear H
 go_enter Tryz.func91, Tryz.ntmps91
 go_wp2
 go_loopg [8] k (fun kq v8 w' => ∃ (x0_1 : List (S45)) (x8_1 : Int), v8 = .int .i64 x8_1 ∧ Aside0 (insSort.l0 kq x0_1 a1 a2 a3 x8_1 = some r) ∧ Aside0 (kq ≤ k) ∧ Aside0 (Kd.R k45 45 w' w0.heap.size (fun k_ => (P0_ k_ ∨ w.heap.size ≤ k_)) u9000_ x0_1) ∧ Aside0 (Kept w w' (fun k_ => P0_ k_)) ∧ Aside0 (Below w0.heap.size w0 w'))
 case atStart => exact ⟨(l0), (wrap64 (a1 + 1)), (by first | rfl | (simp; done) | (simp [*]; done)), H', ⟨Nat.le_refl _⟩, ⟨uR HO0.out⟩, ⟨uK HK.out⟩, ⟨uB HB.out⟩⟩
 case round =>
  clear H'
  try clear p2
  obtain ⟨x0_1, x8_1, rfl, HA, HK1, HO_0, HK, HB⟩ := hrel
  cases gk with
  | zero => exact absurd HA.out (by simp [insSort.l0])
  | succ k1 =>
   have H := HA.out
   clear HA
   simp only [insSort.l0] at H
   by_cases c5 : x8_1 < a2
   ·rw [if_pos c5] at H
    have c5b0 : decide (x8_1 < a2) = true := decide_eq_true c5
    clear c5
    have H' := Aside0.mk H
    clear H
    go_wp2
    go_loopg [9] k1 (fun kq v9 w' => ∃ (x0_2 : List (S45)) (x9_2 : Int), v9 = .int .i64 x9_2 ∧ Aside0 (insSort.l1 kq x0_2 a1 a2 a3 x8_1 x9_2 = some r) ∧ Aside0 (kq ≤ k1) ∧ Aside0 (Kd.R k45 45 w' w0.heap.size (fun k_ => (P0_ k_ ∨ w.heap.size ≤ k_)) u9000_ x0_2) ∧ Aside0 (Kept w w' (fun k_ => P0_ k_)) ∧ Aside0 (Below w0.heap.size w0 w'))
    case atStart => exact ⟨(x0_1), (x8_1), (by first | rfl | (simp; done) | (simp [*]; done)), H', ⟨Nat.le_refl _⟩, ⟨uR HO_0.out⟩, ⟨uK HK.out⟩, ⟨uB HB.out⟩⟩
    case round =>
     clear H'
     try clear p2
     try clear c5
     try clear c5b0
     try clear p2
     obtain ⟨x0_2, x9_2, rfl, HA, HK2, HO_0, HK, HB⟩ := hrel
     cases gk with
     | zero => exact absurd HA.out (by simp [insSort.l1])
     | succ k2 =>
      have H := HA.out
      clear HA
      simp only [insSort.l1] at H
      by_cases c6 : x9_2 > a1
      ·rw [if_pos c6] at H
       have c6b0 : decide (a1 < x9_2) = true := decide_eq_true c6
       clear c6
       by_cases c7 : 0 ≤ x9_2
       rotate_left
       ·rw [if_neg c7] at H
        exact absurd H (by simp)
       rw [if_pos c7] at H
       have c7b0 : decide (0 ≤ x9_2) = true := decide_eq_true c7
       clear c7
       by_cases c8 : x9_2 < (x0_2.length : Int)
       rotate_left
       ·rw [if_neg c8] at H
        exact absurd H (by simp)
       rw [if_pos c8] at H
       have c8b0 : decide (x9_2 < (x0_2.length : Int)) = true := decide_eq_true c8
       clear c8
       obtain ⟨ji9, hji9⟩ : ∃ j_ : Int, (wrap64 (x9_2 - 1)) = j_ := ⟨_, rfl⟩
       replace H : (if 0 ≤ (ji9) then (if (ji9) < (x0_2.length : Int) then ((directory_Sort_1.f ((rd_T45 x0_2 x9_2).f0) ((rd_T45 x0_2 x9_2).f1) ((rd_T45 x0_2 x9_2).f2) ((rd_T45 x0_2 x9_2).f3) ((rd_T45 x0_2 x9_2).f4) ((rd_T45 x0_2 x9_2).f5) ((rd_T45 x0_2 x9_2).f6) ((rd_T45 x0_2 x9_2).f7) ((rd_T45 x0_2 (ji9)).f0) ((rd_T45 x0_2 (ji9)).f1) ((rd_T45 x0_2 (ji9)).f2) ((rd_T45 x0_2 (ji9)).f3) ((rd_T45 x0_2 (ji9)).f4) ((rd_T45 x0_2 (ji9)).f5) ((rd_T45 x0_2 (ji9)).f6) ((rd_T45 x0_2 (ji9)).f7) a3).bind fun t140 => (if t140 < 0 then (insSort.l1 k2 ((x0_2.set (x9_2 : Int).toNat (⟨(rd_T45 x0_2 (ji9)).f0, (rd_T45 x0_2 (ji9)).f1, (rd_T45 x0_2 (ji9)).f2, (rd_T45 x0_2 (ji9)).f3, (rd_T45 x0_2 (ji9)).f4, (rd_T45 x0_2 (ji9)).f5, (rd_T45 x0_2 (ji9)).f6, (rd_T45 x0_2 (ji9)).f7⟩ : S45)).set ((ji9) : Int).toNat (⟨(rd_T45 x0_2 x9_2).f0, (rd_T45 x0_2 x9_2).f1, (rd_T45 x0_2 x9_2).f2, (rd_T45 x0_2 x9_2).f3, (rd_T45 x0_2 x9_2).f4, (rd_T45 x0_2 x9_2).f5, (rd_T45 x0_2 x9_2).f6, (rd_T45 x0_2 x9_2).f7⟩ : S45)) a1 a2 a3 x8_1 ji9) else (insSort.l0 k2 x0_2 a1 a2 a3 (wrap64 (x8_1 + 1))))) else (none)) else (none)) = some r := by first | (rw [hji9] at H; exact H) | (simp only [hji9] at H ⊢; exact H)
       have hji9w : (IntKind.i64.wrap (x9_2 - 1)) = ji9 := (i64_w _).trans hji9
       by_cases c10 : 0 ≤ (ji9)
       rotate_left
       ·rw [if_neg c10] at H
        exact absurd H (by simp)
       rw [if_pos c10] at H
       have c10b0 : decide (0 ≤ (ji9)) = true := decide_eq_true c10
       clear c10
       by_cases c11 : (ji9) < (x0_2.length : Int)
       rotate_left
       ·rw [if_neg c11] at H
        exact absurd H (by simp)
       rw [if_pos c11] at H
       have c11b0 : decide ((ji9) < (x0_2.length : Int)) = true := decide_eq_true c11
       clear c11
       replace H := Option.bind_eq_some_iff.mp H
       obtain ⟨t140, A120, H⟩ := H
       replace H : (if t140 < 0 then (insSort.l1 k2 ((x0_2.set (x9_2 : Int).toNat (⟨(rd_T45 x0_2 (ji9)).f0, (rd_T45 x0_2 (ji9)).f1, (rd_T45 x0_2 (ji9)).f2, (rd_T45 x0_2 (ji9)).f3, (rd_T45 x0_2 (ji9)).f4, (rd_T45 x0_2 (ji9)).f5, (rd_T45 x0_2 (ji9)).f6, (rd_T45 x0_2 (ji9)).f7⟩ : S45)).set ((ji9) : Int).toNat (⟨(rd_T45 x0_2 x9_2).f0, (rd_T45 x0_2 x9_2).f1, (rd_T45 x0_2 x9_2).f2, (rd_T45 x0_2 x9_2).f3, (rd_T45 x0_2 x9_2).f4, (rd_T45 x0_2 x9_2).f5, (rd_T45 x0_2 x9_2).f6, (rd_T45 x0_2 x9_2).f7⟩ : S45)) a1 a2 a3 x8_1 ji9) else (insSort.l0 k2 x0_2 a1 a2 a3 (wrap64 (x8_1 + 1)))) = some r := H
       have A12 := Aside0.mk A120
       clear A120
       by_cases c13 : t140 < 0
       ·rw [if_pos c13] at H
        have c13b0 : decide (t140 < 0) = true := decide_eq_true c13
        clear c13
        obtain ⟨y143, hy143⟩ : ∃ y_ : List (S45), y_ = (x0_2.set (x9_2 : Int).toNat (⟨(rd_T45 x0_2 (ji9)).f0, (rd_T45 x0_2 (ji9)).f1, (rd_T45 x0_2 (ji9)).f2, (rd_T45 x0_2 (ji9)).f3, (rd_T45 x0_2 (ji9)).f4, (rd_T45 x0_2 (ji9)).f5, (rd_T45 x0_2 (ji9)).f6, (rd_T45 x0_2 (ji9)).f7⟩ : S45)) := ⟨_, rfl⟩
        replace H : (insSort.l1 k2 (y143.set ((ji9) : Int).toNat (⟨(rd_T45 x0_2 x9_2).f0, (rd_T45 x0_2 x9_2).f1, (rd_T45 x0_2 x9_2).f2, (rd_T45 x0_2 x9_2).f3, (rd_T45 x0_2 x9_2).f4, (rd_T45 x0_2 x9_2).f5, (rd_T45 x0_2 x9_2).f6, (rd_T45 x0_2 x9_2).f7⟩ : S45)) a1 a2 a3 x8_1 ji9) = some r := by first | (rw [hy143]; with_reducible exact H) | (have H2_ := (Option.bind_some _ _).symm.trans H; rw [hy143]; with_reducible exact H2_) | (have H2_ := (Option.bind_some _ _).symm.trans H; with_reducible exact H2_) | with_reducible exact H | (rw [hy143]; exact H) | exact H
        have Ny143 := Aside0.mk hy143
        clear hy143
        obtain ⟨y144, hy144⟩ : ∃ y_ : List (S45), y_ = (y143.set ((ji9) : Int).toNat (⟨(rd_T45 x0_2 x9_2).f0, (rd_T45 x0_2 x9_2).f1, (rd_T45 x0_2 x9_2).f2, (rd_T45 x0_2 x9_2).f3, (rd_T45 x0_2 x9_2).f4, (rd_T45 x0_2 x9_2).f5, (rd_T45 x0_2 x9_2).f6, (rd_T45 x0_2 x9_2).f7⟩ : S45)) := ⟨_, rfl⟩
        replace H : (insSort.l1 k2 y144 a1 a2 a3 x8_1 ji9) = some r := by first | (rw [hy144]; with_reducible exact H) | (have H2_ := (Option.bind_some _ _).symm.trans H; rw [hy144]; with_reducible exact H2_) | (have H2_ := (Option.bind_some _ _).symm.trans H; with_reducible exact H2_) | with_reducible exact H | (rw [hy144]; exact H) | exact H
        have Ny144 := Aside0.mk hy144
        clear hy144
        have H' := Aside0.mk H
        clear H
        try go_wp2
        replace HO_0 := Aside0.mk (Kd.R_drew HO_0.out)
        replace HK := Aside0.mk (Kept.drew HK.out)
        replace HB := Aside0.mk (below_drew1 HB.out)
        obtain ⟨Ao17, co17, eo17⟩ := Kd.R_slice HO_0.out
        (first | subst eo17 | (injection eo17 with f1_ f2_ f3_; have f4_ := f1_.symm; have f5_ := f3_.symm; clear f1_ f2_ f3_; subst f4_; subst f5_))
        have p138 : 0 ≤ (x9_2 : Int) := of_decide_eq_true (by first | (with_reducible assumption) | assumption)
        have q138 : x9_2 < (x0_2.length : Int) := of_decide_eq_true (by first | (with_reducible assumption) | assumption)
        obtain ⟨ad138, e138, hx138_0, hx138_1, hx138_2, hx138_3, hx138_4, hx138_5, hx138_6, hx138_7⟩ := at_T45 (Kd.R_reads' HO_0.out).2.2 x9_2 p138 q138
        cases e138
        replace p138 := eq_true p138
        replace q138 := eq_true q138
        have p139 : 0 ≤ ((ji9) : Int) := of_decide_eq_true (by first | (with_reducible assumption) | assumption)
        have q139 : (ji9) < (x0_2.length : Int) := of_decide_eq_true (by first | (with_reducible assumption) | assumption)
        obtain ⟨ad139, e139, hx139_0, hx139_1, hx139_2, hx139_3, hx139_4, hx139_5, hx139_6, hx139_7⟩ := at_T45 (Kd.R_reads' HO_0.out).2.2 (ji9) p139 q139
        obtain rfl : ad138 = ad139 := (by injection e139)
        replace p139 := eq_true p139
        replace q139 := eq_true q139
        refine start_ (n := 17) (S := fun w' => w'.cell? (ad138.add ((x9_2).toNat * 8)) = some (.string ((rd_T45 x0_2 x9_2).f0)) ∧ w'.cell? ⟨(ad138.add ((x9_2).toNat * 8)).block, (ad138.add ((x9_2).toNat * 8)).off + 1, none⟩ = some (.int .i64 ((rd_T45 x0_2 x9_2).f1)) ∧ w'.cell? ⟨(ad138.add ((x9_2).toNat * 8)).block, (ad138.add ((x9_2).toNat * 8)).off + 2, none⟩ = some (.int .i64 ((rd_T45 x0_2 x9_2).f2)) ∧ w'.cell? ⟨(ad138.add ((x9_2).toNat * 8)).block, (ad138.add ((x9_2).toNat * 8)).off + 3, none⟩ = some (.int .i64 ((rd_T45 x0_2 x9_2).f3)) ∧ w'.cell? ⟨(ad138.add ((x9_2).toNat * 8)).block, (ad138.add ((x9_2).toNat * 8)).off + 4, none⟩ = some (.int .i64 ((rd_T45 x0_2 x9_2).f4)) ∧ w'.cell? ⟨(ad138.add ((x9_2).toNat * 8)).block, (ad138.add ((x9_2).toNat * 8)).off + 5, none⟩ = some (.int .i64 ((rd_T45 x0_2 x9_2).f5)) ∧ w'.cell? ⟨(ad138.add ((x9_2).toNat * 8)).block, (ad138.add ((x9_2).toNat * 8)).off + 6, none⟩ = some (.int .i64 ((rd_T45 x0_2 x9_2).f6)) ∧ w'.cell? ⟨(ad138.add ((x9_2).toNat * 8)).block, (ad138.add ((x9_2).toNat * 8)).off + 7, none⟩ = some (.string ((rd_T45 x0_2 x9_2).f7)) ∧ w'.cell? (ad138.add (((ji9)).toNat * 8)) = some (.string ((rd_T45 x0_2 (ji9)).f0)) ∧ w'.cell? ⟨(ad138.add (((ji9)).toNat * 8)).block, (ad138.add (((ji9)).toNat * 8)).off + 1, none⟩ = some (.int .i64 ((rd_T45 x0_2 (ji9)).f1)) ∧ w'.cell? ⟨(ad138.add (((ji9)).toNat * 8)).block, (ad138.add (((ji9)).toNat * 8)).off + 2, none⟩ = some (.int .i64 ((rd_T45 x0_2 (ji9)).f2)) ∧ w'.cell? ⟨(ad138.add (((ji9)).toNat * 8)).block, (ad138.add (((ji9)).toNat * 8)).off + 3, none⟩ = some (.int .i64 ((rd_T45 x0_2 (ji9)).f3)) ∧ w'.cell? ⟨(ad138.add (((ji9)).toNat * 8)).block, (ad138.add (((ji9)).toNat * 8)).off + 4, none⟩ = some (.int .i64 ((rd_T45 x0_2 (ji9)).f4)) ∧ w'.cell? ⟨(ad138.add (((ji9)).toNat * 8)).block, (ad138.add (((ji9)).toNat * 8)).off + 5, none⟩ = some (.int .i64 ((rd_T45 x0_2 (ji9)).f5)) ∧ w'.cell? ⟨(ad138.add (((ji9)).toNat * 8)).block, (ad138.add (((ji9)).toNat * 8)).off + 6, none⟩ = some (.int .i64 ((rd_T45 x0_2 (ji9)).f6)) ∧ w'.cell? ⟨(ad138.add (((ji9)).toNat * 8)).block, (ad138.add (((ji9)).toNat * 8)).off + 7, none⟩ = some (.string ((rd_T45 x0_2 (ji9)).f7))) (ds := []) #[false, false, false, false, false, false, false, false, false, false, false, false, false, false, false, false, false] (by kernel_rfl) rfl rfl ⟨hx138_0, hx138_1, hx138_2, hx138_3, hx138_4, hx138_5, hx138_6, hx138_7, hx139_0, hx139_1, hx139_2, hx139_3, hx139_4, hx139_5, hx139_6, hx139_7⟩ (fun hHeld => ?_); refine with_tabW insSort.tab4 insSort.bits4 (fun HT_ HW_ => ?_)
        generalize wr.drew = w16 at HO_0 HK HB hx138_0 hx138_1 hx138_2 hx138_3 hx138_4 hx138_5 hx138_6 hx138_7 hx139_0 hx139_1 hx139_2 hx139_3 hx139_4 hx139_5 hx139_6 hx139_7 hHeld ⊢
        refine pA (i := 0) (N := some 18) (tb 17 1) (any_of HT_.out (by kernel_rfl)) ?_
        refine pA (i := 1) (N := some 19) (tb 17 3) (any_of HT_.out (by kernel_rfl)) ?_
        refine pA (i := 2) (N := some 20) (tb 17 7) (any_of HT_.out (by kernel_rfl)) ?_
        refine pA (i := 3) (N := some 21) (tb 17 15) (any_of HT_.out (by kernel_rfl)) ?_
        refine pA (i := 4) (N := some 22) (tb 17 31) (any_of HT_.out (by kernel_rfl)) ?_
        refine pA (i := 5) (N := some 23) (tb 17 63) (any_of HT_.out (by kernel_rfl)) ?_
        refine pA (i := 6) (N := some 24) (tb 17 127) (any_of HT_.out (by kernel_rfl)) ?_
        refine pA (i := 7) (N := some 25) (tb 17 255) (any_of HT_.out (by kernel_rfl)) ?_
        refine pA (i := 9) (N := some 27) (tb 17 767) (any_of HT_.out (by kernel_rfl)) ?_
        refine pA (i := 10) (N := some 28) (tb 17 1791) (any_of HT_.out (by kernel_rfl)) ?_
        refine pA (i := 11) (N := some 29) (tb 17 3839) (any_of HT_.out (by kernel_rfl)) ?_
        refine pA (i := 12) (N := some 30) (tb 17 7935) (any_of HT_.out (by kernel_rfl)) ?_
        refine take_ (i := 8) (N := some 26) (v := ?_) (a' := ?_) (tb 17 8191) rfl rfl (take_ofW HT_.out HW_.out (by kernel_rfl)) (fun _ _ _ h => h) (Or.inl ⟨by rfl, ?_⟩) hHeld ?_ ?_
        rotate_left
        ·rintro w' ⟨s0, s1, s2, s3, s4, s5, s6, s7, s8, s9, s10, s11, s12, s13, s14, s15⟩
         go_simp
         with_reducible rfl
        rotate_left
        ·simp only [Act.put, List.setIfInBounds_toArray, List.set_cons_zero, List.set_cons_succ, i64_w, i32_w]
         rfl
        refine take_ (i := 13) (N := some 31) (v := ?_) (a' := ?_) (tb 17 16383) rfl rfl (take_ofW HT_.out HW_.out (by kernel_rfl)) (fun _ _ _ h => h) (Or.inl ⟨by rfl, ?_⟩) hHeld ?_ ?_
        rotate_left
        ·rintro w' ⟨s0, s1, s2, s3, s4, s5, s6, s7, s8, s9, s10, s11, s12, s13, s14, s15⟩
         go_simp
         with_reducible rfl
        rotate_left
        ·simp only [Act.put, List.setIfInBounds_toArray, List.set_cons_zero, List.set_cons_succ, i64_w, i32_w]
         rfl
        refine one_ (i := 14) (N := some 32) (tb 17 32767) rfl rfl (one_of HT_.out (by kernel_rfl)) (by decide) (fun K hK => ?_)
        refine goesC_ (lb := #[.pointer (some cw_)]) Tryz.func46 (by kernel_rfl) rfl #[.agg #[.string ((rd_T45 x0_2 x9_2).f0), .int .i64 ((rd_T45 x0_2 x9_2).f1), .int .i64 ((rd_T45 x0_2 x9_2).f2), .int .i64 ((rd_T45 x0_2 x9_2).f3), .int .i64 ((rd_T45 x0_2 x9_2).f4), .int .i64 ((rd_T45 x0_2 x9_2).f5), .int .i64 ((rd_T45 x0_2 x9_2).f6), .string ((rd_T45 x0_2 x9_2).f7)], .agg #[.string ((rd_T45 x0_2 (ji9)).f0), .int .i64 ((rd_T45 x0_2 (ji9)).f1), .int .i64 ((rd_T45 x0_2 (ji9)).f2), .int .i64 ((rd_T45 x0_2 (ji9)).f3), .int .i64 ((rd_T45 x0_2 (ji9)).f4), .int .i64 ((rd_T45 x0_2 (ji9)).f5), .int .i64 ((rd_T45 x0_2 (ji9)).f6), .string ((rd_T45 x0_2 (ji9)).f7)], .pointer (some cw_)] (by rfl) rfl rfl (by rfl) (by (try simp only [List.map_toArray, List.map_cons, List.map_nil]); first | done | (simp only [hji9]; rfl) | rfl | (simp only [List.length_drop, List.length_take]; rfl)) ?_
        with_reducible refine (directory_Sort_1.calls ((rd_T45 x0_2 x9_2).f0) ((rd_T45 x0_2 x9_2).f1) ((rd_T45 x0_2 x9_2).f2) ((rd_T45 x0_2 x9_2).f3) ((rd_T45 x0_2 x9_2).f4) ((rd_T45 x0_2 x9_2).f5) ((rd_T45 x0_2 x9_2).f6) ((rd_T45 x0_2 x9_2).f7) ((rd_T45 x0_2 (ji9)).f0) ((rd_T45 x0_2 (ji9)).f1) ((rd_T45 x0_2 (ji9)).f2) ((rd_T45 x0_2 (ji9)).f3) ((rd_T45 x0_2 (ji9)).f4) ((rd_T45 x0_2 (ji9)).f5) ((rd_T45 x0_2 (ji9)).f6) ((rd_T45 x0_2 (ji9)).f7) a3 t140 w0 _ cw_ hcw_ ?sideB A12.out).mono ?_
        case sideB => exact uB HB.out
        rintro e w18 ⟨rfl, hb⟩
        have HS0_ := (hb.cell (World.block_lt_of_cell? _ _ (hHeld.1))).trans (hHeld.1)
        have HS1_ := (hb.cell (World.block_lt_of_cell? _ _ (hHeld.2.1))).trans (hHeld.2.1)
        have HS2_ := (hb.cell (World.block_lt_of_cell? _ _ (hHeld.2.2.1))).trans (hHeld.2.2.1)
        have HS3_ := (hb.cell (World.block_lt_of_cell? _ _ (hHeld.2.2.2.1))).trans (hHeld.2.2.2.1)
        have HS4_ := (hb.cell (World.block_lt_of_cell? _ _ (hHeld.2.2.2.2.1))).trans (hHeld.2.2.2.2.1)
        have HS5_ := (hb.cell (World.block_lt_of_cell? _ _ (hHeld.2.2.2.2.2.1))).trans (hHeld.2.2.2.2.2.1)
        have HS6_ := (hb.cell (World.block_lt_of_cell? _ _ (hHeld.2.2.2.2.2.2.1))).trans (hHeld.2.2.2.2.2.2.1)
        have HS7_ := (hb.cell (World.block_lt_of_cell? _ _ (hHeld.2.2.2.2.2.2.2.1))).trans (hHeld.2.2.2.2.2.2.2.1)
        have HS8_ := (hb.cell (World.block_lt_of_cell? _ _ (hHeld.2.2.2.2.2.2.2.2.1))).trans (hHeld.2.2.2.2.2.2.2.2.1)
        have HS9_ := (hb.cell (World.block_lt_of_cell? _ _ (hHeld.2.2.2.2.2.2.2.2.2.1))).trans (hHeld.2.2.2.2.2.2.2.2.2.1)
        have HS10_ := (hb.cell (World.block_lt_of_cell? _ _ (hHeld.2.2.2.2.2.2.2.2.2.2.1))).trans (hHeld.2.2.2.2.2.2.2.2.2.2.1)
        have HS11_ := (hb.cell (World.block_lt_of_cell? _ _ (hHeld.2.2.2.2.2.2.2.2.2.2.2.1))).trans (hHeld.2.2.2.2.2.2.2.2.2.2.2.1)
        have HS12_ := (hb.cell (World.block_lt_of_cell? _ _ (hHeld.2.2.2.2.2.2.2.2.2.2.2.2.1))).trans (hHeld.2.2.2.2.2.2.2.2.2.2.2.2.1)
        have HS13_ := (hb.cell (World.block_lt_of_cell? _ _ (hHeld.2.2.2.2.2.2.2.2.2.2.2.2.2.1))).trans (hHeld.2.2.2.2.2.2.2.2.2.2.2.2.2.1)
        have HS14_ := (hb.cell (World.block_lt_of_cell? _ _ (hHeld.2.2.2.2.2.2.2.2.2.2.2.2.2.2.1))).trans (hHeld.2.2.2.2.2.2.2.2.2.2.2.2.2.2.1)
        have HS15_ := (hb.cell (World.block_lt_of_cell? _ _ (hHeld.2.2.2.2.2.2.2.2.2.2.2.2.2.2.2))).trans (hHeld.2.2.2.2.2.2.2.2.2.2.2.2.2.2.2)
        refine ⟨_, rfl, ?_⟩
        replace HO_0 := Aside0.mk (Kd.R_below (uR HO_0.out) hb)
        replace HK := Aside0.mk (Kept.below (S := (fun k_ => P0_ k_)) (uK HK.out) hb)
        replace HB := Aside0.mk (below_step (uB HB.out) hb)
        (try clear hb)
        (try clear hb2)
        (try clear hk)
        (try clear hi)
        refine hK.out _ _ ⟨HS0_, HS1_, HS2_, HS3_, HS4_, HS5_, HS6_, HS7_, HS8_, HS9_, HS10_, HS11_, HS12_, HS13_, HS14_, HS15_⟩ (fun hHeld => ?_)
        clear hK K
        refine norm_ (a' := ?_) ?_ ?_
        rotate_left
        ·show Act.put _ (some 32) _ = _
         simp only [Act.put, List.setIfInBounds_toArray, List.set_cons_zero, List.set_cons_succ, i64_w, i32_w]
         rfl
        refine pA (i := 15) (N := some 33) (tb 17 65535) (any_of HT_.out (by kernel_rfl)) ?_
        refine pA (i := 16) (N := some 34) (tb 17 131071) (any_of HT_.out (by kernel_rfl)) ?_
        refine done_ (done_of HT_.out (by kernel_rfl)) ?_
        try go_wp2
        replace HO_0 := Aside0.mk (Kd.R_drew HO_0.out)
        replace HK := Aside0.mk (Kept.drew HK.out)
        replace HB := Aside0.mk (below_drew1 HB.out)
        have p141 : 0 ≤ ((ji9) : Int) := of_decide_eq_true (by first | (with_reducible assumption) | assumption)
        have q141 : (ji9) < (x0_2.length : Int) := of_decide_eq_true (by first | (with_reducible assumption) | assumption)
        obtain ⟨ad141, e141, hx141_0, hx141_1, hx141_2, hx141_3, hx141_4, hx141_5, hx141_6, hx141_7⟩ := at_T45 (Kd.R_reads' HO_0.out).2.2 (ji9) p141 q141
        obtain rfl : ad138 = ad141 := (by injection e141)
        replace p141 := eq_true p141
        replace q141 := eq_true q141
        have p142 : 0 ≤ (x9_2 : Int) := of_decide_eq_true (by first | (with_reducible assumption) | assumption)
        have q142 : x9_2 < (x0_2.length : Int) := of_decide_eq_true (by first | (with_reducible assumption) | assumption)
        obtain ⟨ad142, e142, hx142_0, hx142_1, hx142_2, hx142_3, hx142_4, hx142_5, hx142_6, hx142_7⟩ := at_T45 (Kd.R_reads' HO_0.out).2.2 x9_2 p142 q142
        obtain rfl : ad138 = ad142 := (by injection e142)
        replace p142 := eq_true p142
        replace q142 := eq_true q142
        have p14 : 0 ≤ (x9_2 : Int) := of_decide_eq_true (by first | (with_reducible assumption) | assumption)
        have q14 : (x9_2 : Int) < ((x0_2.length : Int) : Int) := of_decide_eq_true (by first | (with_reducible assumption) | assumption)
        obtain ⟨go14, co14, eo14, gb14, gl14, cl14, HG14⟩ := Kd.R_form HO_0.out (by omega)
        (first | cases eo14 | (injection eo14 with ea_ en_ ec_; (first | subst ea_ | (injection ea_ with ea_; subst ea_)); subst ec_; clear en_))
        have GB14 := Aside0.mk gb14
        have GG14 := Aside0.mk HG14
        clear gb14 gl14 HG14
        have HMgo14 := Aside0.mk (show (P0_ go14 ∨ w.heap.size ≤ go14) from (HO_0.out.1 _ rfl))
        (first | simp only [add_plain] at hx138_0 | skip)
        (first | simp only [add_plain] at hx138_1 | skip)
        (first | simp only [add_plain] at hx138_2 | skip)
        (first | simp only [add_plain] at hx138_3 | skip)
        (first | simp only [add_plain] at hx138_4 | skip)
        (first | simp only [add_plain] at hx138_5 | skip)
        (first | simp only [add_plain] at hx138_6 | skip)
        (first | simp only [add_plain] at hx138_7 | skip)
        (first | simp only [add_plain] at hx139_0 | skip)
        (first | simp only [add_plain] at hx139_1 | skip)
        (first | simp only [add_plain] at hx139_2 | skip)
        (first | simp only [add_plain] at hx139_3 | skip)
        (first | simp only [add_plain] at hx139_4 | skip)
        (first | simp only [add_plain] at hx139_5 | skip)
        (first | simp only [add_plain] at hx139_6 | skip)
        (first | simp only [add_plain] at hx139_7 | skip)
        (first | simp only [add_plain] at hx141_0 | skip)
        (first | simp only [add_plain] at hx141_1 | skip)
        (first | simp only [add_plain] at hx141_2 | skip)
        (first | simp only [add_plain] at hx141_3 | skip)
        (first | simp only [add_plain] at hx141_4 | skip)
        (first | simp only [add_plain] at hx141_5 | skip)
        (first | simp only [add_plain] at hx141_6 | skip)
        (first | simp only [add_plain] at hx141_7 | skip)
        (first | simp only [add_plain] at hx142_0 | skip)
        (first | simp only [add_plain] at hx142_1 | skip)
        (first | simp only [add_plain] at hx142_2 | skip)
        (first | simp only [add_plain] at hx142_3 | skip)
        (first | simp only [add_plain] at hx142_4 | skip)
        (first | simp only [add_plain] at hx142_5 | skip)
        (first | simp only [add_plain] at hx142_6 | skip)
        (first | simp only [add_plain] at hx142_7 | skip)
        refine start_ (n := 18) (S := fun w' => w'.cell? ⟨go14, (((ji9)).toNat * 8), none⟩ = some (.string ((rd_T45 x0_2 (ji9)).f0)) ∧ w'.cell? ⟨go14, (((ji9)).toNat * 8) + 1, none⟩ = some (.int .i64 ((rd_T45 x0_2 (ji9)).f1)) ∧ w'.cell? ⟨go14, (((ji9)).toNat * 8) + 2, none⟩ = some (.int .i64 ((rd_T45 x0_2 (ji9)).f2)) ∧ w'.cell? ⟨go14, (((ji9)).toNat * 8) + 3, none⟩ = some (.int .i64 ((rd_T45 x0_2 (ji9)).f3)) ∧ w'.cell? ⟨go14, (((ji9)).toNat * 8) + 4, none⟩ = some (.int .i64 ((rd_T45 x0_2 (ji9)).f4)) ∧ w'.cell? ⟨go14, (((ji9)).toNat * 8) + 5, none⟩ = some (.int .i64 ((rd_T45 x0_2 (ji9)).f5)) ∧ w'.cell? ⟨go14, (((ji9)).toNat * 8) + 6, none⟩ = some (.int .i64 ((rd_T45 x0_2 (ji9)).f6)) ∧ w'.cell? ⟨go14, (((ji9)).toNat * 8) + 7, none⟩ = some (.string ((rd_T45 x0_2 (ji9)).f7)) ∧ w'.cell? ⟨go14, ((x9_2).toNat * 8), none⟩ = some (.string ((rd_T45 x0_2 x9_2).f0)) ∧ w'.cell? ⟨go14, ((x9_2).toNat * 8) + 1, none⟩ = some (.int .i64 ((rd_T45 x0_2 x9_2).f1)) ∧ w'.cell? ⟨go14, ((x9_2).toNat * 8) + 2, none⟩ = some (.int .i64 ((rd_T45 x0_2 x9_2).f2)) ∧ w'.cell? ⟨go14, ((x9_2).toNat * 8) + 3, none⟩ = some (.int .i64 ((rd_T45 x0_2 x9_2).f3)) ∧ w'.cell? ⟨go14, ((x9_2).toNat * 8) + 4, none⟩ = some (.int .i64 ((rd_T45 x0_2 x9_2).f4)) ∧ w'.cell? ⟨go14, ((x9_2).toNat * 8) + 5, none⟩ = some (.int .i64 ((rd_T45 x0_2 x9_2).f5)) ∧ w'.cell? ⟨go14, ((x9_2).toNat * 8) + 6, none⟩ = some (.int .i64 ((rd_T45 x0_2 x9_2).f6)) ∧ w'.cell? ⟨go14, ((x9_2).toNat * 8) + 7, none⟩ = some (.string ((rd_T45 x0_2 x9_2).f7))) (ds := [15, 17]) #[false, false, false, false, false, false, false, false, false, false, false, false, false, false, false, false, false, false] (by kernel_rfl) rfl rfl ⟨hx141_0, hx141_1, hx141_2, hx141_3, hx141_4, hx141_5, hx141_6, hx141_7, hx142_0, hx142_1, hx142_2, hx142_3, hx142_4, hx142_5, hx142_6, hx142_7⟩ (fun hHeld => ?_); refine with_tabW insSort.tab6 insSort.bits6 (fun HT_ HW_ => ?_)
        generalize w18.drew = w19 at HO_0 HK HB GG14 hx138_0 hx138_1 hx138_2 hx138_3 hx138_4 hx138_5 hx138_6 hx138_7 hx139_0 hx139_1 hx139_2 hx139_3 hx139_4 hx139_5 hx139_6 hx139_7 hx141_0 hx141_1 hx141_2 hx141_3 hx141_4 hx141_5 hx141_6 hx141_7 hx142_0 hx142_1 hx142_2 hx142_3 hx142_4 hx142_5 hx142_6 hx142_7 hHeld ⊢
        refine pA (i := 0) (N := some 37) (tb 18 1) (any_of HT_.out (by kernel_rfl)) ?_
        refine pA (i := 1) (N := some 38) (tb 18 3) (any_of HT_.out (by kernel_rfl)) ?_
        refine pA (i := 2) (N := some 39) (tb 18 7) (any_of HT_.out (by kernel_rfl)) ?_
        refine pA (i := 3) (N := some 40) (tb 18 15) (any_of HT_.out (by kernel_rfl)) ?_
        refine pA (i := 4) (N := some 41) (tb 18 31) (any_of HT_.out (by kernel_rfl)) ?_
        refine pA (i := 5) (N := some 42) (tb 18 63) (any_of HT_.out (by kernel_rfl)) ?_
        refine pA (i := 6) (N := some 43) (tb 18 127) (any_of HT_.out (by kernel_rfl)) ?_
        refine pA (i := 7) (N := some 44) (tb 18 255) (any_of HT_.out (by kernel_rfl)) ?_
        refine pA (i := 8) (N := some 45) (tb 18 511) (any_of HT_.out (by kernel_rfl)) ?_
        refine pA (i := 10) (N := some 47) (tb 18 1535) (any_of HT_.out (by kernel_rfl)) ?_
        refine pA (i := 11) (N := some 48) (tb 18 3583) (any_of HT_.out (by kernel_rfl)) ?_
        refine pA (i := 12) (N := some 49) (tb 18 7679) (any_of HT_.out (by kernel_rfl)) ?_
        refine take_ (i := 9) (N := some 46) (v := ?_) (a' := ?_) (tb 18 8191) rfl rfl (take_ofW HT_.out HW_.out (by kernel_rfl)) (fun _ _ _ h => h) (Or.inl ⟨by rfl, ?_⟩) hHeld ?_ ?_
        rotate_left
        ·rintro w' ⟨s0, s1, s2, s3, s4, s5, s6, s7, s8, s9, s10, s11, s12, s13, s14, s15⟩
         go_simp
         with_reducible rfl
        rotate_left
        ·simp only [Act.put, List.setIfInBounds_toArray, List.set_cons_zero, List.set_cons_succ, i64_w, i32_w]
         rfl
        refine take_ (i := 13) (N := some 50) (v := ?_) (a' := ?_) (tb 18 16383) rfl rfl (take_ofW HT_.out HW_.out (by kernel_rfl)) (fun _ _ _ h => h) (Or.inl ⟨by rfl, ?_⟩) hHeld ?_ ?_
        rotate_left
        ·rintro w' ⟨s0, s1, s2, s3, s4, s5, s6, s7, s8, s9, s10, s11, s12, s13, s14, s15⟩
         go_simp
         with_reducible rfl
        rotate_left
        ·simp only [Act.put, List.setIfInBounds_toArray, List.set_cons_zero, List.set_cons_succ, i64_w, i32_w]
         rfl
        refine pA (i := 14) (N := some 51) (tb 18 32767) (any_of HT_.out (by kernel_rfl)) ?_
        refine last_ (i := 15) (N := none) (tb 18 65535) rfl rfl (one_of HT_.out (by kernel_rfl)) (by decide) (fun K hK => ?_)
        refine stR_ k45 (by rfl) rfl 45 (.tmp 51) (.tmp 46) rfl (i := x9_2) (x' := (⟨(rd_T45 x0_2 (ji9)).f0, (rd_T45 x0_2 (ji9)).f1, (rd_T45 x0_2 (ji9)).f2, (rd_T45 x0_2 (ji9)).f3, (rd_T45 x0_2 (ji9)).f4, (rd_T45 x0_2 (ji9)).f5, (rd_T45 x0_2 (ji9)).f6, (rd_T45 x0_2 (ji9)).f7⟩ : S45)) (u := (.agg #[.string ((rd_T45 x0_2 (ji9)).f0), .int .i64 ((rd_T45 x0_2 (ji9)).f1), .int .i64 ((rd_T45 x0_2 (ji9)).f2), .int .i64 ((rd_T45 x0_2 (ji9)).f3), .int .i64 ((rd_T45 x0_2 (ji9)).f4), .int .i64 ((rd_T45 x0_2 (ji9)).f5), .int .i64 ((rd_T45 x0_2 (ji9)).f6), .string ((rd_T45 x0_2 (ji9)).f7)])) rfl rfl rfl (by kernel_rfl) (List.all_eq_true.1 rfl) rfl (fun _ => k45_mkM _ _ _ _) HO_0.out (of_decide_eq_true (by first | (with_reducible assumption) | assumption)) (of_decide_eq_true (by first | (with_reducible assumption) | assumption)) HK.out HMgo14.out HB.out (fun wq1_ hR1_ hKp1_ hBl1_ => ?_)
        refine hK.out _ _ ?_
        clear hK K
        replace hR1_ := Aside0.mk hR1_
        replace hKp1_ := Aside0.mk hKp1_
        replace hBl1_ := Aside0.mk hBl1_
        refine pA (i := 16) (N := some 52) (tb 18 131071) (any_of HT_.out (by kernel_rfl)) ?_
        refine last_ (i := 17) (N := none) (tb 18 262143) rfl rfl (one_of HT_.out (by kernel_rfl)) (by decide) (fun K hK => ?_)
        refine stR_ k45 (by rfl) rfl 45 (.tmp 52) (.tmp 50) rfl (i := (ji9)) (x' := (⟨(rd_T45 x0_2 x9_2).f0, (rd_T45 x0_2 x9_2).f1, (rd_T45 x0_2 x9_2).f2, (rd_T45 x0_2 x9_2).f3, (rd_T45 x0_2 x9_2).f4, (rd_T45 x0_2 x9_2).f5, (rd_T45 x0_2 x9_2).f6, (rd_T45 x0_2 x9_2).f7⟩ : S45)) (u := (.agg #[.string ((rd_T45 x0_2 x9_2).f0), .int .i64 ((rd_T45 x0_2 x9_2).f1), .int .i64 ((rd_T45 x0_2 x9_2).f2), .int .i64 ((rd_T45 x0_2 x9_2).f3), .int .i64 ((rd_T45 x0_2 x9_2).f4), .int .i64 ((rd_T45 x0_2 x9_2).f5), .int .i64 ((rd_T45 x0_2 x9_2).f6), .string ((rd_T45 x0_2 x9_2).f7)])) rfl rfl rfl (by kernel_rfl) (List.all_eq_true.1 rfl) rfl (fun _ => k45_mkM _ _ _ _) hR1_.out (of_decide_eq_true (by first | (with_reducible assumption) | assumption)) (of_decide_eq_true (by first | (with_reducible assumption) | assumption)) hKp1_.out HMgo14.out hBl1_.out (fun wq2_ hR2_ hKp2_ hBl2_ => ?_)
        refine hK.out _ _ ?_
        clear hK K
        replace hR2_ := Aside0.mk hR2_
        replace hKp2_ := Aside0.mk hKp2_
        replace hBl2_ := Aside0.mk hBl2_
        have hR3_ := hR2_.out
        rw [← Ny143.out, ← Ny144.out] at hR3_
        have HQ21 := Aside0.mk hR3_
        clear hR3_
        have HK := hKp2_
        have HB := hBl2_
        refine done_ (done_of HT_.out (by kernel_rfl)) ?_
        try go_wp2
        go_roundg k2
        case measure => have := HK1.out; have := HK2.out; omega
        case rel => exact ⟨(y144), (ji9), (by first | rfl | (simp; done) | (simp only [← hji9] <;> (first | rfl | simp)) | (simp [*]; done)), H', ⟨by have := HK1.out; have := HK2.out; omega⟩, ⟨uR HQ21.out⟩, ⟨by repeat (first | (with_reducible first | exact HK.out | apply Kept.alloc | apply Kept.drewN | apply Kept.drew | refine Kept.setCell ?_ HMgo14.out _ | refine Kept.setCell ?_ HMgo14.out _ | refine Kept.setCell ?_ HMgo14.out _ | refine Kept.setCell ?_ HMgo14.out _ | refine Kept.setCell ?_ HMgo14.out _ | refine Kept.setCell ?_ HMgo14.out _ | refine Kept.setCell ?_ HMgo14.out _ | refine Kept.setCell ?_ HMgo14.out _ | refine Kept.setCell ?_ HMgo14.out _ | refine Kept.setCell ?_ HMgo14.out _ | refine Kept.setCell ?_ HMgo14.out _ | refine Kept.setCell ?_ HMgo14.out _ | refine Kept.setCell ?_ HMgo14.out _ | refine Kept.setCell ?_ HMgo14.out _ | refine Kept.setCell ?_ HMgo14.out _ | refine Kept.setCell ?_ HMgo14.out _) | exact HK.out)⟩, ⟨by repeat (first | (with_reducible first | exact HB.out | apply below_alloc | apply pw_below_drewN | apply below_drew1 | refine below_set ?_ GB14.out | refine below_set ?_ GB14.out | refine below_set ?_ GB14.out | refine below_set ?_ GB14.out | refine below_set ?_ GB14.out | refine below_set ?_ GB14.out | refine below_set ?_ GB14.out | refine below_set ?_ GB14.out | refine below_set ?_ GB14.out | refine below_set ?_ GB14.out | refine below_set ?_ GB14.out | refine below_set ?_ GB14.out | refine below_set ?_ GB14.out | refine below_set ?_ GB14.out | refine below_set ?_ GB14.out | refine below_set ?_ GB14.out) | exact HB.out)⟩⟩
       ·rw [if_neg c13] at H
        have c13b0 : decide (t140 < 0) = false := decide_eq_false c13
        clear c13
        have H' := Aside0.mk H
        clear H
        try go_wp2
        replace HO_0 := Aside0.mk (Kd.R_drew HO_0.out)
        replace HK := Aside0.mk (Kept.drew HK.out)
        replace HB := Aside0.mk (below_drew1 HB.out)
        obtain ⟨Ao23, co23, eo23⟩ := Kd.R_slice HO_0.out
        (first | subst eo23 | (injection eo23 with f1_ f2_ f3_; have f4_ := f1_.symm; have f5_ := f3_.symm; clear f1_ f2_ f3_; subst f4_; subst f5_))
        have p138 : 0 ≤ (x9_2 : Int) := of_decide_eq_true (by first | (with_reducible assumption) | assumption)
        have q138 : x9_2 < (x0_2.length : Int) := of_decide_eq_true (by first | (with_reducible assumption) | assumption)
        obtain ⟨ad138, e138, hx138_0, hx138_1, hx138_2, hx138_3, hx138_4, hx138_5, hx138_6, hx138_7⟩ := at_T45 (Kd.R_reads' HO_0.out).2.2 x9_2 p138 q138
        cases e138
        replace p138 := eq_true p138
        replace q138 := eq_true q138
        have p139 : 0 ≤ ((ji9) : Int) := of_decide_eq_true (by first | (with_reducible assumption) | assumption)
        have q139 : (ji9) < (x0_2.length : Int) := of_decide_eq_true (by first | (with_reducible assumption) | assumption)
        obtain ⟨ad139, e139, hx139_0, hx139_1, hx139_2, hx139_3, hx139_4, hx139_5, hx139_6, hx139_7⟩ := at_T45 (Kd.R_reads' HO_0.out).2.2 (ji9) p139 q139
        obtain rfl : ad138 = ad139 := (by injection e139)
        replace p139 := eq_true p139
        replace q139 := eq_true q139
        refine start_ (n := 17) (S := fun w' => w'.cell? (ad138.add ((x9_2).toNat * 8)) = some (.string ((rd_T45 x0_2 x9_2).f0)) ∧ w'.cell? ⟨(ad138.add ((x9_2).toNat * 8)).block, (ad138.add ((x9_2).toNat * 8)).off + 1, none⟩ = some (.int .i64 ((rd_T45 x0_2 x9_2).f1)) ∧ w'.cell? ⟨(ad138.add ((x9_2).toNat * 8)).block, (ad138.add ((x9_2).toNat * 8)).off + 2, none⟩ = some (.int .i64 ((rd_T45 x0_2 x9_2).f2)) ∧ w'.cell? ⟨(ad138.add ((x9_2).toNat * 8)).block, (ad138.add ((x9_2).toNat * 8)).off + 3, none⟩ = some (.int .i64 ((rd_T45 x0_2 x9_2).f3)) ∧ w'.cell? ⟨(ad138.add ((x9_2).toNat * 8)).block, (ad138.add ((x9_2).toNat * 8)).off + 4, none⟩ = some (.int .i64 ((rd_T45 x0_2 x9_2).f4)) ∧ w'.cell? ⟨(ad138.add ((x9_2).toNat * 8)).block, (ad138.add ((x9_2).toNat * 8)).off + 5, none⟩ = some (.int .i64 ((rd_T45 x0_2 x9_2).f5)) ∧ w'.cell? ⟨(ad138.add ((x9_2).toNat * 8)).block, (ad138.add ((x9_2).toNat * 8)).off + 6, none⟩ = some (.int .i64 ((rd_T45 x0_2 x9_2).f6)) ∧ w'.cell? ⟨(ad138.add ((x9_2).toNat * 8)).block, (ad138.add ((x9_2).toNat * 8)).off + 7, none⟩ = some (.string ((rd_T45 x0_2 x9_2).f7)) ∧ w'.cell? (ad138.add (((ji9)).toNat * 8)) = some (.string ((rd_T45 x0_2 (ji9)).f0)) ∧ w'.cell? ⟨(ad138.add (((ji9)).toNat * 8)).block, (ad138.add (((ji9)).toNat * 8)).off + 1, none⟩ = some (.int .i64 ((rd_T45 x0_2 (ji9)).f1)) ∧ w'.cell? ⟨(ad138.add (((ji9)).toNat * 8)).block, (ad138.add (((ji9)).toNat * 8)).off + 2, none⟩ = some (.int .i64 ((rd_T45 x0_2 (ji9)).f2)) ∧ w'.cell? ⟨(ad138.add (((ji9)).toNat * 8)).block, (ad138.add (((ji9)).toNat * 8)).off + 3, none⟩ = some (.int .i64 ((rd_T45 x0_2 (ji9)).f3)) ∧ w'.cell? ⟨(ad138.add (((ji9)).toNat * 8)).block, (ad138.add (((ji9)).toNat * 8)).off + 4, none⟩ = some (.int .i64 ((rd_T45 x0_2 (ji9)).f4)) ∧ w'.cell? ⟨(ad138.add (((ji9)).toNat * 8)).block, (ad138.add (((ji9)).toNat * 8)).off + 5, none⟩ = some (.int .i64 ((rd_T45 x0_2 (ji9)).f5)) ∧ w'.cell? ⟨(ad138.add (((ji9)).toNat * 8)).block, (ad138.add (((ji9)).toNat * 8)).off + 6, none⟩ = some (.int .i64 ((rd_T45 x0_2 (ji9)).f6)) ∧ w'.cell? ⟨(ad138.add (((ji9)).toNat * 8)).block, (ad138.add (((ji9)).toNat * 8)).off + 7, none⟩ = some (.string ((rd_T45 x0_2 (ji9)).f7))) (ds := []) #[false, false, false, false, false, false, false, false, false, false, false, false, false, false, false, false, false] (by kernel_rfl) rfl rfl ⟨hx138_0, hx138_1, hx138_2, hx138_3, hx138_4, hx138_5, hx138_6, hx138_7, hx139_0, hx139_1, hx139_2, hx139_3, hx139_4, hx139_5, hx139_6, hx139_7⟩ (fun hHeld => ?_); refine with_tabW insSort.tab4 insSort.bits4 (fun HT_ HW_ => ?_)
        generalize wr.drew = w22 at HO_0 HK HB hx138_0 hx138_1 hx138_2 hx138_3 hx138_4 hx138_5 hx138_6 hx138_7 hx139_0 hx139_1 hx139_2 hx139_3 hx139_4 hx139_5 hx139_6 hx139_7 hHeld ⊢
        refine pA (i := 0) (N := some 18) (tb 17 1) (any_of HT_.out (by kernel_rfl)) ?_
        refine pA (i := 1) (N := some 19) (tb 17 3) (any_of HT_.out (by kernel_rfl)) ?_
        refine pA (i := 2) (N := some 20) (tb 17 7) (any_of HT_.out (by kernel_rfl)) ?_
        refine pA (i := 3) (N := some 21) (tb 17 15) (any_of HT_.out (by kernel_rfl)) ?_
        refine pA (i := 4) (N := some 22) (tb 17 31) (any_of HT_.out (by kernel_rfl)) ?_
        refine pA (i := 5) (N := some 23) (tb 17 63) (any_of HT_.out (by kernel_rfl)) ?_
        refine pA (i := 6) (N := some 24) (tb 17 127) (any_of HT_.out (by kernel_rfl)) ?_
        refine pA (i := 7) (N := some 25) (tb 17 255) (any_of HT_.out (by kernel_rfl)) ?_
        refine pA (i := 9) (N := some 27) (tb 17 767) (any_of HT_.out (by kernel_rfl)) ?_
        refine pA (i := 10) (N := some 28) (tb 17 1791) (any_of HT_.out (by kernel_rfl)) ?_
        refine pA (i := 11) (N := some 29) (tb 17 3839) (any_of HT_.out (by kernel_rfl)) ?_
        refine pA (i := 12) (N := some 30) (tb 17 7935) (any_of HT_.out (by kernel_rfl)) ?_
        refine take_ (i := 8) (N := some 26) (v := ?_) (a' := ?_) (tb 17 8191) rfl rfl (take_ofW HT_.out HW_.out (by kernel_rfl)) (fun _ _ _ h => h) (Or.inl ⟨by rfl, ?_⟩) hHeld ?_ ?_
        rotate_left
        ·rintro w' ⟨s0, s1, s2, s3, s4, s5, s6, s7, s8, s9, s10, s11, s12, s13, s14, s15⟩
         go_simp
         with_reducible rfl
        rotate_left
        ·simp only [Act.put, List.setIfInBounds_toArray, List.set_cons_zero, List.set_cons_succ, i64_w, i32_w]
         rfl
        refine take_ (i := 13) (N := some 31) (v := ?_) (a' := ?_) (tb 17 16383) rfl rfl (take_ofW HT_.out HW_.out (by kernel_rfl)) (fun _ _ _ h => h) (Or.inl ⟨by rfl, ?_⟩) hHeld ?_ ?_
        rotate_left
        ·rintro w' ⟨s0, s1, s2, s3, s4, s5, s6, s7, s8, s9, s10, s11, s12, s13, s14, s15⟩
         go_simp
         with_reducible rfl
        rotate_left
        ·simp only [Act.put, List.setIfInBounds_toArray, List.set_cons_zero, List.set_cons_succ, i64_w, i32_w]
         rfl
        refine one_ (i := 14) (N := some 32) (tb 17 32767) rfl rfl (one_of HT_.out (by kernel_rfl)) (by decide) (fun K hK => ?_)
        refine goesC_ (lb := #[.pointer (some cw_)]) Tryz.func46 (by kernel_rfl) rfl #[.agg #[.string ((rd_T45 x0_2 x9_2).f0), .int .i64 ((rd_T45 x0_2 x9_2).f1), .int .i64 ((rd_T45 x0_2 x9_2).f2), .int .i64 ((rd_T45 x0_2 x9_2).f3), .int .i64 ((rd_T45 x0_2 x9_2).f4), .int .i64 ((rd_T45 x0_2 x9_2).f5), .int .i64 ((rd_T45 x0_2 x9_2).f6), .string ((rd_T45 x0_2 x9_2).f7)], .agg #[.string ((rd_T45 x0_2 (ji9)).f0), .int .i64 ((rd_T45 x0_2 (ji9)).f1), .int .i64 ((rd_T45 x0_2 (ji9)).f2), .int .i64 ((rd_T45 x0_2 (ji9)).f3), .int .i64 ((rd_T45 x0_2 (ji9)).f4), .int .i64 ((rd_T45 x0_2 (ji9)).f5), .int .i64 ((rd_T45 x0_2 (ji9)).f6), .string ((rd_T45 x0_2 (ji9)).f7)], .pointer (some cw_)] (by rfl) rfl rfl (by rfl) (by (try simp only [List.map_toArray, List.map_cons, List.map_nil]); first | done | (simp only [hji9]; rfl) | rfl | (simp only [List.length_drop, List.length_take]; rfl)) ?_
        with_reducible refine (directory_Sort_1.calls ((rd_T45 x0_2 x9_2).f0) ((rd_T45 x0_2 x9_2).f1) ((rd_T45 x0_2 x9_2).f2) ((rd_T45 x0_2 x9_2).f3) ((rd_T45 x0_2 x9_2).f4) ((rd_T45 x0_2 x9_2).f5) ((rd_T45 x0_2 x9_2).f6) ((rd_T45 x0_2 x9_2).f7) ((rd_T45 x0_2 (ji9)).f0) ((rd_T45 x0_2 (ji9)).f1) ((rd_T45 x0_2 (ji9)).f2) ((rd_T45 x0_2 (ji9)).f3) ((rd_T45 x0_2 (ji9)).f4) ((rd_T45 x0_2 (ji9)).f5) ((rd_T45 x0_2 (ji9)).f6) ((rd_T45 x0_2 (ji9)).f7) a3 t140 w0 _ cw_ hcw_ ?sideB A12.out).mono ?_
        case sideB => exact uB HB.out
        rintro e w24 ⟨rfl, hb⟩
        have HS0_ := (hb.cell (World.block_lt_of_cell? _ _ (hHeld.1))).trans (hHeld.1)
        have HS1_ := (hb.cell (World.block_lt_of_cell? _ _ (hHeld.2.1))).trans (hHeld.2.1)
        have HS2_ := (hb.cell (World.block_lt_of_cell? _ _ (hHeld.2.2.1))).trans (hHeld.2.2.1)
        have HS3_ := (hb.cell (World.block_lt_of_cell? _ _ (hHeld.2.2.2.1))).trans (hHeld.2.2.2.1)
        have HS4_ := (hb.cell (World.block_lt_of_cell? _ _ (hHeld.2.2.2.2.1))).trans (hHeld.2.2.2.2.1)
        have HS5_ := (hb.cell (World.block_lt_of_cell? _ _ (hHeld.2.2.2.2.2.1))).trans (hHeld.2.2.2.2.2.1)
        have HS6_ := (hb.cell (World.block_lt_of_cell? _ _ (hHeld.2.2.2.2.2.2.1))).trans (hHeld.2.2.2.2.2.2.1)
        have HS7_ := (hb.cell (World.block_lt_of_cell? _ _ (hHeld.2.2.2.2.2.2.2.1))).trans (hHeld.2.2.2.2.2.2.2.1)
        have HS8_ := (hb.cell (World.block_lt_of_cell? _ _ (hHeld.2.2.2.2.2.2.2.2.1))).trans (hHeld.2.2.2.2.2.2.2.2.1)
        have HS9_ := (hb.cell (World.block_lt_of_cell? _ _ (hHeld.2.2.2.2.2.2.2.2.2.1))).trans (hHeld.2.2.2.2.2.2.2.2.2.1)
        have HS10_ := (hb.cell (World.block_lt_of_cell? _ _ (hHeld.2.2.2.2.2.2.2.2.2.2.1))).trans (hHeld.2.2.2.2.2.2.2.2.2.2.1)
        have HS11_ := (hb.cell (World.block_lt_of_cell? _ _ (hHeld.2.2.2.2.2.2.2.2.2.2.2.1))).trans (hHeld.2.2.2.2.2.2.2.2.2.2.2.1)
        have HS12_ := (hb.cell (World.block_lt_of_cell? _ _ (hHeld.2.2.2.2.2.2.2.2.2.2.2.2.1))).trans (hHeld.2.2.2.2.2.2.2.2.2.2.2.2.1)
        have HS13_ := (hb.cell (World.block_lt_of_cell? _ _ (hHeld.2.2.2.2.2.2.2.2.2.2.2.2.2.1))).trans (hHeld.2.2.2.2.2.2.2.2.2.2.2.2.2.1)
        have HS14_ := (hb.cell (World.block_lt_of_cell? _ _ (hHeld.2.2.2.2.2.2.2.2.2.2.2.2.2.2.1))).trans (hHeld.2.2.2.2.2.2.2.2.2.2.2.2.2.2.1)
        have HS15_ := (hb.cell (World.block_lt_of_cell? _ _ (hHeld.2.2.2.2.2.2.2.2.2.2.2.2.2.2.2))).trans (hHeld.2.2.2.2.2.2.2.2.2.2.2.2.2.2.2)
        refine ⟨_, rfl, ?_⟩
        replace HO_0 := Aside0.mk (Kd.R_below (uR HO_0.out) hb)
        replace HK := Aside0.mk (Kept.below (S := (fun k_ => P0_ k_)) (uK HK.out) hb)
        replace HB := Aside0.mk (below_step (uB HB.out) hb)
        (try clear hb)
        (try clear hb2)
        (try clear hk)
        (try clear hi)
        refine hK.out _ _ ⟨HS0_, HS1_, HS2_, HS3_, HS4_, HS5_, HS6_, HS7_, HS8_, HS9_, HS10_, HS11_, HS12_, HS13_, HS14_, HS15_⟩ (fun hHeld => ?_)
        clear hK K
        refine norm_ (a' := ?_) ?_ ?_
        rotate_left
        ·show Act.put _ (some 32) _ = _
         simp only [Act.put, List.setIfInBounds_toArray, List.set_cons_zero, List.set_cons_succ, i64_w, i32_w]
         rfl
        refine pA (i := 15) (N := some 33) (tb 17 65535) (any_of HT_.out (by kernel_rfl)) ?_
        refine pA (i := 16) (N := some 34) (tb 17 131071) (any_of HT_.out (by kernel_rfl)) ?_
        refine done_ (done_of HT_.out (by kernel_rfl)) ?_
        try go_wp2
        go_roundg k2
        case measure => have := HK1.out; have := HK2.out; omega
        case rel => exact ⟨(x0_2), (wrap64 (x8_1 + 1)), (by first | rfl | (simp; done) | (simp [*]; done)), H', ⟨by have := HK1.out; have := HK2.out; omega⟩, ⟨uR HO_0.out⟩, ⟨uK HK.out⟩, ⟨uB HB.out⟩⟩
      ·rw [if_neg c6] at H
       have c6b0 : decide (a1 < x9_2) = false := decide_eq_false c6
       clear c6
       have H' := Aside0.mk H
       clear H
       try go_wp2
       replace HO_0 := Aside0.mk (Kd.R_drew HO_0.out)
       replace HK := Aside0.mk (Kept.drew HK.out)
       replace HB := Aside0.mk (below_drew1 HB.out)
       refine start_ (n := 17) (S := fun w' => True) (ds := []) #[false, false, false, false, false, false, false, false, false, false, false, false, false, false, false, false, false] (by kernel_rfl) rfl rfl trivial (fun hHeld => ?_); refine with_tabW insSort.tab4 insSort.bits4 (fun HT_ HW_ => ?_)
       generalize wr.drew = w25 at HO_0 HK HB hHeld ⊢
       refine pA (i := 0) (N := some 18) (tb 17 1) (any_of HT_.out (by kernel_rfl)) ?_
       refine pA (i := 1) (N := some 19) (tb 17 3) (any_of HT_.out (by kernel_rfl)) ?_
       refine pA (i := 2) (N := some 20) (tb 17 7) (any_of HT_.out (by kernel_rfl)) ?_
       refine pA (i := 3) (N := some 21) (tb 17 15) (any_of HT_.out (by kernel_rfl)) ?_
       refine pure_ (i := 4) (N := some 22) (v := undef) (a' := ?_) (tb 17 31) rfl rfl (any_of HT_.out (by kernel_rfl)) (fun _ _ _ h => h) (Or.inr ⟨by rfl, rfl⟩) ?_ ?_
       rotate_left
       ·simp only [Act.put, List.setIfInBounds_toArray, List.set_cons_zero, List.set_cons_succ, i64_w, i32_w]
        rfl
       refine pure_ (i := 5) (N := some 23) (v := undef) (a' := ?_) (tb 17 63) rfl rfl (any_of HT_.out (by kernel_rfl)) (fun _ _ _ h => h) (Or.inr ⟨by rfl, rfl⟩) ?_ ?_
       rotate_left
       ·simp only [Act.put, List.setIfInBounds_toArray, List.set_cons_zero, List.set_cons_succ, i64_w, i32_w]
        rfl
       refine pure_ (i := 6) (N := some 24) (v := undef) (a' := ?_) (tb 17 127) rfl rfl (any_of HT_.out (by kernel_rfl)) (fun _ _ _ h => h) (Or.inr ⟨by rfl, rfl⟩) ?_ ?_
       rotate_left
       ·simp only [Act.put, List.setIfInBounds_toArray, List.set_cons_zero, List.set_cons_succ, i64_w, i32_w]
        rfl
       refine pure_ (i := 7) (N := some 25) (v := undef) (a' := ?_) (tb 17 255) rfl rfl (any_of HT_.out (by kernel_rfl)) (fun _ _ _ h => h) (Or.inr ⟨by rfl, rfl⟩) ?_ ?_
       rotate_left
       ·simp only [Act.put, List.setIfInBounds_toArray, List.set_cons_zero, List.set_cons_succ, i64_w, i32_w]
        rfl
       refine pure_ (i := 8) (N := some 26) (v := undef) (a' := ?_) (tb 17 511) rfl rfl (any_of HT_.out (by kernel_rfl)) (fun _ _ _ h => h) (Or.inr ⟨by rfl, rfl⟩) ?_ ?_
       rotate_left
       ·simp only [Act.put, List.setIfInBounds_toArray, List.set_cons_zero, List.set_cons_succ, i64_w, i32_w]
        rfl
       refine pure_ (i := 9) (N := some 27) (v := undef) (a' := ?_) (tb 17 1023) rfl rfl (any_of HT_.out (by kernel_rfl)) (fun _ _ _ h => h) (Or.inr ⟨by rfl, rfl⟩) ?_ ?_
       rotate_left
       ·simp only [Act.put, List.setIfInBounds_toArray, List.set_cons_zero, List.set_cons_succ, i64_w, i32_w]
        rfl
       refine pure_ (i := 10) (N := some 28) (v := undef) (a' := ?_) (tb 17 2047) rfl rfl (any_of HT_.out (by kernel_rfl)) (fun _ _ _ h => h) (Or.inr ⟨by rfl, rfl⟩) ?_ ?_
       rotate_left
       ·simp only [Act.put, List.setIfInBounds_toArray, List.set_cons_zero, List.set_cons_succ, i64_w, i32_w]
        rfl
       refine pure_ (i := 11) (N := some 29) (v := undef) (a' := ?_) (tb 17 4095) rfl rfl (any_of HT_.out (by kernel_rfl)) (fun _ _ _ h => h) (Or.inr ⟨by rfl, rfl⟩) ?_ ?_
       rotate_left
       ·simp only [Act.put, List.setIfInBounds_toArray, List.set_cons_zero, List.set_cons_succ, i64_w, i32_w]
        rfl
       refine pure_ (i := 12) (N := some 30) (v := undef) (a' := ?_) (tb 17 8191) rfl rfl (any_of HT_.out (by kernel_rfl)) (fun _ _ _ h => h) (Or.inr ⟨by rfl, rfl⟩) ?_ ?_
       rotate_left
       ·simp only [Act.put, List.setIfInBounds_toArray, List.set_cons_zero, List.set_cons_succ, i64_w, i32_w]
        rfl
       refine pure_ (i := 13) (N := some 31) (v := undef) (a' := ?_) (tb 17 16383) rfl rfl (any_of HT_.out (by kernel_rfl)) (fun _ _ _ h => h) (Or.inr ⟨by rfl, rfl⟩) ?_ ?_
       rotate_left
       ·simp only [Act.put, List.setIfInBounds_toArray, List.set_cons_zero, List.set_cons_succ, i64_w, i32_w]
        rfl
       refine pure_ (i := 14) (N := some 32) (v := undef) (a' := ?_) (tb 17 32767) rfl rfl (any_of HT_.out (by kernel_rfl)) (fun _ _ _ h => h) (Or.inr ⟨by rfl, rfl⟩) ?_ ?_
       rotate_left
       ·simp only [Act.put, List.setIfInBounds_toArray, List.set_cons_zero, List.set_cons_succ, i64_w, i32_w]
        rfl
       refine pure_ (i := 15) (N := some 33) (v := undef) (a' := ?_) (tb 17 65535) rfl rfl (any_of HT_.out (by kernel_rfl)) (fun _ _ _ h => h) (Or.inr ⟨by rfl, rfl⟩) ?_ ?_
       rotate_left
       ·simp only [Act.put, List.setIfInBounds_toArray, List.set_cons_zero, List.set_cons_succ, i64_w, i32_w]
        rfl
       refine pA (i := 16) (N := some 34) (tb 17 131071) (any_of HT_.out (by kernel_rfl)) ?_
       refine done_ (done_of HT_.out (by kernel_rfl)) ?_
       try go_wp2
       go_roundg k2
       case measure => have := HK1.out; have := HK2.out; omega
       case rel => exact ⟨(x0_2), (wrap64 (x8_1 + 1)), (by first | rfl | (simp; done) | (simp [*]; done)), H', ⟨by have := HK1.out; have := HK2.out; omega⟩, ⟨uR HO_0.out⟩, ⟨uK HK.out⟩, ⟨uB HB.out⟩⟩
   ·rw [if_neg c5] at H
    have c5b0 : decide (x8_1 < a2) = false := decide_eq_false c5
    clear c5
    obtain rfl := Option.some.inj H
    go_wp2
    first | go_end0 | ((try simp only [Exit.inBlock, Exit.then]); refine bodyPost_ret (results_none rfl _ _ _) rfl ?_)
    exact ⟨by first | rfl | (simp [errW_none, errW_some] <;> rfl) | (simp [*, errW_none, errW_some] <;> rfl), by (with_reducible repeat (first | apply Kd.R_alloc | apply Kd.R_drewN | apply Kd.R_drew)); exact HO_0.out, uB HB.out, uK HK.out⟩
end Go.Proofs.YthblghfobnhoeaaGreat.H
namespace Go.Proofs.YthblghfobnhoeaaGreat.H
open Go.RowKit Go.Proofs.YthblghfobnhoeaaGreatW.PrintWords Go.Proofs.YthblghfobnhoeaaGreatW.PrintLast Go.Proofs.YthblghfobnhoeaaGreatW.PrintMore Go.Proofs.YthblghfobnhoeaaGreat.A
set_option linter.unusedVariables false
set_option linter.unusedSimpArgs false

/-! slices.Clone of records, and directory.Sort. -/
abbrev D := S45
theorem dir_info : (Tryz.prog.info? 45).map (fun i => (i.zero, i.size, i.bytes)) = some (some (.agg #[.string ByteArray.empty, .int .i64 0, .int .i64 0, .int .i64 0, .int .i64 0, .int .i64 0, .int .i64 0, .string ByteArray.empty]), 8, 80) := by kernel_rfl
theorem dir_KM (W : World) (base : Nat) (x : D) (cs : List Value) (h : k45.K W x cs) : k45.M W base (fun _ => False) x cs := by
 rw [k45_open h]
 exact k45_mkM W base _ x
set_option maxRecDepth 100000 in
set_option maxHeartbeats 4000000 in
theorem clone_any (A : Option Addr) (c0 : Nat) (l : List D) (w : World) (hC : Kd.C k45 w A l.length l) (hc : l.length ≤ c0) (hl : l.length ≤ 1000000) :
  Calls Tryz.prog 44 #[.slice A l.length c0] w fun e w' => ∃ v, e = .returned v ∧ Kd.R k45 45 w' w.heap.size (fun _ => True) v l ∧ Below w.heap.size w w' := by
 have hn := Lib.run_eql_slice_nil (P := Tryz.prog) w 26 45 A l.length c0 0 0 Tryz.underlying26
 rcases A with _ | ad
 ·have h0 : l = [] := by
   rcases l with _ | ⟨x, t⟩
   ·rfl
   ·obtain ⟨ad, h, _⟩ := hC.2.2 (by simp)
    cases h
  subst h0
  have hn0 := Lib.run_eql_slice_nil (P := Tryz.prog) w 26 45 none 0 c0 0 0 Tryz.underlying26
  simp only [List.length_nil]
  clear hn
  go_enter Tryz.func44, Tryz.ntmps44
  go_wp2
  go_ret
  exact ⟨_, rfl, Kd.R_nil _ _ _ _ _, Below.refl _ _⟩
 ·go_enter Tryz.func44, Tryz.ntmps44
  have HO : Kd.R k45 45 (w.alloc (.cells #[] 45)) w.heap.size (fun _ => True) (.slice (some ⟨w.heap.size, 0, none⟩) 0 0) [] :=
   ⟨fun _ _ => trivial, OwnRow.lit (ps := []) (inner := []) w w.heap.size (Reps.none _ _) (Nat.le_refl _) (by simp)⟩
  have HC := Kd.C_alloc hC (.cells #[] 45)
  have HO := Aside0.mk HO
  have HC := Aside0.mk HC
  clear hC
  go_wp2_with (at_builtin; refine Kd.R_append_rows k45 (Rr := k45.K (w.alloc (.cells #[] 45))) (w0 := w) w.heap.size rfl (.tmp 5) (.tmp 6) 26 45 _ 80 rfl Tryz.underlying26 dir_info rfl (by decide) (by decide) (.slice (some ⟨w.heap.size, 0, none⟩) 0 0) [] l (some ad) l.length c0 (fun _ => True) (fun _ => False) rfl rfl HO.out HC.out (fun x cs h => dir_KM _ _ x cs h) (fun _ h => h.elim) (fun _ _ => trivial) (below_alloc (Below.refl _ _) _) (by simp) (by simp; omega) ?_; rintro v1 w1 hR hB hg hat)
  go_ret
  exact ⟨_, rfl, hR, hB⟩

/-! slices.SortStableFunc of fewer than 20 records. -/
set_option maxRecDepth 100000 in
set_option maxHeartbeats 4000000 in
theorem stableSmall (k : Nat) (P0_ : Nat → Prop) (l0 : List D) (hl : l0.length < 20) (a1 : Bool) (r : List D) (w0 w : World) (cw_ : Addr) (hcw_ : Aside0 (w0.cell? cw_ = some (.bool a1))) (v : Value) (hB : Below w0.heap.size w0 w) (ho0 : Kd.R k45 45 w w0.heap.size P0_ v l0) (h : insSort.f k l0 0 (l0.length : Int) a1 = some r) :
  Calls Tryz.prog 65 #[v, .int .i64 (l0.length : Int), .func (.func 46) #[] #[.pointer (some cw_)]] w fun e w' => e = .returned (.tuple #[]) ∧ Kd.R k45 45 w' w0.heap.size (fun k_ => (P0_ k_ ∨ w.heap.size ≤ k_)) v r ∧ Below w0.heap.size w0 w' := by
 have d1 : decide (20 ≤ (l0.length : Int)) = false := decide_eq_false (by omega)
 have d2 : decide (20 < (l0.length : Int)) = false := decide_eq_false (by omega)
 have d3 : decide (20 ≤ l0.length) = false := decide_eq_false (by omega)
 have d4 : decide (20 < l0.length) = false := decide_eq_false (by omega)
 have HB := Aside0.mk hB
 have HO := Aside0.mk ho0
 have H := Aside0.mk h
 clear hB ho0 h
 go_enter Tryz.func65, Tryz.ntmps65
 go_wp2_with fail
 refine wp_loop_rounds 1 ?_
 rw [rounds_succ]
 go_wp2_with (go_at_call 91; refine (insSort.calls k P0_ v l0 0 (l0.length : Int) a1 r w0 _ cw_ hcw_ HB.out HO.out H.out).mono ?_; rintro e w2 ⟨rfl, hR, hB2, hK⟩; replace hR := Aside0.mk hR; replace hB2 := Aside0.mk hB2; clear hK)
 try simp only [Act.put, List.setIfInBounds_toArray, List.set_cons_zero, List.set_cons_succ]
 refine wp_loop_rounds 1 ?_
 rw [rounds_succ]
 go_wp2_with fail
 exact bodyPost_end (by simp [results, go_sem]) rfl ⟨rfl, hR.out, hB2.out⟩

set_option maxRecDepth 100000 in
set_option maxHeartbeats 4000000 in
theorem sortSmall (k : Nat) (P0_ : Nat → Prop) (l0 : List D) (hl : l0.length < 20) (a1 : Bool) (r : List D) (w0 w : World) (cw_ : Addr) (hcw_ : Aside0 (w0.cell? cw_ = some (.bool a1))) (v : Value) (hB : Below w0.heap.size w0 w) (ho0 : Kd.R k45 45 w w0.heap.size P0_ v l0) (h : insSort.f k l0 0 (l0.length : Int) a1 = some r) :
  Calls Tryz.prog 45 #[v, .func (.func 46) #[] #[.pointer (some cw_)]] w fun e w' => e = .returned (.tuple #[]) ∧ Kd.R k45 45 w' w0.heap.size (fun k_ => (P0_ k_ ∨ w.heap.size ≤ k_)) v r ∧ Below w0.heap.size w0 w' := by
 obtain ⟨A, c, rfl⟩ := Kd.R_slice ho0
 have HB := Aside0.mk hB
 have HO := Aside0.mk ho0
 have H := Aside0.mk h
 clear hB ho0 h
 go_enter Tryz.func45, Tryz.ntmps45
 go_wp2_with (go_at_call 65; refine (stableSmall k P0_ l0 hl a1 r w0 _ cw_ hcw_ _ HB.out HO.out H.out).mono ?_; rintro e w2 ⟨rfl, hR, hB2⟩; replace hR := Aside0.mk hR; replace hB2 := Aside0.mk hB2)
 exact bodyPost_end (by simp [results, go_sem]) rfl ⟨rfl, hR.out, hB2.out⟩

/-- directory.Sort. -/
def directory_Sort.f (k : Nat) (l0 : List D) (a1 : Bool) : Option (List D) := if l0.length < 20 then insSort.f k l0 0 (l0.length : Int) a1 else none
theorem directory_Sort.mono : ∀ a0 a1 k, LeO (directory_Sort.f k a0 a1) (directory_Sort.f (k + 1) a0 a1) := by
 intro a0 a1 k
 unfold directory_Sort.f
 exact LeO.ite (insSort.mono _ _ _ _ _) (LeO.refl _)
set_option maxRecDepth 100000 in
set_option maxHeartbeats 4000000 in
theorem directory_Sort.calls (k : Nat) (A0 : Option Addr) (c0 : Nat) (l0 : List D) (a1 : Bool) (r : List D) (w : World) (hr0 : Kd.C k45 w A0 l0.length l0) (hc0 : l0.length ≤ c0) (h : directory_Sort.f k l0 a1 = some r) :
  Calls Tryz.prog 16 #[.slice A0 l0.length c0, .bool a1] w fun e w' => ∃ v0_ : Value, e = .returned (v0_) ∧ Kd.R k45 45 w' w.heap.size (fun _ => True) v0_ r ∧ Below w.heap.size w w' := by
 unfold directory_Sort.f at h
 by_cases hl : l0.length < 20
 case neg => rw [if_neg hl] at h; cases h
 rw [if_pos hl] at h
 have H := Aside0.mk h
 clear h
 have HC := Aside0.mk (Kd.C_alloc hr0 (.cells #[.bool a1] 4))
 have hcell : (w.alloc (.cells #[.bool a1] 4)).cell? ⟨w.heap.size, 0, none⟩ = some (.bool a1) := by go_simp
 have hbel := Aside0.mk ((Below.refl w.heap.size w).alloc (Nat.le_refl _) (.cells #[.bool a1] 4))
 have hcw := Aside0.mk hcell
 have hz := Aside0.mk (show w.heap.size ≤ (w.alloc (.cells #[.bool a1] 4)).heap.size by simp)
 clear hcell hr0
 go_enter Tryz.func16, Tryz.ntmps16
 go_wp2_with (first
  | (go_at_call 44; refine (clone_any A0 c0 l0 _ HC.out hc0 (by omega)).mono ?_; rintro e w2 ⟨v2, rfl, hR2, hB2⟩; replace hR2 := Aside0.mk hR2; replace hB2 := Aside0.mk hB2)
  | (go_at_call 45; refine (sortSmall k (fun _ => True) l0 hl a1 r _ _ ⟨w.heap.size, 0, none⟩ hcw v2 hB2.out hR2.out H.out).mono ?_; rintro e w3 ⟨rfl, hR3, hB3⟩; replace hR3 := Aside0.mk hR3; replace hB3 := Aside0.mk hB3))
 go_ret
 exact ⟨_, rfl, Kd.R_mono (Kd.R_lower hR3.out hz.out) (fun _ _ => trivial), below_step hbel.out hB3.out⟩

end Go.Proofs.YthblghfobnhoeaaGreat.H
namespace Go.Proofs.YthblghfobnhoeaaGreat.Q
open Go.RowKit Go.Proofs.YthblghfobnhoeaaGreatW.PrintWords Go.Proofs.YthblghfobnhoeaaGreatW.PrintLast Go.Proofs.YthblghfobnhoeaaGreat.A
set_option linter.unusedVariables false

theorem wrap_id {x : Int} (h0 : -9223372036854775808 ≤ x) (h1 : x ≤ 9223372036854775807) : wrap64 x = x := by
  unfold wrap64; omega

/-- The size of a record, as the definitions say. -/
def sizeV (a b : Int) : Int :=
  if 1 ≤ a ∧ a ≤ 254 ∧ 0 ≤ b ∧ b ≤ 254 ∧ b % 2 = 0 then (if (34 + a) / 2 * 2 + b ≤ 254 then (34 + a) / 2 * 2 + b else 0) else 0

theorem padded_eq (a : Int) (h0 : 0 ≤ a) (h1 : a ≤ 1000) : dirrecord_padded.f a = some ((34 + a) / 2 * 2) := by
  unfold dirrecord_padded.f
  rw [wrap_id (x := 33 + a) (by omega) (by omega), wrap_id (x := 33 + a + 1) (by omega) (by omega)]
  rw [Int.tdiv_eq_ediv_of_nonneg (by omega)]
  rw [wrap_id (x := (33 + a + 1) / 2) (by omega) (by omega), wrap_id (by omega) (by omega)]
  congr 1
  omega

theorem size_eq (k : Nat) (a b : Int) : dirrecord_Size.f (k + 1) a b = some (sizeV a b) := by
  unfold dirrecord_Size.f sizeV
  by_cases h1 : a < 1
  · rw [if_pos h1, if_neg (by omega)]; simp [dirrecord_Size.j0]
  · rw [if_neg h1]
    by_cases h2 : a > 254
    · rw [if_pos h2, if_neg (by omega)]; simp [dirrecord_Size.j0]
    · rw [if_neg h2]
      by_cases h3 : b < 0
      · rw [if_pos h3, if_neg (by omega)]; simp [dirrecord_Size.j0]
      · rw [if_neg h3]
        by_cases h4 : b > 254
        · rw [if_pos h4, if_neg (by omega)]; simp [dirrecord_Size.j0]
        · rw [if_neg h4]
          have e : Int.tmod b 2 = b % 2 := Int.tmod_eq_emod_of_nonneg (by omega)
          rw [e]
          by_cases h5 : b % 2 = 0
          · rw [if_pos ⟨by omega, by omega, by omega, by omega, h5⟩]
            have e2 : (b % 2 != 0) = false := by simp [h5]
            rw [e2]
            simp only [dirrecord_Size.j0]
            rw [if_neg (by decide), padded_eq a (by omega) (by omega)]
            simp only [Option.bind_some]
            rw [wrap_id (by omega) (by omega)]
            split <;> rfl
          · rw [if_neg (by omega)]
            have e2 : (b % 2 != 0) = true := by simp [h5]
            rw [e2]
            simp [dirrecord_Size.j0]

end Go.Proofs.YthblghfobnhoeaaGreat.Q
namespace Go.Proofs.YthblghfobnhoeaaGreat.Q
open Go.RowKit Go.Proofs.YthblghfobnhoeaaGreatW.PrintWords Go.Proofs.YthblghfobnhoeaaGreatW.PrintLast Go.Proofs.YthblghfobnhoeaaGreat.A Go.Proofs.YthblghfobnhoeaaGreat.H
set_option linter.unusedVariables false

theorem nums_size (l : List Int) : (strOfNums l).size = l.length := by
  show (l.map _).toArray.size = l.length
  simp
theorem bt_nums (l : List Int) (i : Nat) (h : i < l.length) (h0 : 0 ≤ l[i]) (h1 : l[i] ≤ 255) : bt (strOfNums l) (i : Int) = l[i] := by
  have hs : i < (strOfNums l).data.size := by
    have := nums_size l
    show i < (strOfNums l).size
    omega
  have hb : (strOfNums l).data = (l.map (fun n => UInt8.ofNat n.toNat)).toArray := rfl
  have hg : (strOfNums l).data[i]? = some (UInt8.ofNat (l[i]).toNat) := by
    rw [hb]
    simp [h]
  have he : (strOfNums l).data[i]'hs = UInt8.ofNat (l[i]).toNat := by
    have h2 := Array.getElem?_eq_getElem (xs := (strOfNums l).data) hs
    rw [hg] at h2
    exact (Option.some.inj h2).symm
  have e : bt (strOfNums l) (i : Int) = (((strOfNums l).data[i]'hs).toNat : Int) := (bt_at (strOfNums l) (i : Int) hs).symm
  rw [e, he, UInt8.toNat_ofNat']
  omega

end Go.Proofs.YthblghfobnhoeaaGreat.Q
