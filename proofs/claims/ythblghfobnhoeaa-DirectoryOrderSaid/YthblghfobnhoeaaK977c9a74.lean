import Derived.Test.YthblghfobnhoeaaK5002658f
import Derived.Test.YthblghfobnhoeaaK944b8c91
import Derived.Test.YthblghfobnhoeaaK457671b7
import Derived.StillTailTactics
import Derived.BigQuiet
import Derived.Laws.BytesArg
import Derived.Deep.Cut
import Derived.WalkSpells
import Derived.Lib.LazyBuf
namespace Go.Proofs.Ythblghfobnhoeaa.H
open Go.RowKit Go.Proofs.YthblghfobnhoeaaW.PrintWords Go.Proofs.YthblghfobnhoeaaW.PrintLast Go.Proofs.Ythblghfobnhoeaa.A
set_option linter.unusedVariables false

set_option maxRecDepth 100000 in
set_option maxHeartbeats 1000000 in
theorem rl4_same (s : ByteArray) (a : Int) (w : World) (hs : s.size ≤ 9223372036854775000) (h0 : 0 ≤ a) (h1 : a + 4 ≤ s.size) :
  Calls Try.prog 54 #[.string s, .int .i64 a, .int .i64 4] w fun e w' => e = .returned (.tuple #[.int .i64 (bt s a + bt s (a + 1) * 256 + bt s (a + 2) * 65536 + bt s (a + 3) * 16777216), .int .i64 0]) ∧ w = w' := by
 go_enter Try.func54, Try.ntmps54
 go_wp2_with (go_at_call 71; refine (up_mk _ _).mono ?_; rintro e w' ⟨rfl, rfl⟩)
 refine (read_up4 _ _ _ hs h0 h1).mono ?_
 rintro e w1 ⟨rfl, rfl⟩
 go_wp2
 go_ret2
 exact ⟨rfl, rfl⟩
set_option maxRecDepth 100000 in
set_option maxHeartbeats 1000000 in
theorem rl2_same (s : ByteArray) (a : Int) (w : World) (hs : s.size ≤ 9223372036854775000) (h0 : 0 ≤ a) (h1 : a + 2 ≤ s.size) :
  Calls Try.prog 54 #[.string s, .int .i64 a, .int .i64 2] w fun e w' => e = .returned (.tuple #[.int .i64 (bt s a + bt s (a + 1) * 256), .int .i64 0]) ∧ w = w' := by
 go_enter Try.func54, Try.ntmps54
 go_wp2_with (go_at_call 71; refine (up_mk _ _).mono ?_; rintro e w' ⟨rfl, rfl⟩)
 refine (read_up2 _ _ _ hs h0 h1).mono ?_
 rintro e w1 ⟨rfl, rfl⟩
 go_wp2
 go_ret2
 exact ⟨rfl, rfl⟩

/-- The numbers of a record. -/
def num4 (s : ByteArray) (a : Int) : Int := bt s a + bt s (a + 1) * 256 + bt s (a + 2) * 65536 + bt s (a + 3) * 16777216
def num2 (s : ByteArray) (a : Int) : Int := bt s a + bt s (a + 1) * 256
theorem number4 (s : ByteArray) (a : Int) (c : Addr) (w : World) (hc : w.cell? c = some (.string s)) (hs : s.size ≤ 9223372036854775000) (h0 : 0 ≤ a) (h1 : a + 4 ≤ s.size) :
  Calls Try.prog 53 #[.int .i64 a, .int .i64 4, .pointer (some c)] w fun e w' => e = .returned (.int .i64 (num4 s a)) ∧ w' = w := by
 go_enter Try.func53, Try.ntmps53
 go_wp2_with (go_at_call 54; refine (rl4_same _ _ _ hs h0 h1).mono ?_; rintro e w' ⟨rfl, rfl⟩)
 go_ret
 exact ⟨rfl, rfl⟩
theorem number2 (s : ByteArray) (a : Int) (c : Addr) (w : World) (hc : w.cell? c = some (.string s)) (hs : s.size ≤ 9223372036854775000) (h0 : 0 ≤ a) (h1 : a + 2 ≤ s.size) :
  Calls Try.prog 53 #[.int .i64 a, .int .i64 2, .pointer (some c)] w fun e w' => e = .returned (.int .i64 (num2 s a)) ∧ w' = w := by
 go_enter Try.func53, Try.ntmps53
 go_wp2_with (go_at_call 54; refine (rl2_same _ _ _ hs h0 h1).mono ?_; rintro e w' ⟨rfl, rfl⟩)
 go_ret
 exact ⟨rfl, rfl⟩

def numK (s : ByteArray) (a k : Int) : Int := if k = 4 then num4 s a else num2 s a
theorem number_any (s : ByteArray) (a k : Int) (c : Addr) (w : World) (hc : w.cell? c = some (.string s)) (hs : s.size ≤ 9223372036854775000) (h0 : 0 ≤ a) (h1 : a + k ≤ s.size) (hk : k = 4 ∨ k = 2) :
  Calls Try.prog 53 #[.int .i64 a, .int .i64 k, .pointer (some c)] w fun e w' => e = .returned (.int .i64 (numK s a k)) ∧ w' = w := by
 unfold numK
 rcases hk with rfl | rfl
 ·rw [if_pos rfl]
  exact number4 s a c w hc hs h0 h1
 ·rw [if_neg (by omega)]
  exact number2 s a c w hc hs h0 h1

/-- dirrecord.padded, at a small number. -/
def padE (n : Int) : Int := (34 + n) / 2 * 2
theorem padded_any (n : Int) (w : World) (h0 : 0 ≤ n) (h1 : n ≤ 255) : Calls Try.prog 51 #[.int .i64 n] w fun e w' => e = .returned (.int .i64 (padE n)) ∧ w' = w := by
 go_enter Try.func51, Try.ntmps51
 go_wp2
 go_ret
 refine ⟨congrArg (fun z => Ending.returned (.int .i64 z)) ?_, rfl⟩
 show _ = padE n
 unfold padE
 omega

theorem blk_put8 {w : World} {g : Nat} {t : TypeId} {c0 c1 c2 c3 c4 c5 c6 c7 : Value} (h : w.heap[g]? = some (.cells #[c0, c1, c2, c3, c4, c5, c6, c7] t (0, 0))) (v0 v1 v2 v3 v4 v5 v6 v7 : Value) :
  ((((((((w.setCell ⟨g, 0, none⟩ v0).setCell ⟨g, 1, none⟩ v1).setCell ⟨g, 2, none⟩ v2).setCell ⟨g, 3, none⟩ v3).setCell ⟨g, 4, none⟩ v4).setCell ⟨g, 5, none⟩ v5).setCell ⟨g, 6, none⟩ v6).setCell ⟨g, 7, none⟩ v7).heap[g]? = some (.cells #[v0, v1, v2, v3, v4, v5, v6, v7] t (0, 0)) := by
 have h1 : (w.setCell ⟨g, 0, none⟩ v0).heap[g]? = some (.cells #[v0, c1, c2, c3, c4, c5, c6, c7] t (0, 0)) := blk_put h 0 v0 rfl
 have h2 : ((w.setCell ⟨g, 0, none⟩ v0).setCell ⟨g, 1, none⟩ v1).heap[g]? = some (.cells #[v0, v1, c2, c3, c4, c5, c6, c7] t (0, 0)) := blk_put h1 1 v1 rfl
 have h3 : (((w.setCell ⟨g, 0, none⟩ v0).setCell ⟨g, 1, none⟩ v1).setCell ⟨g, 2, none⟩ v2).heap[g]? = some (.cells #[v0, v1, v2, c3, c4, c5, c6, c7] t (0, 0)) := blk_put h2 2 v2 rfl
 have h4 : ((((w.setCell ⟨g, 0, none⟩ v0).setCell ⟨g, 1, none⟩ v1).setCell ⟨g, 2, none⟩ v2).setCell ⟨g, 3, none⟩ v3).heap[g]? = some (.cells #[v0, v1, v2, v3, c4, c5, c6, c7] t (0, 0)) := blk_put h3 3 v3 rfl
 have h5 : (((((w.setCell ⟨g, 0, none⟩ v0).setCell ⟨g, 1, none⟩ v1).setCell ⟨g, 2, none⟩ v2).setCell ⟨g, 3, none⟩ v3).setCell ⟨g, 4, none⟩ v4).heap[g]? = some (.cells #[v0, v1, v2, v3, v4, c5, c6, c7] t (0, 0)) := blk_put h4 4 v4 rfl
 have h6 : ((((((w.setCell ⟨g, 0, none⟩ v0).setCell ⟨g, 1, none⟩ v1).setCell ⟨g, 2, none⟩ v2).setCell ⟨g, 3, none⟩ v3).setCell ⟨g, 4, none⟩ v4).setCell ⟨g, 5, none⟩ v5).heap[g]? = some (.cells #[v0, v1, v2, v3, v4, v5, c6, c7] t (0, 0)) := blk_put h5 5 v5 rfl
 have h7 : (((((((w.setCell ⟨g, 0, none⟩ v0).setCell ⟨g, 1, none⟩ v1).setCell ⟨g, 2, none⟩ v2).setCell ⟨g, 3, none⟩ v3).setCell ⟨g, 4, none⟩ v4).setCell ⟨g, 5, none⟩ v5).setCell ⟨g, 6, none⟩ v6).heap[g]? = some (.cells #[v0, v1, v2, v3, v4, v5, v6, c7] t (0, 0)) := blk_put h6 6 v6 rfl
 have h8 : ((((((((w.setCell ⟨g, 0, none⟩ v0).setCell ⟨g, 1, none⟩ v1).setCell ⟨g, 2, none⟩ v2).setCell ⟨g, 3, none⟩ v3).setCell ⟨g, 4, none⟩ v4).setCell ⟨g, 5, none⟩ v5).setCell ⟨g, 6, none⟩ v6).setCell ⟨g, 7, none⟩ v7).heap[g]? = some (.cells #[v0, v1, v2, v3, v4, v5, v6, v7] t (0, 0)) := blk_put h7 7 v7 rfl
 exact h8
theorem below_put8 {B : Nat} {w0 w : World} {g : Nat} (h : Below B w0 w) (hg : B ≤ g) (v0 v1 v2 v3 v4 v5 v6 v7 : Value) :
  Below B w0 ((((((((w.setCell ⟨g, 0, none⟩ v0).setCell ⟨g, 1, none⟩ v1).setCell ⟨g, 2, none⟩ v2).setCell ⟨g, 3, none⟩ v3).setCell ⟨g, 4, none⟩ v4).setCell ⟨g, 5, none⟩ v5).setCell ⟨g, 6, none⟩ v6).setCell ⟨g, 7, none⟩ v7) := by
 refine Below.setCell (p := ⟨g, 7, none⟩) ?_ hg _
 refine Below.setCell (p := ⟨g, 6, none⟩) ?_ hg _
 refine Below.setCell (p := ⟨g, 5, none⟩) ?_ hg _
 refine Below.setCell (p := ⟨g, 4, none⟩) ?_ hg _
 refine Below.setCell (p := ⟨g, 3, none⟩) ?_ hg _
 refine Below.setCell (p := ⟨g, 2, none⟩) ?_ hg _
 refine Below.setCell (p := ⟨g, 1, none⟩) ?_ hg _
 refine Below.setCell (p := ⟨g, 0, none⟩) ?_ hg _
 exact h

/-- What dirrecord.Decode tells of a record. -/
abbrev decAgg (s : ByteArray) (t z : Int) : Array Value :=
 #[.string (s.extract 33 (33 + bt s 32).toNat), .int .i64 (numK s 2 4), .int .i64 (numK s 10 4), .int .i64 t, .int .i64 z, .int .i64 (bt s 25), .int .i64 (numK s 28 2), .string (s.extract (padE (bt s 32)).toNat (bt s 0).toNat)]

end Go.Proofs.Ythblghfobnhoeaa.H
namespace Go.Proofs.Ythblghfobnhoeaa.H
open Go.RowKit Go.Proofs.YthblghfobnhoeaaW.PrintWords Go.Proofs.YthblghfobnhoeaaW.PrintLast Go.Proofs.Ythblghfobnhoeaa.A
set_option linter.unusedVariables false

abbrev zeroRec : Array Value := #[.string ⟨#[]⟩, .int .i64 0, .int .i64 0, .int .i64 0, .int .i64 0, .int .i64 0, .int .i64 0, .string ⟨#[]⟩]
theorem new2 (w : World) (o : Obj) (c : Array Value) (t : TypeId) : ((w.alloc o).alloc (.cells c t)).heap[w.heap.size + 1]? = some (.cells c t (0, 0)) := by
 show ((w.heap.push _).push _)[w.heap.size + 1]? = _
 rw [Array.getElem?_push, if_pos (by simp)]
theorem below2 (w : World) (o o2 : Obj) : Below w.heap.size w ((w.alloc o).alloc o2) := ((Below.refl _ w).alloc (Nat.le_refl _) o).alloc (by simp) o2

set_option maxRecDepth 100000 in
set_option maxHeartbeats 8000000 in
theorem decode_short (s : ByteArray) (w : World) (hs : s.size ≤ 9223372036854775000) (h34 : s.size < 34) :
  Calls Try.prog 26 #[.string s] w fun e w' => e = .returned (.tuple #[.agg zeroRec, .int .i64 0, .int .i64 10]) ∧ Below w.heap.size w w' := by
 have l0 : decide ((s.size : Int) < 34) = true := decide_eq_true (by omega)
 go_enter Try.func26, Try.ntmps26
 go_wp2
 refine bodyPost_ret (results_ctt rfl _ _ (w.heap.size + 1) 31 zeroRec (0, 0) _ rfl ?_ Try.underlying31 rfl (by kernel_rfl)) rfl ⟨rfl, ?_⟩
 ·first | exact new2 _ _ _ _ | exact blk_drewN (new2 _ _ _ _) _ | exact blk_put8 (new2 _ _ _ _) _ _ _ _ _ _ _ _ | exact blk_drewN (blk_put8 (new2 _ _ _ _) _ _ _ _ _ _ _ _) _ | exact blk_put8 (blk_drewN (new2 _ _ _ _) _) _ _ _ _ _ _ _ _
 ·first | exact below2 _ _ _ | exact below_drewN (below2 _ _ _) _ | exact below_put8 (below2 _ _ _) (by omega) _ _ _ _ _ _ _ _ | exact below_drewN (below_put8 (below2 _ _ _) (by omega) _ _ _ _ _ _ _ _) _ | exact below_put8 (below_drewN (below2 _ _ _) _) (by omega) _ _ _ _ _ _ _ _

set_option maxRecDepth 100000 in
set_option maxHeartbeats 8000000 in
theorem decode_bad0 (s : ByteArray) (w : World) (hs : s.size ≤ 9223372036854775000) (h34 : 34 ≤ s.size)  (q0 : (bt s 0 % 2 != 0) = true) :
  Calls Try.prog 26 #[.string s] w fun e w' => e = .returned (.tuple #[.agg zeroRec, .int .i64 0, .int .i64 10]) ∧ Below w.heap.size w w' := by
 have b0 := bt_range s 0
 have b32 := bt_range s 32
 have hx0 : ∀ h : 0 < s.size, ((s[0]'h).toNat : Int) = bt s 0 := bt_at s 0
 have hx32 : ∀ h : 32 < s.size, ((s[32]'h).toNat : Int) = bt s 32 := bt_at s 32
 have hx1 : ∀ h : 1 < s.size, ((s[1]'h).toNat : Int) = bt s 1 := bt_at s 1
 have hx26 : ∀ h : 26 < s.size, ((s[26]'h).toNat : Int) = bt s 26 := bt_at s 26
 have hx27 : ∀ h : 27 < s.size, ((s[27]'h).toNat : Int) = bt s 27 := bt_at s 27
 have l0 : (34 : Int) ≤ (s.size : Int) := by omega
 go_enter Try.func26, Try.ntmps26
 go_wp2
 go_quiet (fail)
 go_wp2_with (go_at_call 51; refine (padded_any _ _ (by omega) (by omega)).mono ?_; rintro e w' ⟨rfl, rfl⟩)
 refine bodyPost_ret (results_ctt rfl _ _ (w.heap.size + 1) 31 zeroRec (0, 0) _ rfl ?_ Try.underlying31 rfl (by kernel_rfl)) rfl ⟨rfl, ?_⟩
 ·exact blk_put8 (blk_drewN (new2 _ _ _ _) _) _ _ _ _ _ _ _ _
 ·exact below_put8 (below_drewN (below2 _ _ _) _) (by omega) _ _ _ _ _ _ _ _

set_option maxRecDepth 100000 in
set_option maxHeartbeats 8000000 in
theorem decode_bad1 (s : ByteArray) (w : World) (hs : s.size ≤ 9223372036854775000) (h34 : 34 ≤ s.size) (q0 : (bt s 0 % 2 != 0) = false) (q1 : decide (bt s 0 < 34) = true) :
  Calls Try.prog 26 #[.string s] w fun e w' => e = .returned (.tuple #[.agg zeroRec, .int .i64 0, .int .i64 10]) ∧ Below w.heap.size w w' := by
 have b0 := bt_range s 0
 have b32 := bt_range s 32
 have hx0 : ∀ h : 0 < s.size, ((s[0]'h).toNat : Int) = bt s 0 := bt_at s 0
 have hx32 : ∀ h : 32 < s.size, ((s[32]'h).toNat : Int) = bt s 32 := bt_at s 32
 have hx1 : ∀ h : 1 < s.size, ((s[1]'h).toNat : Int) = bt s 1 := bt_at s 1
 have hx26 : ∀ h : 26 < s.size, ((s[26]'h).toNat : Int) = bt s 26 := bt_at s 26
 have hx27 : ∀ h : 27 < s.size, ((s[27]'h).toNat : Int) = bt s 27 := bt_at s 27
 have l0 : (34 : Int) ≤ (s.size : Int) := by omega
 go_enter Try.func26, Try.ntmps26
 go_wp2
 go_quiet (fail)
 go_wp2_with (go_at_call 51; refine (padded_any _ _ (by omega) (by omega)).mono ?_; rintro e w' ⟨rfl, rfl⟩)
 refine bodyPost_ret (results_ctt rfl _ _ (w.heap.size + 1) 31 zeroRec (0, 0) _ rfl ?_ Try.underlying31 rfl (by kernel_rfl)) rfl ⟨rfl, ?_⟩
 ·exact blk_put8 (blk_drewN (new2 _ _ _ _) _) _ _ _ _ _ _ _ _
 ·exact below_put8 (below_drewN (below2 _ _ _) _) (by omega) _ _ _ _ _ _ _ _

set_option maxRecDepth 100000 in
set_option maxHeartbeats 8000000 in
theorem decode_bad2 (s : ByteArray) (w : World) (hs : s.size ≤ 9223372036854775000) (h34 : 34 ≤ s.size) (q0 : (bt s 0 % 2 != 0) = false) (q1 : decide (bt s 0 < 34) = false) (q2 : decide ((s.size : Int) < bt s 0) = true) :
  Calls Try.prog 26 #[.string s] w fun e w' => e = .returned (.tuple #[.agg zeroRec, .int .i64 0, .int .i64 10]) ∧ Below w.heap.size w w' := by
 have b0 := bt_range s 0
 have b32 := bt_range s 32
 have hx0 : ∀ h : 0 < s.size, ((s[0]'h).toNat : Int) = bt s 0 := bt_at s 0
 have hx32 : ∀ h : 32 < s.size, ((s[32]'h).toNat : Int) = bt s 32 := bt_at s 32
 have hx1 : ∀ h : 1 < s.size, ((s[1]'h).toNat : Int) = bt s 1 := bt_at s 1
 have hx26 : ∀ h : 26 < s.size, ((s[26]'h).toNat : Int) = bt s 26 := bt_at s 26
 have hx27 : ∀ h : 27 < s.size, ((s[27]'h).toNat : Int) = bt s 27 := bt_at s 27
 have l0 : (34 : Int) ≤ (s.size : Int) := by omega
 go_enter Try.func26, Try.ntmps26
 go_wp2
 go_quiet (fail)
 go_wp2_with (go_at_call 51; refine (padded_any _ _ (by omega) (by omega)).mono ?_; rintro e w' ⟨rfl, rfl⟩)
 refine bodyPost_ret (results_ctt rfl _ _ (w.heap.size + 1) 31 zeroRec (0, 0) _ rfl ?_ Try.underlying31 rfl (by kernel_rfl)) rfl ⟨rfl, ?_⟩
 ·exact blk_put8 (blk_drewN (new2 _ _ _ _) _) _ _ _ _ _ _ _ _
 ·exact below_put8 (below_drewN (below2 _ _ _) _) (by omega) _ _ _ _ _ _ _ _

set_option maxRecDepth 100000 in
set_option maxHeartbeats 8000000 in
theorem decode_bad3 (s : ByteArray) (w : World) (hs : s.size ≤ 9223372036854775000) (h34 : 34 ≤ s.size) (q0 : (bt s 0 % 2 != 0) = false) (q1 : decide (bt s 0 < 34) = false) (q2 : decide ((s.size : Int) < bt s 0) = false) (q3 : (bt s 32 == 0) = true) :
  Calls Try.prog 26 #[.string s] w fun e w' => e = .returned (.tuple #[.agg zeroRec, .int .i64 0, .int .i64 10]) ∧ Below w.heap.size w w' := by
 have b0 := bt_range s 0
 have b32 := bt_range s 32
 have hx0 : ∀ h : 0 < s.size, ((s[0]'h).toNat : Int) = bt s 0 := bt_at s 0
 have hx32 : ∀ h : 32 < s.size, ((s[32]'h).toNat : Int) = bt s 32 := bt_at s 32
 have hx1 : ∀ h : 1 < s.size, ((s[1]'h).toNat : Int) = bt s 1 := bt_at s 1
 have hx26 : ∀ h : 26 < s.size, ((s[26]'h).toNat : Int) = bt s 26 := bt_at s 26
 have hx27 : ∀ h : 27 < s.size, ((s[27]'h).toNat : Int) = bt s 27 := bt_at s 27
 have l0 : (34 : Int) ≤ (s.size : Int) := by omega
 go_enter Try.func26, Try.ntmps26
 go_wp2
 go_quiet (fail)
 go_wp2_with (go_at_call 51; refine (padded_any _ _ (by omega) (by omega)).mono ?_; rintro e w' ⟨rfl, rfl⟩)
 refine bodyPost_ret (results_ctt rfl _ _ (w.heap.size + 1) 31 zeroRec (0, 0) _ rfl ?_ Try.underlying31 rfl (by kernel_rfl)) rfl ⟨rfl, ?_⟩
 ·exact blk_put8 (blk_drewN (new2 _ _ _ _) _) _ _ _ _ _ _ _ _
 ·exact below_put8 (below_drewN (below2 _ _ _) _) (by omega) _ _ _ _ _ _ _ _

set_option maxRecDepth 100000 in
set_option maxHeartbeats 8000000 in
theorem decode_bad4 (s : ByteArray) (w : World) (hs : s.size ≤ 9223372036854775000) (h34 : 34 ≤ s.size) (q0 : (bt s 0 % 2 != 0) = false) (q1 : decide (bt s 0 < 34) = false) (q2 : decide ((s.size : Int) < bt s 0) = false) (q3 : (bt s 32 == 0) = false) (q4 : decide (bt s 0 < padE (bt s 32)) = true) :
  Calls Try.prog 26 #[.string s] w fun e w' => e = .returned (.tuple #[.agg zeroRec, .int .i64 0, .int .i64 10]) ∧ Below w.heap.size w w' := by
 have b0 := bt_range s 0
 have b32 := bt_range s 32
 have hx0 : ∀ h : 0 < s.size, ((s[0]'h).toNat : Int) = bt s 0 := bt_at s 0
 have hx32 : ∀ h : 32 < s.size, ((s[32]'h).toNat : Int) = bt s 32 := bt_at s 32
 have hx1 : ∀ h : 1 < s.size, ((s[1]'h).toNat : Int) = bt s 1 := bt_at s 1
 have hx26 : ∀ h : 26 < s.size, ((s[26]'h).toNat : Int) = bt s 26 := bt_at s 26
 have hx27 : ∀ h : 27 < s.size, ((s[27]'h).toNat : Int) = bt s 27 := bt_at s 27
 have l0 : (34 : Int) ≤ (s.size : Int) := by omega
 go_enter Try.func26, Try.ntmps26
 go_wp2
 go_quiet (fail)
 go_wp2_with (go_at_call 51; refine (padded_any _ _ (by omega) (by omega)).mono ?_; rintro e w' ⟨rfl, rfl⟩)
 refine bodyPost_ret (results_ctt rfl _ _ (w.heap.size + 1) 31 zeroRec (0, 0) _ rfl ?_ Try.underlying31 rfl (by kernel_rfl)) rfl ⟨rfl, ?_⟩
 ·exact blk_put8 (blk_drewN (new2 _ _ _ _) _) _ _ _ _ _ _ _ _
 ·exact below_put8 (below_drewN (below2 _ _ _) _) (by omega) _ _ _ _ _ _ _ _

set_option maxRecDepth 100000 in
set_option maxHeartbeats 8000000 in
theorem decode_uns0 (s : ByteArray) (w : World) (hs : s.size ≤ 9223372036854775000) (h34 : 34 ≤ s.size) (q0 : (bt s 0 % 2 != 0) = false) (q1 : decide (bt s 0 < 34) = false) (q2 : decide ((s.size : Int) < bt s 0) = false) (q3 : (bt s 32 == 0) = false) (q4 : decide (bt s 0 < padE (bt s 32)) = false)  (p0 : (bt s 1 != 0) = true) :
  Calls Try.prog 26 #[.string s] w fun e w' => e = .returned (.tuple #[.agg zeroRec, .int .i64 0, .int .i64 14]) ∧ Below w.heap.size w w' := by
 have b0 := bt_range s 0
 have b32 := bt_range s 32
 have hx0 : ∀ h : 0 < s.size, ((s[0]'h).toNat : Int) = bt s 0 := bt_at s 0
 have hx32 : ∀ h : 32 < s.size, ((s[32]'h).toNat : Int) = bt s 32 := bt_at s 32
 have hx1 : ∀ h : 1 < s.size, ((s[1]'h).toNat : Int) = bt s 1 := bt_at s 1
 have hx26 : ∀ h : 26 < s.size, ((s[26]'h).toNat : Int) = bt s 26 := bt_at s 26
 have hx27 : ∀ h : 27 < s.size, ((s[27]'h).toNat : Int) = bt s 27 := bt_at s 27
 have l0 : (34 : Int) ≤ (s.size : Int) := by omega
 go_enter Try.func26, Try.ntmps26
 go_wp2
 go_quiet (fail)
 go_wp2_with (go_at_call 51; refine (padded_any _ _ (by omega) (by omega)).mono ?_; rintro e w' ⟨rfl, rfl⟩)
 refine bodyPost_ret (results_ctt rfl _ _ (w.heap.size + 1) 31 zeroRec (0, 0) _ rfl ?_ Try.underlying31 rfl (by kernel_rfl)) rfl ⟨rfl, ?_⟩
 ·exact blk_put8 (blk_drewN (new2 _ _ _ _) _) _ _ _ _ _ _ _ _
 ·exact below_put8 (below_drewN (below2 _ _ _) _) (by omega) _ _ _ _ _ _ _ _

set_option maxRecDepth 100000 in
set_option maxHeartbeats 8000000 in
theorem decode_uns1 (s : ByteArray) (w : World) (hs : s.size ≤ 9223372036854775000) (h34 : 34 ≤ s.size) (q0 : (bt s 0 % 2 != 0) = false) (q1 : decide (bt s 0 < 34) = false) (q2 : decide ((s.size : Int) < bt s 0) = false) (q3 : (bt s 32 == 0) = false) (q4 : decide (bt s 0 < padE (bt s 32)) = false) (p0 : (bt s 1 != 0) = false) (p1 : (bt s 26 != 0) = true) :
  Calls Try.prog 26 #[.string s] w fun e w' => e = .returned (.tuple #[.agg zeroRec, .int .i64 0, .int .i64 14]) ∧ Below w.heap.size w w' := by
 have b0 := bt_range s 0
 have b32 := bt_range s 32
 have hx0 : ∀ h : 0 < s.size, ((s[0]'h).toNat : Int) = bt s 0 := bt_at s 0
 have hx32 : ∀ h : 32 < s.size, ((s[32]'h).toNat : Int) = bt s 32 := bt_at s 32
 have hx1 : ∀ h : 1 < s.size, ((s[1]'h).toNat : Int) = bt s 1 := bt_at s 1
 have hx26 : ∀ h : 26 < s.size, ((s[26]'h).toNat : Int) = bt s 26 := bt_at s 26
 have hx27 : ∀ h : 27 < s.size, ((s[27]'h).toNat : Int) = bt s 27 := bt_at s 27
 have l0 : (34 : Int) ≤ (s.size : Int) := by omega
 go_enter Try.func26, Try.ntmps26
 go_wp2
 go_quiet (fail)
 go_wp2_with (go_at_call 51; refine (padded_any _ _ (by omega) (by omega)).mono ?_; rintro e w' ⟨rfl, rfl⟩)
 refine bodyPost_ret (results_ctt rfl _ _ (w.heap.size + 1) 31 zeroRec (0, 0) _ rfl ?_ Try.underlying31 rfl (by kernel_rfl)) rfl ⟨rfl, ?_⟩
 ·exact blk_put8 (blk_drewN (new2 _ _ _ _) _) _ _ _ _ _ _ _ _
 ·exact below_put8 (below_drewN (below2 _ _ _) _) (by omega) _ _ _ _ _ _ _ _

set_option maxRecDepth 100000 in
set_option maxHeartbeats 8000000 in
theorem decode_uns2 (s : ByteArray) (w : World) (hs : s.size ≤ 9223372036854775000) (h34 : 34 ≤ s.size) (q0 : (bt s 0 % 2 != 0) = false) (q1 : decide (bt s 0 < 34) = false) (q2 : decide ((s.size : Int) < bt s 0) = false) (q3 : (bt s 32 == 0) = false) (q4 : decide (bt s 0 < padE (bt s 32)) = false) (p0 : (bt s 1 != 0) = false) (p1 : (bt s 26 != 0) = false) (p2 : (bt s 27 != 0) = true) :
  Calls Try.prog 26 #[.string s] w fun e w' => e = .returned (.tuple #[.agg zeroRec, .int .i64 0, .int .i64 14]) ∧ Below w.heap.size w w' := by
 have b0 := bt_range s 0
 have b32 := bt_range s 32
 have hx0 : ∀ h : 0 < s.size, ((s[0]'h).toNat : Int) = bt s 0 := bt_at s 0
 have hx32 : ∀ h : 32 < s.size, ((s[32]'h).toNat : Int) = bt s 32 := bt_at s 32
 have hx1 : ∀ h : 1 < s.size, ((s[1]'h).toNat : Int) = bt s 1 := bt_at s 1
 have hx26 : ∀ h : 26 < s.size, ((s[26]'h).toNat : Int) = bt s 26 := bt_at s 26
 have hx27 : ∀ h : 27 < s.size, ((s[27]'h).toNat : Int) = bt s 27 := bt_at s 27
 have l0 : (34 : Int) ≤ (s.size : Int) := by omega
 go_enter Try.func26, Try.ntmps26
 go_wp2
 go_quiet (fail)
 go_wp2_with (go_at_call 51; refine (padded_any _ _ (by omega) (by omega)).mono ?_; rintro e w' ⟨rfl, rfl⟩)
 refine bodyPost_ret (results_ctt rfl _ _ (w.heap.size + 1) 31 zeroRec (0, 0) _ rfl ?_ Try.underlying31 rfl (by kernel_rfl)) rfl ⟨rfl, ?_⟩
 ·exact blk_put8 (blk_drewN (new2 _ _ _ _) _) _ _ _ _ _ _ _ _
 ·exact below_put8 (below_drewN (below2 _ _ _) _) (by omega) _ _ _ _ _ _ _ _

set_option maxRecDepth 100000 in
set_option maxHeartbeats 8000000 in
theorem decode_date (k : Nat) (s : ByteArray) (t z e : Int) (w : World) (hs : s.size ≤ 9223372036854775000) (h34 : 34 ≤ s.size) (q0 : (bt s 0 % 2 != 0) = false) (q1 : decide (bt s 0 < 34) = false) (q2 : decide ((s.size : Int) < bt s 0) = false) (q3 : (bt s 32 == 0) = false) (q4 : decide (bt s 0 < padE (bt s 32)) = false) (p0 : (bt s 1 != 0) = false) (p1 : (bt s 26 != 0) = false) (p2 : (bt s 27 != 0) = false) (hr : datetime_ReadRecord.f k (s.extract 18 25) = some (t, z, e)) (he : (e != 0) = true) :
  Calls Try.prog 26 #[.string s] w fun ev w' => ev = .returned (.tuple #[.agg zeroRec, .int .i64 0, .int .i64 e]) ∧ Below w.heap.size w w' := by
 have HR := Lib.hid hr
 clear hr
 have b0 := bt_range s 0
 have b32 := bt_range s 32
 have hx0 : ∀ h : 0 < s.size, ((s[0]'h).toNat : Int) = bt s 0 := bt_at s 0
 have hx32 : ∀ h : 32 < s.size, ((s[32]'h).toNat : Int) = bt s 32 := bt_at s 32
 have hx1 : ∀ h : 1 < s.size, ((s[1]'h).toNat : Int) = bt s 1 := bt_at s 1
 have hx26 : ∀ h : 26 < s.size, ((s[26]'h).toNat : Int) = bt s 26 := bt_at s 26
 have hx27 : ∀ h : 27 < s.size, ((s[27]'h).toNat : Int) = bt s 27 := bt_at s 27
 have l0 : (34 : Int) ≤ (s.size : Int) := by omega
 go_enter Try.func26, Try.ntmps26
 go_wp2
 go_quiet (fail)
 go_wp2_with (go_at_call 51; refine (padded_any _ _ (by omega) (by omega)).mono ?_; rintro e w' ⟨rfl, rfl⟩)
 refine (datetime_ReadRecord.calls k _ _ _ _ _ HR.out).mono ?_
 rintro ev w1 ⟨rfl, hb⟩
 have hR : w1.heap[w.heap.size + 1]? = some (.cells zeroRec 31 (0, 0)) := by
  rw [hb.block _ (by simp [World.drewN])]
  exact new2 w (.cells #[.string s] 9) zeroRec 31
 have hbe : Below w.heap.size w w1 := Below.trans (below_drewN (below2 w (.cells #[.string s] 9) (.cells zeroRec 31)) _) (hb.mono (by simp [World.drewN]; omega))
 have d0 : w1.cell? ⟨w.heap.size + 1, 0, none⟩ = some (.string ⟨#[]⟩) := by simp [World.cell?, hR]
 have d1 : w1.cell? ⟨w.heap.size + 1, 1, none⟩ = some (.int .i64 0) := by simp [World.cell?, hR]
 have d2 : w1.cell? ⟨w.heap.size + 1, 2, none⟩ = some (.int .i64 0) := by simp [World.cell?, hR]
 have d3 : w1.cell? ⟨w.heap.size + 1, 3, none⟩ = some (.int .i64 0) := by simp [World.cell?, hR]
 have d4 : w1.cell? ⟨w.heap.size + 1, 4, none⟩ = some (.int .i64 0) := by simp [World.cell?, hR]
 have d5 : w1.cell? ⟨w.heap.size + 1, 5, none⟩ = some (.int .i64 0) := by simp [World.cell?, hR]
 have d6 : w1.cell? ⟨w.heap.size + 1, 6, none⟩ = some (.int .i64 0) := by simp [World.cell?, hR]
 have d7 : w1.cell? ⟨w.heap.size + 1, 7, none⟩ = some (.string ⟨#[]⟩) := by simp [World.cell?, hR]
 have f0 : ∀ j, w1.frozen? ⟨w.heap.size + 1, j, none⟩ = false := by intro j; simp [World.frozen?, hR]
 have HB := Lib.hid hbe
 have HR8 := Lib.hid hR
 clear hb hR hbe
 go_wp2
 refine bodyPost_ret (results_ctt rfl _ _ (w.heap.size + 1) 31 zeroRec (0, 0) _ rfl ?_ Try.underlying31 rfl (by kernel_rfl)) rfl ⟨rfl, ?_⟩
 ·exact blk_put8 HR8.out _ _ _ _ _ _ _ _
 ·exact below_put8 HB.out (by omega) _ _ _ _ _ _ _ _

end Go.Proofs.Ythblghfobnhoeaa.H
namespace Go.Proofs.Ythblghfobnhoeaa.H
open Go.RowKit Go.Proofs.YthblghfobnhoeaaW.PrintWords Go.Proofs.YthblghfobnhoeaaW.PrintLast Go.Proofs.Ythblghfobnhoeaa.A
set_option linter.unusedVariables false

set_option maxRecDepth 100000 in
set_option maxHeartbeats 16000000 in
theorem decode_ok (k : Nat) (s : ByteArray) (t z : Int) (w : World) (hs : s.size ≤ 9223372036854775000) (h34 : 34 ≤ s.size)
    (q0 : (bt s 0 % 2 != 0) = false) (q1 : decide (bt s 0 < 34) = false) (q2 : decide ((s.size : Int) < bt s 0) = false) (q3 : (bt s 32 == 0) = false) (q4 : decide (bt s 0 < padE (bt s 32)) = false)
    (p0 : (bt s 1 != 0) = false) (p1 : (bt s 26 != 0) = false) (p2 : (bt s 27 != 0) = false)
    (hr : datetime_ReadRecord.f k (s.extract 18 25) = some (t, z, 0)) :
    Calls Try.prog 26 #[.string s] w fun e w' => e = .returned (.tuple #[.agg (decAgg s t z), .int .i64 (bt s 0), .int .i64 0]) ∧ Below w.heap.size w w' := by
  have HR := Lib.hid hr
  clear hr
  have b0 := bt_range s 0
  have b32 := bt_range s 32
  have hx0 : ∀ h : 0 < s.size, ((s[0]'h).toNat : Int) = bt s 0 := bt_at s 0
  have hx32 : ∀ h : 32 < s.size, ((s[32]'h).toNat : Int) = bt s 32 := bt_at s 32
  have hx1 : ∀ h : 1 < s.size, ((s[1]'h).toNat : Int) = bt s 1 := bt_at s 1
  have hx26 : ∀ h : 26 < s.size, ((s[26]'h).toNat : Int) = bt s 26 := bt_at s 26
  have hx27 : ∀ h : 27 < s.size, ((s[27]'h).toNat : Int) = bt s 27 := bt_at s 27
  have l0 : (34 : Int) ≤ (s.size : Int) := by omega
  have g2 : bt s 0 ≤ (s.size : Int) := by have := of_decide_eq_false q2; omega
  have g4 : padE (bt s 32) ≤ bt s 0 := by have := of_decide_eq_false q4; omega
  have g5 : 33 + bt s 32 ≤ (s.size : Int) := by unfold padE at g4; omega
  have g6 : (0 : Int) ≤ padE (bt s 32) := by unfold padE; omega
  have g7 : (33 : Int) ≤ 33 + bt s 32 := by omega
  have g8 : IntKind.i64.wrap (33 + bt s 32) = 33 + bt s 32 := by rw [IntKind.wrap_i64]; omega
  go_enter Try.func26, Try.ntmps26
  go_wp2
  go_quiet (fail)
  go_wp2_with (go_at_call 51; refine (padded_any _ _ (by omega) (by omega)).mono ?_; rintro e w' ⟨rfl, rfl⟩)
  refine (datetime_ReadRecord.calls k _ _ _ _ _ HR.out).mono ?_
  rintro e w1 ⟨rfl, hb⟩
  have cs : w1.cell? ⟨w.heap.size, 0, none⟩ = some (.string s) := by rw [hb.cell (by simp [World.drewN]; omega)]; go_simp
  have d0 : w1.cell? ⟨w.heap.size + 1, 0, none⟩ = some (.string ⟨#[]⟩) := by rw [hb.cell (by simp [World.drewN])]; go_simp
  have d1 : w1.cell? ⟨w.heap.size + 1, 1, none⟩ = some (.int .i64 0) := by rw [hb.cell (by simp [World.drewN])]; go_simp
  have d2 : w1.cell? ⟨w.heap.size + 1, 2, none⟩ = some (.int .i64 0) := by rw [hb.cell (by simp [World.drewN])]; go_simp
  have d3 : w1.cell? ⟨w.heap.size + 1, 3, none⟩ = some (.int .i64 0) := by rw [hb.cell (by simp [World.drewN])]; go_simp
  have d4 : w1.cell? ⟨w.heap.size + 1, 4, none⟩ = some (.int .i64 0) := by rw [hb.cell (by simp [World.drewN])]; go_simp
  have d5 : w1.cell? ⟨w.heap.size + 1, 5, none⟩ = some (.int .i64 0) := by rw [hb.cell (by simp [World.drewN])]; go_simp
  have d6 : w1.cell? ⟨w.heap.size + 1, 6, none⟩ = some (.int .i64 0) := by rw [hb.cell (by simp [World.drewN])]; go_simp
  have d7 : w1.cell? ⟨w.heap.size + 1, 7, none⟩ = some (.string ⟨#[]⟩) := by rw [hb.cell (by simp [World.drewN])]; go_simp
  have f0 : ∀ j, w1.frozen? ⟨w.heap.size + 1, j, none⟩ = false := by intro j; rw [hb.frozen (by simp [World.drewN])]; go_simp
  have hR : w1.heap[w.heap.size + 1]? = some (.cells #[.string ⟨#[]⟩, .int .i64 0, .int .i64 0, .int .i64 0, .int .i64 0, .int .i64 0, .int .i64 0, .string ⟨#[]⟩] 31 (0, 0)) := by
    rw [hb.block _ (by simp [World.drewN])]
    show ((w.heap.push _).push _)[w.heap.size + 1]? = _
    rw [Array.getElem?_push, if_pos (by simp)]
  have hbe : Below w.heap.size w w1 := by
    refine Below.trans (below_drewN (((Below.refl _ w).alloc (Nat.le_refl _) (.cells #[.string s] 9)).alloc (by simp) (.cells #[.string ⟨#[]⟩, .int .i64 0, .int .i64 0, .int .i64 0, .int .i64 0, .int .i64 0, .int .i64 0, .string ⟨#[]⟩] 31)) _) (hb.mono (by simp [World.drewN]; omega))
  have HB := Lib.hid hbe
  have HR8 := Lib.hid hR
  have hx25 : ∀ h : 25 < s.size, ((s[25]'h).toNat : Int) = bt s 25 := bt_at s 25
  have b25 := bt_range s 25
  clear hb hR hbe
  go_wp2
  go_region_held3 (fun w' => w'.cell? ⟨w.heap.size, 0, none⟩ = some (.string s)) (first | go_keep | assumption)
    (first | (go_at_call 53; refine (number_any s _ _ _ _ (by assumption) hs (by omega) (by omega) (by omega)).mono ?_; rintro e w' ⟨rfl, rfl⟩) | (go_at_call 51; refine (padded_any _ _ (by omega) (by omega)).mono ?_; rintro e w' ⟨rfl, rfl⟩))
  all_goals (have g25 : IntKind.i64.wrap (bt s 25) = bt s 25 := by rw [IntKind.wrap_i64]; omega)
  all_goals (rename_i K hK h25 hH; refine hK _ _ (wp_ret ?_))
  all_goals rw [g25]
  all_goals refine bodyPost_ret (results_ctt rfl _ _ (w.heap.size + 1) 31 (decAgg s t z) (0, 0) _ rfl ?_ Try.underlying31 rfl (by kernel_rfl)) rfl ⟨rfl, ?_⟩
  all_goals first | exact blk_drew (blk_put8 HR8.out _ _ _ _ _ _ _ _) | exact (below_put8 HB.out (by omega) _ _ _ _ _ _ _ _).drew

end Go.Proofs.Ythblghfobnhoeaa.H
namespace Go.Proofs.Ythblghfobnhoeaa.H
open Go.RowKit Go.Proofs.YthblghfobnhoeaaW.PrintWords Go.Proofs.YthblghfobnhoeaaW.PrintLast Go.Proofs.Ythblghfobnhoeaa.A
set_option linter.unusedVariables false

/-- dirrecord.Decode. -/
def dirrecord_Decode.f (k : Nat) (s : ByteArray) : Option (ByteArray × Int × Int × Int × Int × Int × Int × ByteArray × Int × Int) :=
 if s.size ≤ 9223372036854775000 then
  if s.size < 34 then some ((⟨#[]⟩ : ByteArray), 0, 0, 0, 0, 0, 0, (⟨#[]⟩ : ByteArray), 0, 10)
  else if (bt s 0 % 2 != 0) || (decide (bt s 0 < 34) || (decide ((s.size : Int) < bt s 0) || ((bt s 32 == 0) || decide (bt s 0 < padE (bt s 32))))) then some ((⟨#[]⟩ : ByteArray), 0, 0, 0, 0, 0, 0, (⟨#[]⟩ : ByteArray), 0, 10)
  else if (bt s 1 != 0) || ((bt s 26 != 0) || (bt s 27 != 0)) then some ((⟨#[]⟩ : ByteArray), 0, 0, 0, 0, 0, 0, (⟨#[]⟩ : ByteArray), 0, 14)
  else (datetime_ReadRecord.f k (s.extract 18 25)).bind fun d =>
   if d.2.2 = 0 then some (s.extract 33 (33 + bt s 32).toNat, numK s 2 4, numK s 10 4, d.1, d.2.1, bt s 25, numK s 28 2, s.extract (padE (bt s 32)).toNat (bt s 0).toNat, bt s 0, 0)
   else some ((⟨#[]⟩ : ByteArray), 0, 0, 0, 0, 0, 0, (⟨#[]⟩ : ByteArray), 0, d.2.2)
 else none
theorem dirrecord_Decode.calls (k : Nat) (s : ByteArray) (r1 : ByteArray) (r2 r3 r4 r5 r6 r7 : Int) (r8 : ByteArray) (r9 r10 : Int) (w : World) (h : dirrecord_Decode.f k s = some (r1, r2, r3, r4, r5, r6, r7, r8, r9, r10)) :
  Calls Try.prog 26 #[.string s] w fun e w' => e = .returned (.tuple #[.agg #[.string r1, .int .i64 r2, .int .i64 r3, .int .i64 r4, .int .i64 r5, .int .i64 r6, .int .i64 r7, .string r8], .int .i64 r9, .int .i64 r10]) ∧ Below w.heap.size w w' := by
 unfold dirrecord_Decode.f at h
 by_cases hs : s.size ≤ 9223372036854775000
 ·rw [if_pos hs] at h
  by_cases h34 : s.size < 34
  ·rw [if_pos h34] at h
   simp only [Option.some.injEq, Prod.mk.injEq] at h
   obtain ⟨rfl, rfl, rfl, rfl, rfl, rfl, rfl, rfl, rfl, rfl⟩ := h
   exact decode_short s w hs h34
  ·rw [if_neg h34] at h
   replace h34 : 34 ≤ s.size := by omega
   cases q0 : (bt s 0 % 2 != 0)
   rotate_left
   ·rw [if_pos (by simp [q0])] at h
    simp only [Option.some.injEq, Prod.mk.injEq] at h
    obtain ⟨rfl, rfl, rfl, rfl, rfl, rfl, rfl, rfl, rfl, rfl⟩ := h
    exact decode_bad0 s w hs h34 q0
   cases q1 : decide (bt s 0 < 34)
   rotate_left
   ·rw [if_pos (by simp [q0, q1])] at h
    simp only [Option.some.injEq, Prod.mk.injEq] at h
    obtain ⟨rfl, rfl, rfl, rfl, rfl, rfl, rfl, rfl, rfl, rfl⟩ := h
    exact decode_bad1 s w hs h34 q0 q1
   cases q2 : decide ((s.size : Int) < bt s 0)
   rotate_left
   ·rw [if_pos (by simp [q0, q1, q2])] at h
    simp only [Option.some.injEq, Prod.mk.injEq] at h
    obtain ⟨rfl, rfl, rfl, rfl, rfl, rfl, rfl, rfl, rfl, rfl⟩ := h
    exact decode_bad2 s w hs h34 q0 q1 q2
   cases q3 : (bt s 32 == 0)
   rotate_left
   ·rw [if_pos (by simp [q0, q1, q2, q3])] at h
    simp only [Option.some.injEq, Prod.mk.injEq] at h
    obtain ⟨rfl, rfl, rfl, rfl, rfl, rfl, rfl, rfl, rfl, rfl⟩ := h
    exact decode_bad3 s w hs h34 q0 q1 q2 q3
   cases q4 : decide (bt s 0 < padE (bt s 32))
   rotate_left
   ·rw [if_pos (by simp [q0, q1, q2, q3, q4])] at h
    simp only [Option.some.injEq, Prod.mk.injEq] at h
    obtain ⟨rfl, rfl, rfl, rfl, rfl, rfl, rfl, rfl, rfl, rfl⟩ := h
    exact decode_bad4 s w hs h34 q0 q1 q2 q3 q4
   rw [if_neg (by simp [q0, q1, q2, q3, q4])] at h
   cases p0 : (bt s 1 != 0)
   rotate_left
   ·rw [if_pos (by simp [p0])] at h
    simp only [Option.some.injEq, Prod.mk.injEq] at h
    obtain ⟨rfl, rfl, rfl, rfl, rfl, rfl, rfl, rfl, rfl, rfl⟩ := h
    exact decode_uns0 s w hs h34 q0 q1 q2 q3 q4 p0
   cases p1 : (bt s 26 != 0)
   rotate_left
   ·rw [if_pos (by simp [p0, p1])] at h
    simp only [Option.some.injEq, Prod.mk.injEq] at h
    obtain ⟨rfl, rfl, rfl, rfl, rfl, rfl, rfl, rfl, rfl, rfl⟩ := h
    exact decode_uns1 s w hs h34 q0 q1 q2 q3 q4 p0 p1
   cases p2 : (bt s 27 != 0)
   rotate_left
   ·rw [if_pos (by simp [p0, p1, p2])] at h
    simp only [Option.some.injEq, Prod.mk.injEq] at h
    obtain ⟨rfl, rfl, rfl, rfl, rfl, rfl, rfl, rfl, rfl, rfl⟩ := h
    exact decode_uns2 s w hs h34 q0 q1 q2 q3 q4 p0 p1 p2
   rw [if_neg (by simp [p0, p1, p2])] at h
   obtain ⟨⟨t, z, e⟩, hr, h⟩ := Option.bind_eq_some_iff.mp h
   dsimp only at h
   by_cases he : e = 0
   ·subst he
    rw [if_pos rfl] at h
    simp only [Option.some.injEq, Prod.mk.injEq] at h
    obtain ⟨rfl, rfl, rfl, rfl, rfl, rfl, rfl, rfl, rfl, rfl⟩ := h
    exact decode_ok k s t z w hs h34 q0 q1 q2 q3 q4 p0 p1 p2 hr
   ·rw [if_neg he] at h
    simp only [Option.some.injEq, Prod.mk.injEq] at h
    obtain ⟨rfl, rfl, rfl, rfl, rfl, rfl, rfl, rfl, rfl, rfl⟩ := h
    exact decode_date k s t z e w hs h34 q0 q1 q2 q3 q4 p0 p1 p2 hr (by simpa using he)
 ·rw [if_neg hs] at h
  cases h
/-- More rounds tell the same. -/
theorem dirrecord_Decode.mono : ∀ s k, LeO (dirrecord_Decode.f k s) (dirrecord_Decode.f (k + 1) s) := by
 intro s k
 unfold dirrecord_Decode.f
 repeat' first
  | (with_reducible exact datetime_ReadRecord.mono _ _)
  | (with_reducible exact LeO.refl _)
  | (with_reducible exact LeO.none _)
  | (with_reducible refine LeO.ite ?_ ?_)
  | (with_reducible refine LeO.bind ?_ (fun _ => ?_))

end Go.Proofs.Ythblghfobnhoeaa.H
namespace Go.Proofs.Ythblghfobnhoeaa.H
open Go.RowKit Go.Proofs.Ythblghfobnhoeaa.A Go.Proofs.YthblghfobnhoeaaW.PrintWords Go.Proofs.YthblghfobnhoeaaW.PrintLast Go.Proofs.YthblghfobnhoeaaW.PrintMore
attribute [local go_sem] max2_int min2_int max_two min_two max_three min_three max_four min_four   -- for this text's walks alone
set_option linter.unusedVariables false
set_option linter.unusedSimpArgs false
attribute [-simp] ByteArray.size_extract
theorem info31 : (Try.prog.info? 31).map (fun i => (i.zero, i.size, i.bytes)) = some (some (.agg #[(.string ⟨#[]⟩), (.int .i64 0), (.int .i64 0), (.int .i64 0), (.int .i64 0), (.int .i64 0), (.int .i64 0), (.string ⟨#[]⟩)]), 8, 80) := by kernel_rfl

/-! ### directory_Decode: function 10 -/
def directory_Decode.l0 : Nat → ByteArray → List (S31) → List Int → Int → Option ((List (S31)) × List Int × Int)
 | 0, _, _, _, _ => none
 | k + 1, x0, x5, x6, x7 => if x7 < (x0.size : Int) then (if 0 ≤ x7 then (if x7 ≤ (wrap64 ((wrap64 ((wrap64 (Int.tdiv x7 2048)) + 1)) * 2048)) then (if (wrap64 ((wrap64 ((wrap64 (Int.tdiv x7 2048)) + 1)) * 2048)) ≤ (x0.size : Int) then (if 0 < ((x0.extract (x7 : Int).toNat ((wrap64 ((wrap64 ((wrap64 (Int.tdiv x7 2048)) + 1)) * 2048)) : Int).toNat).size : Int) then (if (bt (x0.extract (x7 : Int).toNat ((wrap64 ((wrap64 ((wrap64 (Int.tdiv x7 2048)) + 1)) * 2048)) : Int).toNat) 0) = 0 then (directory_Decode.l0 k x0 x5 x6 (wrap64 ((wrap64 ((wrap64 (Int.tdiv x7 2048)) + 1)) * 2048))) else (if (wrap64 (bt (x0.extract (x7 : Int).toNat ((wrap64 ((wrap64 ((wrap64 (Int.tdiv x7 2048)) + 1)) * 2048)) : Int).toNat) 0)) > ((x0.extract (x7 : Int).toNat ((wrap64 ((wrap64 ((wrap64 (Int.tdiv x7 2048)) + 1)) * 2048)) : Int).toNat).size : Int) then (some (([] : List (S31)), ([] : List Int), 10)) else ((dirrecord_Decode.f k (x0.extract (x7 : Int).toNat ((wrap64 ((wrap64 ((wrap64 (Int.tdiv x7 2048)) + 1)) * 2048)) : Int).toNat)).bind fun bt112 => (if bt112.2.2.2.2.2.2.2.2.2 = 0 then (if (x5.length : Int) = 1024 then (some (([] : List (S31)), ([] : List Int), 7)) else (if x5.length < 1759218604441 then (if x6.length < 17592186044416 then (directory_Decode.l0 k x0 (x5 ++ [(⟨bt112.1, bt112.2.1, bt112.2.2.1, bt112.2.2.2.1, bt112.2.2.2.2.1, bt112.2.2.2.2.2.1, bt112.2.2.2.2.2.2.1, bt112.2.2.2.2.2.2.2.1⟩ : S31)]) (x6 ++ [x7]) (wrap64 (x7 + bt112.2.2.2.2.2.2.2.2.1))) else (none)) else (none))) else (some (([] : List (S31)), ([] : List Int), bt112.2.2.2.2.2.2.2.2.2)))))) else (none)) else (none)) else (none)) else (none)) else (some (x5, x6, 0))
def directory_Decode.f (k : Nat) (a0 : ByteArray) : Option ((List (S31)) × List Int × Int) := if ((a0.size : Int) % 2048) = 0 then (if (a0.size : Int) > 131072 then (some (([] : List (S31)), ([] : List Int), 7)) else (directory_Decode.l0 k a0 ([] : List (S31)) ([] : List Int) 0)) else (some (([] : List (S31)), ([] : List Int), 1))
theorem directory_Decode.mono_l : ∀ k, (∀ y0 y1 y2 y3, LeO (directory_Decode.l0 k y0 y1 y2 y3) (directory_Decode.l0 (k + 1) y0 y1 y2 y3))
 | 0 => fun _ _ _ _ r h => by simp [directory_Decode.l0] at h
 | k + 1 => by
  have ih0 := directory_Decode.mono_l k
  ·intro y0 y1 y2 y3
   unfold directory_Decode.l0
   repeat' first
   | (with_reducible exact ih0 _ _ _ _)
   | (with_reducible exact dirrecord_Decode.mono _ _)
   | (with_reducible exact LeO.refl _)
   | (with_reducible exact LeO.none _)
   | (with_reducible refine LeO.ite ?_ ?_)
   | (with_reducible refine LeO.bind ?_ (fun _ => ?_))
   | exact ih0 _ _ _ _
   | exact dirrecord_Decode.mono _ _
   | exact LeO.none _
   | refine LeO.ite ?_ ?_
   | refine LeO.bind ?_ (fun _ => ?_)
theorem directory_Decode.mono : ∀ a0 k, LeO (directory_Decode.f k a0) (directory_Decode.f (k + 1) a0) := by
 intro a0 k
 have ih0 := directory_Decode.mono_l k
 unfold directory_Decode.f
 repeat' first
   | (with_reducible exact ih0 _ _ _ _)
   | (with_reducible exact dirrecord_Decode.mono _ _)
   | (with_reducible exact LeO.refl _)
   | (with_reducible exact LeO.none _)
   | (with_reducible refine LeO.ite ?_ ?_)
   | (with_reducible refine LeO.bind ?_ (fun _ => ?_))
   | exact ih0 _ _ _ _
   | exact dirrecord_Decode.mono _ _
   | exact LeO.none _
   | refine LeO.ite ?_ ?_
   | refine LeO.bind ?_ (fun _ => ?_)
set_option maxHeartbeats 8000000 in
set_option maxRecDepth 100000 in
theorem directory_Decode.calls (k : Nat) (a0 : ByteArray) (r1 : List (S31)) (r2 : List Int) (r3 : Int) (w : World) (h : directory_Decode.f k a0 = some (r1, r2, r3)) :
  Calls Try.prog 10 #[.string a0] w fun e w' => ∃ v0_ v1_ : Value, e = .returned (.tuple #[v0_, v1_, .int .i64 r3]) ∧ Kd.R k31 31 w' w.heap.size (fun _ => True) v0_ r1 ∧ Kd.R (Kd.int .i64) 3 w' w.heap.size (fun _ => True) v1_ r2 ∧ Below w.heap.size w w' := by
 have hu31 := Try.underlying31
 have HB := Aside0.mk (Below.refl w.heap.size w)
 have H : (if ((a0.size : Int) % 2048) = 0 then (if (a0.size : Int) > 131072 then (some (([] : List (S31)), ([] : List Int), 7)) else (directory_Decode.l0 k a0 ([] : List (S31)) ([] : List Int) 0)) else (some (([] : List (S31)), ([] : List Int), 1))) = some (r1, r2, r3) := h
 clear h
 by_cases c2 : ((a0.size : Int) % 2048) = 0
 ·rw [if_pos c2] at H
  have c2b0 : (((a0.size : Int) % 2048) == 0) = true := beq_iff_eq.mpr c2
  have c2b1 : (((a0.size : Int) % 2048) != 0) = false := bne_eq_false_iff_eq.mpr c2
  clear c2
  by_cases c3 : (a0.size : Int) > 131072
  ·rw [if_pos c3] at H
   have c3b0 : decide (131072 < (a0.size : Int)) = true := decide_eq_true c3
   have c3b1 : decide (131072 < a0.size) = true := decide_eq_true (by omega)
   clear c3
   simp only [Option.some.injEq, Prod.mk.injEq] at H
   obtain ⟨rfl, rfl, rfl⟩ := H
   go_enter Try.func10, Try.ntmps10
   go_wp2
   go_ret3
   exact ⟨_, _, by first | rfl | (simp [errW_none, errW_some] <;> rfl) | (simp [*, errW_none, errW_some] <;> rfl), by first | exact Kd.R_nil _ _ _ _ _ | exact Kd.N_nil _ _ _ _ _ | exact Kd.V_nil _ _ _ _ _ | exact Kd.Q_nil _ _ _ _ _ | exact Kd.S_nil _ _ _ _ _, by first | exact Kd.R_nil _ _ _ _ _ | exact Kd.N_nil _ _ _ _ _ | exact Kd.V_nil _ _ _ _ _ | exact Kd.Q_nil _ _ _ _ _ | exact Kd.S_nil _ _ _ _ _, by repeat (first | (with_reducible first | exact HB.out | apply below_alloc | apply pw_below_drewN | apply below_drew1) | exact HB.out)⟩
  ·rw [if_neg c3] at H
   have c3b0 : decide (131072 < (a0.size : Int)) = false := decide_eq_false c3
   have c3b1 : decide (131072 < a0.size) = false := decide_eq_false (by omega)
   clear c3
   have H' := Aside0.mk H
   clear H
   go_enter Try.func10, Try.ntmps10
   go_wp2
   go_loopg [5, 6, 7] k (fun kq v5 v6 v7 w' => ∃ (x5_1 : List (S31)) (x6_1 : List Int) (x7_1 : Int), v7 = .int .i64 x7_1 ∧ Aside0 (directory_Decode.l0 kq a0 x5_1 x6_1 x7_1 = some (r1, r2, r3)) ∧ Aside0 (kq ≤ k) ∧ Aside0 (Kd.R k31 31 w' w.heap.size (fun _ => True) v5 x5_1) ∧ Aside0 (Kd.R (Kd.int .i64) 3 w' w.heap.size (fun _ => True) v6 x6_1) ∧ Aside0 (Below w.heap.size w w'))
   case atStart => exact ⟨(([] : List (S31))), (([] : List Int)), (0), (by first | rfl | (simp; done) | (simp [*]; done)), H', ⟨Nat.le_refl _⟩, ⟨by first | exact Kd.R_nil _ _ _ _ _ | exact Kd.N_nil _ _ _ _ _ | exact Kd.V_nil _ _ _ _ _ | exact Kd.Q_nil _ _ _ _ _ | exact Kd.S_nil _ _ _ _ _⟩, ⟨by first | exact Kd.R_nil _ _ _ _ _ | exact Kd.N_nil _ _ _ _ _ | exact Kd.V_nil _ _ _ _ _ | exact Kd.Q_nil _ _ _ _ _ | exact Kd.S_nil _ _ _ _ _⟩, ⟨by repeat (first | (with_reducible first | exact HB.out | apply below_alloc | apply pw_below_drewN | apply below_drew1) | exact HB.out)⟩⟩
   case round =>
    clear H'
    try clear c1
    try clear c2
    try clear c2b0
    try clear c2b1
    try clear p2
    try clear c3
    try clear c3b0
    try clear c3b1
    obtain ⟨x5_1, x6_1, x7_1, rfl, HA, HK1, HO_5, HO_6, HB⟩ := hrel
    cases gk with
    | zero => exact absurd HA.out (by simp [directory_Decode.l0])
    | succ k1 =>
     have H := HA.out
     clear HA
     simp only [directory_Decode.l0] at H
     by_cases c4 : x7_1 < (a0.size : Int)
     ·rw [if_pos c4] at H
      have c4b0 : decide (x7_1 < (a0.size : Int)) = true := decide_eq_true c4
      clear c4
      by_cases c5 : 0 ≤ x7_1
      rotate_left
      ·rw [if_neg c5] at H
       exact absurd H (by simp)
      rw [if_pos c5] at H
      have c5b0 := eq_true c5
      have c5b1 : decide (0 ≤ x7_1) = true := decide_eq_true c5
      clear c5
      by_cases c6 : x7_1 ≤ (wrap64 ((wrap64 ((wrap64 (Int.tdiv x7_1 2048)) + 1)) * 2048))
      rotate_left
      ·rw [if_neg c6] at H
       exact absurd H (by simp)
      rw [if_pos c6] at H
      have c6b0 := eq_true c6
      have c6b1 : decide (x7_1 ≤ (wrap64 ((wrap64 ((wrap64 (Int.tdiv x7_1 2048)) + 1)) * 2048))) = true := decide_eq_true c6
      by_cases c7 : (wrap64 ((wrap64 ((wrap64 (Int.tdiv x7_1 2048)) + 1)) * 2048)) ≤ (a0.size : Int)
      rotate_left
      ·rw [if_neg c7] at H
       exact absurd H (by simp)
      rw [if_pos c7] at H
      have c7b0 := eq_true c7
      have c7b1 : decide ((wrap64 ((wrap64 ((wrap64 (Int.tdiv x7_1 2048)) + 1)) * 2048)) ≤ (a0.size : Int)) = true := decide_eq_true c7
      by_cases c8 : 0 < ((a0.extract (x7_1 : Int).toNat ((wrap64 ((wrap64 ((wrap64 (Int.tdiv x7_1 2048)) + 1)) * 2048)) : Int).toNat).size : Int)
      rotate_left
      ·rw [if_neg c8] at H
       exact absurd H (by simp)
      rw [if_pos c8] at H
      have c8b0 : decide (0 < ((a0.extract (x7_1 : Int).toNat ((wrap64 ((wrap64 ((wrap64 (Int.tdiv x7_1 2048)) + 1)) * 2048)) : Int).toNat).size : Int)) = true := decide_eq_true c8
      have c8b1 : decide (0 < (a0.extract (x7_1 : Int).toNat ((wrap64 ((wrap64 ((wrap64 (Int.tdiv x7_1 2048)) + 1)) * 2048)) : Int).toNat).size) = true := decide_eq_true (by omega)
      clear c8
      by_cases c10 : (bt (a0.extract (x7_1 : Int).toNat ((wrap64 ((wrap64 ((wrap64 (Int.tdiv x7_1 2048)) + 1)) * 2048)) : Int).toNat) 0) = 0
      ·rw [if_pos c10] at H
       have c10b0 : ((bt (a0.extract (x7_1 : Int).toNat ((wrap64 ((wrap64 ((wrap64 (Int.tdiv x7_1 2048)) + 1)) * 2048)) : Int).toNat) 0) == 0) = true := beq_iff_eq.mpr c10
       have c10b1 : ((bt (a0.extract (x7_1 : Int).toNat ((wrap64 ((wrap64 ((wrap64 (Int.tdiv x7_1 2048)) + 1)) * 2048)) : Int).toNat) 0) != 0) = false := bne_eq_false_iff_eq.mpr c10
       clear c10
       have H' := Aside0.mk H
       clear H
       have p9 : 0 ≤ (0 : Int) := (by omega)
       have q9 : 0 < (a0.extract (x7_1 : Int).toNat ((wrap64 ((wrap64 ((wrap64 (Int.tdiv x7_1 2048)) + 1)) * 2048)) : Int).toNat).size := (by have : (0 : Int) < ((a0.extract (x7_1 : Int).toNat ((wrap64 ((wrap64 ((wrap64 (Int.tdiv x7_1 2048)) + 1)) * 2048)) : Int).toNat).size : Int) := of_decide_eq_true (by first | (with_reducible assumption) | assumption); omega)
       have hx9 : ∀ h : 0 < (a0.extract (x7_1 : Int).toNat ((wrap64 ((wrap64 ((wrap64 (Int.tdiv x7_1 2048)) + 1)) * 2048)) : Int).toNat).size, (((a0.extract (x7_1 : Int).toNat ((wrap64 ((wrap64 ((wrap64 (Int.tdiv x7_1 2048)) + 1)) * 2048)) : Int).toNat)[0]'h).toNat : Int) = bt (a0.extract (x7_1 : Int).toNat ((wrap64 ((wrap64 ((wrap64 (Int.tdiv x7_1 2048)) + 1)) * 2048)) : Int).toNat) 0 := bt_at (a0.extract (x7_1 : Int).toNat ((wrap64 ((wrap64 ((wrap64 (Int.tdiv x7_1 2048)) + 1)) * 2048)) : Int).toNat) 0
       clear p9
       have qi9 : (0 < ((a0.extract (x7_1 : Int).toNat ((wrap64 ((wrap64 ((wrap64 (Int.tdiv x7_1 2048)) + 1)) * 2048)) : Int).toNat).size : Int)) = True := eq_true (of_decide_eq_true (by first | (with_reducible assumption) | assumption))
       replace q9 := eq_true q9
       go_wp2
       go_roundg k1
       case measure => have := HK1.out; omega
       case rel => exact ⟨(x5_1), (x6_1), (wrap64 ((wrap64 ((wrap64 (Int.tdiv x7_1 2048)) + 1)) * 2048)), (by first | rfl | (simp; done) | (simp [*]; done)), H', ⟨by have := HK1.out; omega⟩, ⟨by (with_reducible repeat (first | apply Kd.R_alloc | apply Kd.R_drewN | apply Kd.R_drew)); exact HO_5.out⟩, ⟨by (with_reducible repeat (first | apply Kd.R_alloc | apply Kd.R_drewN | apply Kd.R_drew)); exact HO_6.out⟩, ⟨by repeat (first | (with_reducible first | exact HB.out | apply below_alloc | apply pw_below_drewN | apply below_drew1) | exact HB.out)⟩⟩
      ·rw [if_neg c10] at H
       have c10b0 : ((bt (a0.extract (x7_1 : Int).toNat ((wrap64 ((wrap64 ((wrap64 (Int.tdiv x7_1 2048)) + 1)) * 2048)) : Int).toNat) 0) == 0) = false := beq_eq_false_iff_ne.mpr c10
       have c10b1 : ((bt (a0.extract (x7_1 : Int).toNat ((wrap64 ((wrap64 ((wrap64 (Int.tdiv x7_1 2048)) + 1)) * 2048)) : Int).toNat) 0) != 0) = true := bne_iff_ne.mpr c10
       by_cases c12 : (wrap64 (bt (a0.extract (x7_1 : Int).toNat ((wrap64 ((wrap64 ((wrap64 (Int.tdiv x7_1 2048)) + 1)) * 2048)) : Int).toNat) 0)) > ((a0.extract (x7_1 : Int).toNat ((wrap64 ((wrap64 ((wrap64 (Int.tdiv x7_1 2048)) + 1)) * 2048)) : Int).toNat).size : Int)
       ·rw [if_pos c12] at H
        have c12b0 : decide (((a0.extract (x7_1 : Int).toNat ((wrap64 ((wrap64 ((wrap64 (Int.tdiv x7_1 2048)) + 1)) * 2048)) : Int).toNat).size : Int) < (wrap64 (bt (a0.extract (x7_1 : Int).toNat ((wrap64 ((wrap64 ((wrap64 (Int.tdiv x7_1 2048)) + 1)) * 2048)) : Int).toNat) 0))) = true := decide_eq_true c12
        clear c12
        simp only [Option.some.injEq, Prod.mk.injEq] at H
        obtain ⟨rfl, rfl, rfl⟩ := H
        have p9 : 0 ≤ (0 : Int) := (by omega)
        have q9 : 0 < (a0.extract (x7_1 : Int).toNat ((wrap64 ((wrap64 ((wrap64 (Int.tdiv x7_1 2048)) + 1)) * 2048)) : Int).toNat).size := (by have : (0 : Int) < ((a0.extract (x7_1 : Int).toNat ((wrap64 ((wrap64 ((wrap64 (Int.tdiv x7_1 2048)) + 1)) * 2048)) : Int).toNat).size : Int) := of_decide_eq_true (by first | (with_reducible assumption) | assumption); omega)
        have hx9 : ∀ h : 0 < (a0.extract (x7_1 : Int).toNat ((wrap64 ((wrap64 ((wrap64 (Int.tdiv x7_1 2048)) + 1)) * 2048)) : Int).toNat).size, (((a0.extract (x7_1 : Int).toNat ((wrap64 ((wrap64 ((wrap64 (Int.tdiv x7_1 2048)) + 1)) * 2048)) : Int).toNat)[0]'h).toNat : Int) = bt (a0.extract (x7_1 : Int).toNat ((wrap64 ((wrap64 ((wrap64 (Int.tdiv x7_1 2048)) + 1)) * 2048)) : Int).toNat) 0 := bt_at (a0.extract (x7_1 : Int).toNat ((wrap64 ((wrap64 ((wrap64 (Int.tdiv x7_1 2048)) + 1)) * 2048)) : Int).toNat) 0
        clear p9
        have qi9 : (0 < ((a0.extract (x7_1 : Int).toNat ((wrap64 ((wrap64 ((wrap64 (Int.tdiv x7_1 2048)) + 1)) * 2048)) : Int).toNat).size : Int)) = True := eq_true (of_decide_eq_true (by first | (with_reducible assumption) | assumption))
        replace q9 := eq_true q9
        have p11 : 0 ≤ (0 : Int) := (by omega)
        have q11 : 0 < (a0.extract (x7_1 : Int).toNat ((wrap64 ((wrap64 ((wrap64 (Int.tdiv x7_1 2048)) + 1)) * 2048)) : Int).toNat).size := (by have : (0 : Int) < ((a0.extract (x7_1 : Int).toNat ((wrap64 ((wrap64 ((wrap64 (Int.tdiv x7_1 2048)) + 1)) * 2048)) : Int).toNat).size : Int) := of_decide_eq_true (by first | (with_reducible assumption) | assumption); omega)
        have hx11 : ∀ h : 0 < (a0.extract (x7_1 : Int).toNat ((wrap64 ((wrap64 ((wrap64 (Int.tdiv x7_1 2048)) + 1)) * 2048)) : Int).toNat).size, (((a0.extract (x7_1 : Int).toNat ((wrap64 ((wrap64 ((wrap64 (Int.tdiv x7_1 2048)) + 1)) * 2048)) : Int).toNat)[0]'h).toNat : Int) = bt (a0.extract (x7_1 : Int).toNat ((wrap64 ((wrap64 ((wrap64 (Int.tdiv x7_1 2048)) + 1)) * 2048)) : Int).toNat) 0 := bt_at (a0.extract (x7_1 : Int).toNat ((wrap64 ((wrap64 ((wrap64 (Int.tdiv x7_1 2048)) + 1)) * 2048)) : Int).toNat) 0
        clear p11
        have qi11 : (0 < ((a0.extract (x7_1 : Int).toNat ((wrap64 ((wrap64 ((wrap64 (Int.tdiv x7_1 2048)) + 1)) * 2048)) : Int).toNat).size : Int)) = True := eq_true (of_decide_eq_true (by first | (with_reducible assumption) | assumption))
        replace q11 := eq_true q11
        go_wp2
        go_ret3
        exact ⟨_, _, by first | rfl | (simp [errW_none, errW_some] <;> rfl) | (simp [*, errW_none, errW_some] <;> rfl), by first | exact Kd.R_nil _ _ _ _ _ | exact Kd.N_nil _ _ _ _ _ | exact Kd.V_nil _ _ _ _ _ | exact Kd.Q_nil _ _ _ _ _ | exact Kd.S_nil _ _ _ _ _, by first | exact Kd.R_nil _ _ _ _ _ | exact Kd.N_nil _ _ _ _ _ | exact Kd.V_nil _ _ _ _ _ | exact Kd.Q_nil _ _ _ _ _ | exact Kd.S_nil _ _ _ _ _, by repeat (first | (with_reducible first | exact HB.out | apply below_alloc | apply pw_below_drewN | apply below_drew1) | exact HB.out)⟩
       ·rw [if_neg c12] at H
        have c12b0 : decide (((a0.extract (x7_1 : Int).toNat ((wrap64 ((wrap64 ((wrap64 (Int.tdiv x7_1 2048)) + 1)) * 2048)) : Int).toNat).size : Int) < (wrap64 (bt (a0.extract (x7_1 : Int).toNat ((wrap64 ((wrap64 ((wrap64 (Int.tdiv x7_1 2048)) + 1)) * 2048)) : Int).toNat) 0))) = false := decide_eq_false c12
        clear c12
        replace H := Option.bind_eq_some_iff.mp H
        obtain ⟨⟨t112, t113, t114, t115, t116, t117, t118, t119, t120, t121⟩, A130, H⟩ := H
        replace H : (if t121 = 0 then (if (x5_1.length : Int) = 1024 then (some (([] : List (S31)), ([] : List Int), 7)) else (if x5_1.length < 1759218604441 then (if x6_1.length < 17592186044416 then (directory_Decode.l0 k1 a0 (x5_1 ++ [(⟨t112, t113, t114, t115, t116, t117, t118, t119⟩ : S31)]) (x6_1 ++ [x7_1]) (wrap64 (x7_1 + t120))) else (none)) else (none))) else (some (([] : List (S31)), ([] : List Int), t121))) = some (r1, r2, r3) := H
        have A13 := Aside0.mk A130
        clear A130
        by_cases c14 : t121 = 0
        ·rw [if_pos c14] at H
         have c14b0 : (t121 == 0) = true := beq_iff_eq.mpr c14
         have c14b1 : (t121 != 0) = false := bne_eq_false_iff_eq.mpr c14
         clear c14
         by_cases c15 : (x5_1.length : Int) = 1024
         ·rw [if_pos c15] at H
          have c15b0 : ((x5_1.length : Int) == 1024) = true := beq_iff_eq.mpr c15
          have c15b1 : ((x5_1.length : Int) != 1024) = false := bne_eq_false_iff_eq.mpr c15
          clear c15
          simp only [Option.some.injEq, Prod.mk.injEq] at H
          obtain ⟨rfl, rfl, rfl⟩ := H
          have p9 : 0 ≤ (0 : Int) := (by omega)
          have q9 : 0 < (a0.extract (x7_1 : Int).toNat ((wrap64 ((wrap64 ((wrap64 (Int.tdiv x7_1 2048)) + 1)) * 2048)) : Int).toNat).size := (by have : (0 : Int) < ((a0.extract (x7_1 : Int).toNat ((wrap64 ((wrap64 ((wrap64 (Int.tdiv x7_1 2048)) + 1)) * 2048)) : Int).toNat).size : Int) := of_decide_eq_true (by first | (with_reducible assumption) | assumption); omega)
          have hx9 : ∀ h : 0 < (a0.extract (x7_1 : Int).toNat ((wrap64 ((wrap64 ((wrap64 (Int.tdiv x7_1 2048)) + 1)) * 2048)) : Int).toNat).size, (((a0.extract (x7_1 : Int).toNat ((wrap64 ((wrap64 ((wrap64 (Int.tdiv x7_1 2048)) + 1)) * 2048)) : Int).toNat)[0]'h).toNat : Int) = bt (a0.extract (x7_1 : Int).toNat ((wrap64 ((wrap64 ((wrap64 (Int.tdiv x7_1 2048)) + 1)) * 2048)) : Int).toNat) 0 := bt_at (a0.extract (x7_1 : Int).toNat ((wrap64 ((wrap64 ((wrap64 (Int.tdiv x7_1 2048)) + 1)) * 2048)) : Int).toNat) 0
          clear p9
          have qi9 : (0 < ((a0.extract (x7_1 : Int).toNat ((wrap64 ((wrap64 ((wrap64 (Int.tdiv x7_1 2048)) + 1)) * 2048)) : Int).toNat).size : Int)) = True := eq_true (of_decide_eq_true (by first | (with_reducible assumption) | assumption))
          replace q9 := eq_true q9
          have p11 : 0 ≤ (0 : Int) := (by omega)
          have q11 : 0 < (a0.extract (x7_1 : Int).toNat ((wrap64 ((wrap64 ((wrap64 (Int.tdiv x7_1 2048)) + 1)) * 2048)) : Int).toNat).size := (by have : (0 : Int) < ((a0.extract (x7_1 : Int).toNat ((wrap64 ((wrap64 ((wrap64 (Int.tdiv x7_1 2048)) + 1)) * 2048)) : Int).toNat).size : Int) := of_decide_eq_true (by first | (with_reducible assumption) | assumption); omega)
          have hx11 : ∀ h : 0 < (a0.extract (x7_1 : Int).toNat ((wrap64 ((wrap64 ((wrap64 (Int.tdiv x7_1 2048)) + 1)) * 2048)) : Int).toNat).size, (((a0.extract (x7_1 : Int).toNat ((wrap64 ((wrap64 ((wrap64 (Int.tdiv x7_1 2048)) + 1)) * 2048)) : Int).toNat)[0]'h).toNat : Int) = bt (a0.extract (x7_1 : Int).toNat ((wrap64 ((wrap64 ((wrap64 (Int.tdiv x7_1 2048)) + 1)) * 2048)) : Int).toNat) 0 := bt_at (a0.extract (x7_1 : Int).toNat ((wrap64 ((wrap64 ((wrap64 (Int.tdiv x7_1 2048)) + 1)) * 2048)) : Int).toNat) 0
          clear p11
          have qi11 : (0 < ((a0.extract (x7_1 : Int).toNat ((wrap64 ((wrap64 ((wrap64 (Int.tdiv x7_1 2048)) + 1)) * 2048)) : Int).toNat).size : Int)) = True := eq_true (of_decide_eq_true (by first | (with_reducible assumption) | assumption))
          replace q11 := eq_true q11
          go_wp2_with (first | ((with_reducible refine gate_callee (f := 26) rfl ?_); refine goesL_ (some 44) rfl rfl Try.func26 (by kernel_rfl) rfl #[.string (a0.extract (x7_1 : Int).toNat ((wrap64 ((wrap64 ((wrap64 (Int.tdiv x7_1 2048)) + 1)) * 2048)) : Int).toNat)] rfl (by (try simp only [List.map_toArray, List.map_cons, List.map_nil]); first | done | rfl | (simp only [List.length_drop, List.length_take]; rfl)) ?_; (with_reducible refine (dirrecord_Decode.calls k1 (a0.extract (x7_1 : Int).toNat ((wrap64 ((wrap64 ((wrap64 (Int.tdiv x7_1 2048)) + 1)) * 2048)) : Int).toNat) t112 t113 t114 t115 t116 t117 t118 t119 t120 t121 _ A13.out).mono ?_); rintro e w16 ⟨rfl, hb⟩; refine ⟨_, rfl, ?_⟩; have n0_ := Aside0.mk (Kd.R_below (by (with_reducible repeat (first | apply Kd.R_alloc | apply Kd.R_drewN | apply Kd.R_drew)); exact HO_5.out) hb); have n1_ := Aside0.mk (Kd.R_below (by (with_reducible repeat (first | apply Kd.R_alloc | apply Kd.R_drewN | apply Kd.R_drew)); exact HO_6.out) hb); have n2_ := Aside0.mk (below_step (by repeat (first | (with_reducible first | exact HB.out | apply below_alloc | apply pw_below_drewN | apply below_drew1) | exact HB.out)) hb); clear HO_5; clear HO_6; clear HB; have HO_5 := n0_; have HO_6 := n1_; have HB := n2_; clear n0_ n1_ n2_; (try clear hb); (try clear hb2); (try clear hk); (try clear hi)) | ((with_reducible refine gate_dst (N := 10) rfl ?_); refine box_event ?hg (N := 10) ?hd (cs := #[.string (⟨#[]⟩ : ByteArray), .int .i64 0, .int .i64 0, .int .i64 0, .int .i64 0, .int .i64 0, .int .i64 0, .string (⟨#[]⟩ : ByteArray)]) (t := 31) ?hr ?_; (case hd => rfl); (case hg => rfl); (case hr => first | (go_simp; done) | (go_simp; rfl)); intro gb122 hg w17 hbox hb; have n0_ := Aside0.mk (Kd.R_below (Kd.R_elderB (by (with_reducible repeat (first | apply Kd.R_alloc | apply Kd.R_drewN | apply Kd.R_drew)); exact HO_5.out) gb122 (Nat.le_of_eq hg.symm)) hb); have n1_ := Aside0.mk (Kd.R_below (by (with_reducible repeat (first | apply Kd.R_alloc | apply Kd.R_drewN | apply Kd.R_drew)); exact HO_6.out) hb); have n2_ := Aside0.mk (below_step (by repeat (first | (with_reducible first | exact HB.out | apply below_alloc | apply pw_below_drewN | apply below_drew1) | exact HB.out)) hb); have n3_ := Aside0.mk (hbox); have n4_ := Aside0.mk ((by rw [hg]; exact (below_size (by repeat (first | (with_reducible first | exact HB.out | apply below_alloc | apply pw_below_drewN | apply below_drew1) | exact HB.out))) : w.heap.size ≤ gb122)); have n5_ := Aside0.mk ((by rw [hg]; exact (below_size (by repeat (first | (with_reducible first | exact HB.out | apply below_alloc | apply pw_below_drewN | apply below_drew1) | exact HB.out))) : w.heap.size ≤ gb122)); clear HO_5; clear HO_6; clear HB; have HO_5 := n0_; have HO_6 := n1_; have HB := n2_; have BK122 := n3_; have GW122 := n4_; have GE122 := n5_; clear n0_ n1_ n2_ n3_ n4_ n5_; clear hb hbox hg; have hcz18_0 : w17.cell? ⟨gb122, 0, none⟩ = some (.string (⟨#[]⟩ : ByteArray)) := (blk_cell BK122.out 0).trans rfl; have hcz18_1 : w17.cell? ⟨gb122, 1, none⟩ = some (.int .i64 0) := (blk_cell BK122.out 1).trans rfl; have hcz18_2 : w17.cell? ⟨gb122, 2, none⟩ = some (.int .i64 0) := (blk_cell BK122.out 2).trans rfl; have hcz18_3 : w17.cell? ⟨gb122, 3, none⟩ = some (.int .i64 0) := (blk_cell BK122.out 3).trans rfl; have hcz18_4 : w17.cell? ⟨gb122, 4, none⟩ = some (.int .i64 0) := (blk_cell BK122.out 4).trans rfl; have hcz18_5 : w17.cell? ⟨gb122, 5, none⟩ = some (.int .i64 0) := (blk_cell BK122.out 5).trans rfl; have hcz18_6 : w17.cell? ⟨gb122, 6, none⟩ = some (.int .i64 0) := (blk_cell BK122.out 6).trans rfl; have hcz18_7 : w17.cell? ⟨gb122, 7, none⟩ = some (.string (⟨#[]⟩ : ByteArray)) := (blk_cell BK122.out 7).trans rfl; have hfz18_0 := blk_frozen BK122.out 0; have hfz18_1 := blk_frozen BK122.out 1; have hfz18_2 := blk_frozen BK122.out 2; have hfz18_3 := blk_frozen BK122.out 3; have hfz18_4 := blk_frozen BK122.out 4; have hfz18_5 := blk_frozen BK122.out 5; have hfz18_6 := blk_frozen BK122.out 6; have hfz18_7 := blk_frozen BK122.out 7; obtain ⟨Ao19, co19, eo19⟩ := Kd.R_slice HO_5.out; subst eo19))
          go_ret3
          exact ⟨_, _, by first | rfl | (simp [errW_none, errW_some] <;> rfl) | (simp [*, errW_none, errW_some] <;> rfl), by first | exact Kd.R_nil _ _ _ _ _ | exact Kd.N_nil _ _ _ _ _ | exact Kd.V_nil _ _ _ _ _ | exact Kd.Q_nil _ _ _ _ _ | exact Kd.S_nil _ _ _ _ _, by first | exact Kd.R_nil _ _ _ _ _ | exact Kd.N_nil _ _ _ _ _ | exact Kd.V_nil _ _ _ _ _ | exact Kd.Q_nil _ _ _ _ _ | exact Kd.S_nil _ _ _ _ _, by repeat (first | (with_reducible first | exact HB.out | apply below_alloc | apply pw_below_drewN | apply below_drew1 | refine below_set ?_ GE122.out) | exact HB.out)⟩
         ·rw [if_neg c15] at H
          have c15b0 : ((x5_1.length : Int) == 1024) = false := beq_eq_false_iff_ne.mpr c15
          have c15b1 : ((x5_1.length : Int) != 1024) = true := bne_iff_ne.mpr c15
          by_cases c20 : x5_1.length < 1759218604441
          rotate_left
          ·rw [if_neg c20] at H
           exact absurd H (by simp)
          rw [if_pos c20] at H
          have LMc20 := Aside0.mk c20
          clear c20
          obtain ⟨y123, hy123⟩ : ∃ y_ : List (S31), y_ = (x5_1 ++ [(⟨t112, t113, t114, t115, t116, t117, t118, t119⟩ : S31)]) := ⟨_, rfl⟩
          replace H : (if x6_1.length < 17592186044416 then (directory_Decode.l0 k1 a0 y123 (x6_1 ++ [x7_1]) (wrap64 (x7_1 + t120))) else (none)) = some (r1, r2, r3) := by first | (rw [hy123]; with_reducible exact H) | (have H2_ := (Option.bind_some _ _).symm.trans H; rw [hy123]; with_reducible exact H2_) | (have H2_ := (Option.bind_some _ _).symm.trans H; with_reducible exact H2_) | with_reducible exact H | (rw [hy123]; exact H) | exact H
          have Ny123 := Aside0.mk hy123
          clear hy123
          by_cases c21 : x6_1.length < 17592186044416
          rotate_left
          ·rw [if_neg c21] at H
           exact absurd H (by simp)
          rw [if_pos c21] at H
          have LMc21 := Aside0.mk c21
          clear c21
          obtain ⟨y126, hy126⟩ : ∃ y_ : List Int, y_ = (x6_1 ++ [x7_1]) := ⟨_, rfl⟩
          replace H : (directory_Decode.l0 k1 a0 y123 y126 (wrap64 (x7_1 + t120))) = some (r1, r2, r3) := by first | (rw [hy126]; with_reducible exact H) | (have H2_ := (Option.bind_some _ _).symm.trans H; rw [hy126]; with_reducible exact H2_) | (have H2_ := (Option.bind_some _ _).symm.trans H; with_reducible exact H2_) | with_reducible exact H | (rw [hy126]; exact H) | exact H
          have Ny126 := Aside0.mk hy126
          clear hy126
          have H' := Aside0.mk H
          clear H
          have p9 : 0 ≤ (0 : Int) := (by omega)
          have q9 : 0 < (a0.extract (x7_1 : Int).toNat ((wrap64 ((wrap64 ((wrap64 (Int.tdiv x7_1 2048)) + 1)) * 2048)) : Int).toNat).size := (by have : (0 : Int) < ((a0.extract (x7_1 : Int).toNat ((wrap64 ((wrap64 ((wrap64 (Int.tdiv x7_1 2048)) + 1)) * 2048)) : Int).toNat).size : Int) := of_decide_eq_true (by first | (with_reducible assumption) | assumption); omega)
          have hx9 : ∀ h : 0 < (a0.extract (x7_1 : Int).toNat ((wrap64 ((wrap64 ((wrap64 (Int.tdiv x7_1 2048)) + 1)) * 2048)) : Int).toNat).size, (((a0.extract (x7_1 : Int).toNat ((wrap64 ((wrap64 ((wrap64 (Int.tdiv x7_1 2048)) + 1)) * 2048)) : Int).toNat)[0]'h).toNat : Int) = bt (a0.extract (x7_1 : Int).toNat ((wrap64 ((wrap64 ((wrap64 (Int.tdiv x7_1 2048)) + 1)) * 2048)) : Int).toNat) 0 := bt_at (a0.extract (x7_1 : Int).toNat ((wrap64 ((wrap64 ((wrap64 (Int.tdiv x7_1 2048)) + 1)) * 2048)) : Int).toNat) 0
          clear p9
          have qi9 : (0 < ((a0.extract (x7_1 : Int).toNat ((wrap64 ((wrap64 ((wrap64 (Int.tdiv x7_1 2048)) + 1)) * 2048)) : Int).toNat).size : Int)) = True := eq_true (of_decide_eq_true (by first | (with_reducible assumption) | assumption))
          replace q9 := eq_true q9
          have p11 : 0 ≤ (0 : Int) := (by omega)
          have q11 : 0 < (a0.extract (x7_1 : Int).toNat ((wrap64 ((wrap64 ((wrap64 (Int.tdiv x7_1 2048)) + 1)) * 2048)) : Int).toNat).size := (by have : (0 : Int) < ((a0.extract (x7_1 : Int).toNat ((wrap64 ((wrap64 ((wrap64 (Int.tdiv x7_1 2048)) + 1)) * 2048)) : Int).toNat).size : Int) := of_decide_eq_true (by first | (with_reducible assumption) | assumption); omega)
          have hx11 : ∀ h : 0 < (a0.extract (x7_1 : Int).toNat ((wrap64 ((wrap64 ((wrap64 (Int.tdiv x7_1 2048)) + 1)) * 2048)) : Int).toNat).size, (((a0.extract (x7_1 : Int).toNat ((wrap64 ((wrap64 ((wrap64 (Int.tdiv x7_1 2048)) + 1)) * 2048)) : Int).toNat)[0]'h).toNat : Int) = bt (a0.extract (x7_1 : Int).toNat ((wrap64 ((wrap64 ((wrap64 (Int.tdiv x7_1 2048)) + 1)) * 2048)) : Int).toNat) 0 := bt_at (a0.extract (x7_1 : Int).toNat ((wrap64 ((wrap64 ((wrap64 (Int.tdiv x7_1 2048)) + 1)) * 2048)) : Int).toNat) 0
          clear p11
          have qi11 : (0 < ((a0.extract (x7_1 : Int).toNat ((wrap64 ((wrap64 ((wrap64 (Int.tdiv x7_1 2048)) + 1)) * 2048)) : Int).toNat).size : Int)) = True := eq_true (of_decide_eq_true (by first | (with_reducible assumption) | assumption))
          replace q11 := eq_true q11
          go_wp2_with (first | ((with_reducible refine gate_callee (f := 26) rfl ?_); refine goesL_ (some 44) rfl rfl Try.func26 (by kernel_rfl) rfl #[.string (a0.extract (x7_1 : Int).toNat ((wrap64 ((wrap64 ((wrap64 (Int.tdiv x7_1 2048)) + 1)) * 2048)) : Int).toNat)] rfl (by (try simp only [List.map_toArray, List.map_cons, List.map_nil]); first | done | rfl | (simp only [List.length_drop, List.length_take]; rfl)) ?_; (with_reducible refine (dirrecord_Decode.calls k1 (a0.extract (x7_1 : Int).toNat ((wrap64 ((wrap64 ((wrap64 (Int.tdiv x7_1 2048)) + 1)) * 2048)) : Int).toNat) t112 t113 t114 t115 t116 t117 t118 t119 t120 t121 _ A13.out).mono ?_); rintro e w22 ⟨rfl, hb⟩; refine ⟨_, rfl, ?_⟩; have n0_ := Aside0.mk (Kd.R_below (by (with_reducible repeat (first | apply Kd.R_alloc | apply Kd.R_drewN | apply Kd.R_drew)); exact HO_5.out) hb); have n1_ := Aside0.mk (Kd.R_below (by (with_reducible repeat (first | apply Kd.R_alloc | apply Kd.R_drewN | apply Kd.R_drew)); exact HO_6.out) hb); have n2_ := Aside0.mk (below_step (by repeat (first | (with_reducible first | exact HB.out | apply below_alloc | apply pw_below_drewN | apply below_drew1) | exact HB.out)) hb); clear HO_5; clear HO_6; clear HB; have HO_5 := n0_; have HO_6 := n1_; have HB := n2_; clear n0_ n1_ n2_; (try clear hb); (try clear hb2); (try clear hk); (try clear hi)) | ((with_reducible refine gate_dst (N := 10) rfl ?_); refine box_event ?hg (N := 10) ?hd (cs := #[.string (⟨#[]⟩ : ByteArray), .int .i64 0, .int .i64 0, .int .i64 0, .int .i64 0, .int .i64 0, .int .i64 0, .string (⟨#[]⟩ : ByteArray)]) (t := 31) ?hr ?_; (case hd => rfl); (case hg => rfl); (case hr => first | (go_simp; done) | (go_simp; rfl)); intro gb122 hg w23 hbox hb; have n0_ := Aside0.mk (Kd.R_below (Kd.R_elderB (by (with_reducible repeat (first | apply Kd.R_alloc | apply Kd.R_drewN | apply Kd.R_drew)); exact HO_5.out) gb122 (Nat.le_of_eq hg.symm)) hb); have n1_ := Aside0.mk (Kd.R_below (by (with_reducible repeat (first | apply Kd.R_alloc | apply Kd.R_drewN | apply Kd.R_drew)); exact HO_6.out) hb); have n2_ := Aside0.mk (below_step (by repeat (first | (with_reducible first | exact HB.out | apply below_alloc | apply pw_below_drewN | apply below_drew1) | exact HB.out)) hb); have n3_ := Aside0.mk (hbox); have n4_ := Aside0.mk ((by rw [hg]; exact (below_size (by repeat (first | (with_reducible first | exact HB.out | apply below_alloc | apply pw_below_drewN | apply below_drew1) | exact HB.out))) : w.heap.size ≤ gb122)); have n5_ := Aside0.mk ((by rw [hg]; exact (below_size (by repeat (first | (with_reducible first | exact HB.out | apply below_alloc | apply pw_below_drewN | apply below_drew1) | exact HB.out))) : w.heap.size ≤ gb122)); clear HO_5; clear HO_6; clear HB; have HO_5 := n0_; have HO_6 := n1_; have HB := n2_; have BK122 := n3_; have GW122 := n4_; have GE122 := n5_; clear n0_ n1_ n2_ n3_ n4_ n5_; clear hb hbox hg; have hcz24_0 : w23.cell? ⟨gb122, 0, none⟩ = some (.string (⟨#[]⟩ : ByteArray)) := (blk_cell BK122.out 0).trans rfl; have hcz24_1 : w23.cell? ⟨gb122, 1, none⟩ = some (.int .i64 0) := (blk_cell BK122.out 1).trans rfl; have hcz24_2 : w23.cell? ⟨gb122, 2, none⟩ = some (.int .i64 0) := (blk_cell BK122.out 2).trans rfl; have hcz24_3 : w23.cell? ⟨gb122, 3, none⟩ = some (.int .i64 0) := (blk_cell BK122.out 3).trans rfl; have hcz24_4 : w23.cell? ⟨gb122, 4, none⟩ = some (.int .i64 0) := (blk_cell BK122.out 4).trans rfl; have hcz24_5 : w23.cell? ⟨gb122, 5, none⟩ = some (.int .i64 0) := (blk_cell BK122.out 5).trans rfl; have hcz24_6 : w23.cell? ⟨gb122, 6, none⟩ = some (.int .i64 0) := (blk_cell BK122.out 6).trans rfl; have hcz24_7 : w23.cell? ⟨gb122, 7, none⟩ = some (.string (⟨#[]⟩ : ByteArray)) := (blk_cell BK122.out 7).trans rfl; have hfz24_0 := blk_frozen BK122.out 0; have hfz24_1 := blk_frozen BK122.out 1; have hfz24_2 := blk_frozen BK122.out 2; have hfz24_3 := blk_frozen BK122.out 3; have hfz24_4 := blk_frozen BK122.out 4; have hfz24_5 := blk_frozen BK122.out 5; have hfz24_6 := blk_frozen BK122.out 6; have hfz24_7 := blk_frozen BK122.out 7; obtain ⟨Ao25, co25, eo25⟩ := Kd.R_slice HO_5.out; subst eo25) | ((with_reducible refine gate_builtin (b := .append) (xs := #[.tmp 54, .tmp 56]) rfl ?_); at_builtin; refine Kd.R_append k31 (w0 := w) w.heap.size rfl (.tmp 54) (.tmp 56) 35 31 (.agg #[(.string ⟨#[]⟩), (.int .i64 0), (.int .i64 0), (.int .i64 0), (.int .i64 0), (.int .i64 0), (.int .i64 0), (.string ⟨#[]⟩)]) 80 rfl Try.underlying35 info31 rfl (by decide) (by omega) (.slice Ao25 x5_1.length co25) x5_1 (⟨t112, t113, t114, t115, t116, t117, t118, t119⟩ : S31) [.string t112, .int .i64 t113, .int .i64 t114, .int .i64 t115, .int .i64 t116, .int .i64 t117, .int .i64 t118, .string t119] (fun k_ => k_ ≠ gb122) (fun _ => False) rfl (by first | (go_simp; done) | (go_simp; rfl)) ?aP (fun _ hk => hk.elim) ?aF ?aO ?aB ?aS ?aL ?_; (case aP => exact k31_mkM _ _ _ (⟨t112, t113, t114, t115, t116, t117, t118, t119⟩ : S31)); (case aB => exact (by repeat (first | (with_reducible first | exact HB.out | apply below_alloc | apply pw_below_drewN | apply below_drew1 | refine below_set ?_ GE122.out) | exact HB.out))); (case aF => exact (fun k_ hk => Kd.freshB (g := gb122) (o := .cells #[.string t112, .int .i64 t113, .int .i64 t114, .int .i64 t115, .int .i64 t116, .int .i64 t117, .int .i64 t118, .string t119] 31 (0, 0)) (by (with_reducible repeat (first | refine blk_drewN ?_ _ | refine blk_drew ?_ | refine blk_alloc ?_ _)); refine blk_put (cs := #[.string t112, .int .i64 t113, .int .i64 t114, .int .i64 t115, .int .i64 t116, .int .i64 t117, .int .i64 t118, .string (⟨#[]⟩ : ByteArray)]) ?_ 7 _ rfl; (with_reducible repeat (first | refine blk_drewN ?_ _ | refine blk_drew ?_ | refine blk_alloc ?_ _)); refine blk_put (cs := #[.string t112, .int .i64 t113, .int .i64 t114, .int .i64 t115, .int .i64 t116, .int .i64 t117, .int .i64 0, .string (⟨#[]⟩ : ByteArray)]) ?_ 6 _ rfl; (with_reducible repeat (first | refine blk_drewN ?_ _ | refine blk_drew ?_ | refine blk_alloc ?_ _)); refine blk_put (cs := #[.string t112, .int .i64 t113, .int .i64 t114, .int .i64 t115, .int .i64 t116, .int .i64 0, .int .i64 0, .string (⟨#[]⟩ : ByteArray)]) ?_ 5 _ rfl; (with_reducible repeat (first | refine blk_drewN ?_ _ | refine blk_drew ?_ | refine blk_alloc ?_ _)); refine blk_put (cs := #[.string t112, .int .i64 t113, .int .i64 t114, .int .i64 t115, .int .i64 0, .int .i64 0, .int .i64 0, .string (⟨#[]⟩ : ByteArray)]) ?_ 4 _ rfl; (with_reducible repeat (first | refine blk_drewN ?_ _ | refine blk_drew ?_ | refine blk_alloc ?_ _)); refine blk_put (cs := #[.string t112, .int .i64 t113, .int .i64 t114, .int .i64 0, .int .i64 0, .int .i64 0, .int .i64 0, .string (⟨#[]⟩ : ByteArray)]) ?_ 3 _ rfl; (with_reducible repeat (first | refine blk_drewN ?_ _ | refine blk_drew ?_ | refine blk_alloc ?_ _)); refine blk_put (cs := #[.string t112, .int .i64 t113, .int .i64 0, .int .i64 0, .int .i64 0, .int .i64 0, .int .i64 0, .string (⟨#[]⟩ : ByteArray)]) ?_ 2 _ rfl; (with_reducible repeat (first | refine blk_drewN ?_ _ | refine blk_drew ?_ | refine blk_alloc ?_ _)); refine blk_put (cs := #[.string t112, .int .i64 0, .int .i64 0, .int .i64 0, .int .i64 0, .int .i64 0, .int .i64 0, .string (⟨#[]⟩ : ByteArray)]) ?_ 1 _ rfl; (with_reducible repeat (first | refine blk_drewN ?_ _ | refine blk_drew ?_ | refine blk_alloc ?_ _)); refine blk_put (cs := #[.string (⟨#[]⟩ : ByteArray), .int .i64 0, .int .i64 0, .int .i64 0, .int .i64 0, .int .i64 0, .int .i64 0, .string (⟨#[]⟩ : ByteArray)]) ?_ 0 _ rfl; (with_reducible repeat (first | refine blk_drewN ?_ _ | refine blk_drew ?_ | refine blk_alloc ?_ _)); exact BK122.out) k_ hk)); (case aO => exact (by (with_reducible repeat (first | apply Kd.R_alloc | apply Kd.R_drewN | apply Kd.R_drew)); exact Kd.R_mono (Kd.R_far (p := ⟨gb122, 7, none⟩) (Kd.R_far (p := ⟨gb122, 6, none⟩) (Kd.R_far (p := ⟨gb122, 5, none⟩) (Kd.R_far (p := ⟨gb122, 4, none⟩) (Kd.R_far (p := ⟨gb122, 3, none⟩) (Kd.R_far (p := ⟨gb122, 2, none⟩) (Kd.R_far (p := ⟨gb122, 1, none⟩) (Kd.R_far (p := ⟨gb122, 0, none⟩) (Kd.R_mono HO_5.out (fun k_ hk => (⟨hk, hk.2⟩ : _ ∧ k_ ≠ gb122))) (fun _ hk => hk.2) (.string t112)) (fun _ hk => hk.2) (.int .i64 t113)) (fun _ hk => hk.2) (.int .i64 t114)) (fun _ hk => hk.2) (.int .i64 t115)) (fun _ hk => hk.2) (.int .i64 t116)) (fun _ hk => hk.2) (.int .i64 t117)) (fun _ hk => hk.2) (.int .i64 t118)) (fun _ hk => hk.2) (.string t119)) (fun _ hk => hk.1.2))); (case aS => exact (below_size (by repeat (first | (with_reducible first | exact HB.out | apply below_alloc | apply pw_below_drewN | apply below_drew1 | refine below_set ?_ GE122.out) | exact HB.out)))); (case aL => have := LMc20.out; omega); intro v124 w26 ho hb hg hat; rw [← Ny123.out] at ho; have n0_ := Aside0.mk (Kd.R_over' (by (with_reducible repeat (first | apply Kd.R_alloc | apply Kd.R_drewN | apply Kd.R_drew)); exact (Kd.R_mono (Kd.R_far (p := ⟨gb122, 7, none⟩) (Kd.R_far (p := ⟨gb122, 6, none⟩) (Kd.R_far (p := ⟨gb122, 5, none⟩) (Kd.R_far (p := ⟨gb122, 4, none⟩) (Kd.R_far (p := ⟨gb122, 3, none⟩) (Kd.R_far (p := ⟨gb122, 2, none⟩) (Kd.R_far (p := ⟨gb122, 1, none⟩) (Kd.R_far (p := ⟨gb122, 0, none⟩) (Kd.R_types HO_6.out BK122.out (by decide)) (fun _ hk => hk.2) (.string t112)) (fun _ hk => hk.2) (.int .i64 t113)) (fun _ hk => hk.2) (.int .i64 t114)) (fun _ hk => hk.2) (.int .i64 t115)) (fun _ hk => hk.2) (.int .i64 t116)) (fun _ hk => hk.2) (.int .i64 t117)) (fun _ hk => hk.2) (.int .i64 t118)) (fun _ hk => hk.2) (.string t119)) (fun _ h_ => h_.1))) (Kd.R_typed (by (with_reducible repeat (first | apply Kd.R_alloc | apply Kd.R_drewN | apply Kd.R_drew)); exact (Kd.R_mono (Kd.R_far (p := ⟨gb122, 7, none⟩) (Kd.R_far (p := ⟨gb122, 6, none⟩) (Kd.R_far (p := ⟨gb122, 5, none⟩) (Kd.R_far (p := ⟨gb122, 4, none⟩) (Kd.R_far (p := ⟨gb122, 3, none⟩) (Kd.R_far (p := ⟨gb122, 2, none⟩) (Kd.R_far (p := ⟨gb122, 1, none⟩) (Kd.R_far (p := ⟨gb122, 0, none⟩) (Kd.R_mono HO_5.out (fun k_ hk => (⟨hk, hk.2⟩ : _ ∧ k_ ≠ gb122))) (fun _ hk => hk.2) (.string t112)) (fun _ hk => hk.2) (.int .i64 t113)) (fun _ hk => hk.2) (.int .i64 t114)) (fun _ hk => hk.2) (.int .i64 t115)) (fun _ hk => hk.2) (.int .i64 t116)) (fun _ hk => hk.2) (.int .i64 t117)) (fun _ hk => hk.2) (.int .i64 t118)) (fun _ hk => hk.2) (.string t119)) (fun _ h_ => h_.1)))) (by decide) hg); have n1_ := Aside0.mk (blk_grown (g := gb122) (o := .cells #[.string t112, .int .i64 t113, .int .i64 t114, .int .i64 t115, .int .i64 t116, .int .i64 t117, .int .i64 t118, .string t119] 31 (0, 0)) (by (with_reducible repeat (first | refine blk_drewN ?_ _ | refine blk_drew ?_ | refine blk_alloc ?_ _)); refine blk_put (cs := #[.string t112, .int .i64 t113, .int .i64 t114, .int .i64 t115, .int .i64 t116, .int .i64 t117, .int .i64 t118, .string (⟨#[]⟩ : ByteArray)]) ?_ 7 _ rfl; (with_reducible repeat (first | refine blk_drewN ?_ _ | refine blk_drew ?_ | refine blk_alloc ?_ _)); refine blk_put (cs := #[.string t112, .int .i64 t113, .int .i64 t114, .int .i64 t115, .int .i64 t116, .int .i64 t117, .int .i64 0, .string (⟨#[]⟩ : ByteArray)]) ?_ 6 _ rfl; (with_reducible repeat (first | refine blk_drewN ?_ _ | refine blk_drew ?_ | refine blk_alloc ?_ _)); refine blk_put (cs := #[.string t112, .int .i64 t113, .int .i64 t114, .int .i64 t115, .int .i64 t116, .int .i64 0, .int .i64 0, .string (⟨#[]⟩ : ByteArray)]) ?_ 5 _ rfl; (with_reducible repeat (first | refine blk_drewN ?_ _ | refine blk_drew ?_ | refine blk_alloc ?_ _)); refine blk_put (cs := #[.string t112, .int .i64 t113, .int .i64 t114, .int .i64 t115, .int .i64 0, .int .i64 0, .int .i64 0, .string (⟨#[]⟩ : ByteArray)]) ?_ 4 _ rfl; (with_reducible repeat (first | refine blk_drewN ?_ _ | refine blk_drew ?_ | refine blk_alloc ?_ _)); refine blk_put (cs := #[.string t112, .int .i64 t113, .int .i64 t114, .int .i64 0, .int .i64 0, .int .i64 0, .int .i64 0, .string (⟨#[]⟩ : ByteArray)]) ?_ 3 _ rfl; (with_reducible repeat (first | refine blk_drewN ?_ _ | refine blk_drew ?_ | refine blk_alloc ?_ _)); refine blk_put (cs := #[.string t112, .int .i64 t113, .int .i64 0, .int .i64 0, .int .i64 0, .int .i64 0, .int .i64 0, .string (⟨#[]⟩ : ByteArray)]) ?_ 2 _ rfl; (with_reducible repeat (first | refine blk_drewN ?_ _ | refine blk_drew ?_ | refine blk_alloc ?_ _)); refine blk_put (cs := #[.string t112, .int .i64 0, .int .i64 0, .int .i64 0, .int .i64 0, .int .i64 0, .int .i64 0, .string (⟨#[]⟩ : ByteArray)]) ?_ 1 _ rfl; (with_reducible repeat (first | refine blk_drewN ?_ _ | refine blk_drew ?_ | refine blk_alloc ?_ _)); refine blk_put (cs := #[.string (⟨#[]⟩ : ByteArray), .int .i64 0, .int .i64 0, .int .i64 0, .int .i64 0, .int .i64 0, .int .i64 0, .string (⟨#[]⟩ : ByteArray)]) ?_ 0 _ rfl; (with_reducible repeat (first | refine blk_drewN ?_ _ | refine blk_drew ?_ | refine blk_alloc ?_ _)); exact BK122.out) hg (Kd.R_away HO_5.out (fun _ hk => hk.2))); have n2_ := Aside0.mk (hb); have n3_ := Aside0.mk (ho); clear HO_6; clear BK122; clear HB; clear HO_5; have HO_6 := n0_; have BK122 := n1_; have HB := n2_; have HO125 := n3_; clear n0_ n1_ n2_ n3_; clear ho hb hg hat) | ((with_reducible refine gate_builtin (b := .append) (xs := #[.tmp 58, .tmp 60]) rfl ?_); at_builtin; refine Kd.R_append (Kd.int .i64) (w0 := w) w.heap.size rfl (.tmp 58) (.tmp 60) 27 3 (.int .i64 0) 8 rfl Try.underlying27 info3 rfl (by decide) (by omega) u6 x6_1 x7_1 [.int .i64 x7_1] (fun _ => True) (fun _ => False) rfl rfl ?aP (fun _ hk => hk.elim) ?aF ?aO ?aB ?aS ?aL ?_; (case aP => exact rfl); (case aB => exact (by repeat (first | (with_reducible first | exact HB.out | apply below_alloc | apply pw_below_drewN | apply below_drew1 | refine below_set ?_ GE122.out) | exact HB.out))); (case aF => exact (fun _ _ => trivial)); (case aO => exact (by (with_reducible repeat (first | apply Kd.R_alloc | apply Kd.R_drewN | apply Kd.R_drew)); exact HO_6.out)); (case aS => exact (below_size (by repeat (first | (with_reducible first | exact HB.out | apply below_alloc | apply pw_below_drewN | apply below_drew1 | refine below_set ?_ GE122.out) | exact HB.out)))); (case aL => have := LMc21.out; omega); intro v127 w27 ho hb hg hat; rw [← Ny126.out] at ho; have n0_ := Aside0.mk (blk_grown (g := gb122) (o := .cells #[.string t112, .int .i64 t113, .int .i64 t114, .int .i64 t115, .int .i64 t116, .int .i64 t117, .int .i64 t118, .string t119] 31 (0, 0)) (by (with_reducible repeat (first | refine blk_drewN ?_ _ | refine blk_drew ?_ | refine blk_alloc ?_ _)); exact BK122.out) hg (Kd.R_ne HO_6.out BK122.out (by decide))); have n1_ := Aside0.mk (Kd.R_over' (by (with_reducible repeat (first | apply Kd.R_alloc | apply Kd.R_drewN | apply Kd.R_drew)); exact HO125.out) (Kd.R_typed (by (with_reducible repeat (first | apply Kd.R_alloc | apply Kd.R_drewN | apply Kd.R_drew)); exact HO_6.out)) (by decide) hg); have n2_ := Aside0.mk (hb); have n3_ := Aside0.mk (ho); clear BK122; clear HO125; clear HB; clear HO_6; have BK122 := n0_; have HO125 := n1_; have HB := n2_; have HO128 := n3_; clear n0_ n1_ n2_ n3_; clear ho hb hg hat))
          go_roundg k1
          case measure => have := HK1.out; omega
          case rel => exact ⟨(y123), (y126), (wrap64 (x7_1 + t120)), (by first | rfl | (simp; done) | (simp [*]; done)), H', ⟨by have := HK1.out; omega⟩, ⟨by (with_reducible repeat (first | apply Kd.R_alloc | apply Kd.R_drewN | apply Kd.R_drew)); exact Kd.R_mono HO125.out (fun _ hk => trivial)⟩, ⟨by (with_reducible repeat (first | apply Kd.R_alloc | apply Kd.R_drewN | apply Kd.R_drew)); exact HO128.out⟩, ⟨by repeat (first | (with_reducible first | exact HB.out | apply below_alloc | apply pw_below_drewN | apply below_drew1 | refine below_set ?_ GE122.out) | exact HB.out)⟩⟩
        ·rw [if_neg c14] at H
         have c14b0 : (t121 == 0) = false := beq_eq_false_iff_ne.mpr c14
         have c14b1 : (t121 != 0) = true := bne_iff_ne.mpr c14
         simp only [Option.some.injEq, Prod.mk.injEq] at H
         obtain ⟨rfl, rfl, rfl⟩ := H
         have p9 : 0 ≤ (0 : Int) := (by omega)
         have q9 : 0 < (a0.extract (x7_1 : Int).toNat ((wrap64 ((wrap64 ((wrap64 (Int.tdiv x7_1 2048)) + 1)) * 2048)) : Int).toNat).size := (by have : (0 : Int) < ((a0.extract (x7_1 : Int).toNat ((wrap64 ((wrap64 ((wrap64 (Int.tdiv x7_1 2048)) + 1)) * 2048)) : Int).toNat).size : Int) := of_decide_eq_true (by first | (with_reducible assumption) | assumption); omega)
         have hx9 : ∀ h : 0 < (a0.extract (x7_1 : Int).toNat ((wrap64 ((wrap64 ((wrap64 (Int.tdiv x7_1 2048)) + 1)) * 2048)) : Int).toNat).size, (((a0.extract (x7_1 : Int).toNat ((wrap64 ((wrap64 ((wrap64 (Int.tdiv x7_1 2048)) + 1)) * 2048)) : Int).toNat)[0]'h).toNat : Int) = bt (a0.extract (x7_1 : Int).toNat ((wrap64 ((wrap64 ((wrap64 (Int.tdiv x7_1 2048)) + 1)) * 2048)) : Int).toNat) 0 := bt_at (a0.extract (x7_1 : Int).toNat ((wrap64 ((wrap64 ((wrap64 (Int.tdiv x7_1 2048)) + 1)) * 2048)) : Int).toNat) 0
         clear p9
         have qi9 : (0 < ((a0.extract (x7_1 : Int).toNat ((wrap64 ((wrap64 ((wrap64 (Int.tdiv x7_1 2048)) + 1)) * 2048)) : Int).toNat).size : Int)) = True := eq_true (of_decide_eq_true (by first | (with_reducible assumption) | assumption))
         replace q9 := eq_true q9
         have p11 : 0 ≤ (0 : Int) := (by omega)
         have q11 : 0 < (a0.extract (x7_1 : Int).toNat ((wrap64 ((wrap64 ((wrap64 (Int.tdiv x7_1 2048)) + 1)) * 2048)) : Int).toNat).size := (by have : (0 : Int) < ((a0.extract (x7_1 : Int).toNat ((wrap64 ((wrap64 ((wrap64 (Int.tdiv x7_1 2048)) + 1)) * 2048)) : Int).toNat).size : Int) := of_decide_eq_true (by first | (with_reducible assumption) | assumption); omega)
         have hx11 : ∀ h : 0 < (a0.extract (x7_1 : Int).toNat ((wrap64 ((wrap64 ((wrap64 (Int.tdiv x7_1 2048)) + 1)) * 2048)) : Int).toNat).size, (((a0.extract (x7_1 : Int).toNat ((wrap64 ((wrap64 ((wrap64 (Int.tdiv x7_1 2048)) + 1)) * 2048)) : Int).toNat)[0]'h).toNat : Int) = bt (a0.extract (x7_1 : Int).toNat ((wrap64 ((wrap64 ((wrap64 (Int.tdiv x7_1 2048)) + 1)) * 2048)) : Int).toNat) 0 := bt_at (a0.extract (x7_1 : Int).toNat ((wrap64 ((wrap64 ((wrap64 (Int.tdiv x7_1 2048)) + 1)) * 2048)) : Int).toNat) 0
         clear p11
         have qi11 : (0 < ((a0.extract (x7_1 : Int).toNat ((wrap64 ((wrap64 ((wrap64 (Int.tdiv x7_1 2048)) + 1)) * 2048)) : Int).toNat).size : Int)) = True := eq_true (of_decide_eq_true (by first | (with_reducible assumption) | assumption))
         replace q11 := eq_true q11
         go_wp2_with (first | ((with_reducible refine gate_callee (f := 26) rfl ?_); refine goesL_ (some 44) rfl rfl Try.func26 (by kernel_rfl) rfl #[.string (a0.extract (x7_1 : Int).toNat ((wrap64 ((wrap64 ((wrap64 (Int.tdiv x7_1 2048)) + 1)) * 2048)) : Int).toNat)] rfl (by (try simp only [List.map_toArray, List.map_cons, List.map_nil]); first | done | rfl | (simp only [List.length_drop, List.length_take]; rfl)) ?_; (with_reducible refine (dirrecord_Decode.calls k1 (a0.extract (x7_1 : Int).toNat ((wrap64 ((wrap64 ((wrap64 (Int.tdiv x7_1 2048)) + 1)) * 2048)) : Int).toNat) t112 t113 t114 t115 t116 t117 t118 t119 t120 t121 _ A13.out).mono ?_); rintro e w28 ⟨rfl, hb⟩; refine ⟨_, rfl, ?_⟩; have n0_ := Aside0.mk (Kd.R_below (by (with_reducible repeat (first | apply Kd.R_alloc | apply Kd.R_drewN | apply Kd.R_drew)); exact HO_5.out) hb); have n1_ := Aside0.mk (Kd.R_below (by (with_reducible repeat (first | apply Kd.R_alloc | apply Kd.R_drewN | apply Kd.R_drew)); exact HO_6.out) hb); have n2_ := Aside0.mk (below_step (by repeat (first | (with_reducible first | exact HB.out | apply below_alloc | apply pw_below_drewN | apply below_drew1) | exact HB.out)) hb); clear HO_5; clear HO_6; clear HB; have HO_5 := n0_; have HO_6 := n1_; have HB := n2_; clear n0_ n1_ n2_; (try clear hb); (try clear hb2); (try clear hk); (try clear hi)) | ((with_reducible refine gate_dst (N := 10) rfl ?_); refine box_event ?hg (N := 10) ?hd (cs := #[.string (⟨#[]⟩ : ByteArray), .int .i64 0, .int .i64 0, .int .i64 0, .int .i64 0, .int .i64 0, .int .i64 0, .string (⟨#[]⟩ : ByteArray)]) (t := 31) ?hr ?_; (case hd => rfl); (case hg => rfl); (case hr => first | (go_simp; done) | (go_simp; rfl)); intro gb122 hg w29 hbox hb; have n0_ := Aside0.mk (Kd.R_below (Kd.R_elderB (by (with_reducible repeat (first | apply Kd.R_alloc | apply Kd.R_drewN | apply Kd.R_drew)); exact HO_5.out) gb122 (Nat.le_of_eq hg.symm)) hb); have n1_ := Aside0.mk (Kd.R_below (by (with_reducible repeat (first | apply Kd.R_alloc | apply Kd.R_drewN | apply Kd.R_drew)); exact HO_6.out) hb); have n2_ := Aside0.mk (below_step (by repeat (first | (with_reducible first | exact HB.out | apply below_alloc | apply pw_below_drewN | apply below_drew1) | exact HB.out)) hb); have n3_ := Aside0.mk (hbox); have n4_ := Aside0.mk ((by rw [hg]; exact (below_size (by repeat (first | (with_reducible first | exact HB.out | apply below_alloc | apply pw_below_drewN | apply below_drew1) | exact HB.out))) : w.heap.size ≤ gb122)); have n5_ := Aside0.mk ((by rw [hg]; exact (below_size (by repeat (first | (with_reducible first | exact HB.out | apply below_alloc | apply pw_below_drewN | apply below_drew1) | exact HB.out))) : w.heap.size ≤ gb122)); clear HO_5; clear HO_6; clear HB; have HO_5 := n0_; have HO_6 := n1_; have HB := n2_; have BK122 := n3_; have GW122 := n4_; have GE122 := n5_; clear n0_ n1_ n2_ n3_ n4_ n5_; clear hb hbox hg; have hcz30_0 : w29.cell? ⟨gb122, 0, none⟩ = some (.string (⟨#[]⟩ : ByteArray)) := (blk_cell BK122.out 0).trans rfl; have hcz30_1 : w29.cell? ⟨gb122, 1, none⟩ = some (.int .i64 0) := (blk_cell BK122.out 1).trans rfl; have hcz30_2 : w29.cell? ⟨gb122, 2, none⟩ = some (.int .i64 0) := (blk_cell BK122.out 2).trans rfl; have hcz30_3 : w29.cell? ⟨gb122, 3, none⟩ = some (.int .i64 0) := (blk_cell BK122.out 3).trans rfl; have hcz30_4 : w29.cell? ⟨gb122, 4, none⟩ = some (.int .i64 0) := (blk_cell BK122.out 4).trans rfl; have hcz30_5 : w29.cell? ⟨gb122, 5, none⟩ = some (.int .i64 0) := (blk_cell BK122.out 5).trans rfl; have hcz30_6 : w29.cell? ⟨gb122, 6, none⟩ = some (.int .i64 0) := (blk_cell BK122.out 6).trans rfl; have hcz30_7 : w29.cell? ⟨gb122, 7, none⟩ = some (.string (⟨#[]⟩ : ByteArray)) := (blk_cell BK122.out 7).trans rfl; have hfz30_0 := blk_frozen BK122.out 0; have hfz30_1 := blk_frozen BK122.out 1; have hfz30_2 := blk_frozen BK122.out 2; have hfz30_3 := blk_frozen BK122.out 3; have hfz30_4 := blk_frozen BK122.out 4; have hfz30_5 := blk_frozen BK122.out 5; have hfz30_6 := blk_frozen BK122.out 6; have hfz30_7 := blk_frozen BK122.out 7))
         go_ret3
         exact ⟨_, _, by first | rfl | (simp [errW_none, errW_some] <;> rfl) | (simp [*, errW_none, errW_some] <;> rfl), by first | exact Kd.R_nil _ _ _ _ _ | exact Kd.N_nil _ _ _ _ _ | exact Kd.V_nil _ _ _ _ _ | exact Kd.Q_nil _ _ _ _ _ | exact Kd.S_nil _ _ _ _ _, by first | exact Kd.R_nil _ _ _ _ _ | exact Kd.N_nil _ _ _ _ _ | exact Kd.V_nil _ _ _ _ _ | exact Kd.Q_nil _ _ _ _ _ | exact Kd.S_nil _ _ _ _ _, by repeat (first | (with_reducible first | exact HB.out | apply below_alloc | apply pw_below_drewN | apply below_drew1 | refine below_set ?_ GE122.out) | exact HB.out)⟩
     ·rw [if_neg c4] at H
      have c4b0 : decide (x7_1 < (a0.size : Int)) = false := decide_eq_false c4
      clear c4
      simp only [Option.some.injEq, Prod.mk.injEq] at H
      obtain ⟨rfl, rfl, rfl⟩ := H
      go_wp2
      go_ret3
      exact ⟨_, _, by first | rfl | (simp [errW_none, errW_some] <;> rfl) | (simp [*, errW_none, errW_some] <;> rfl), by (with_reducible repeat (first | apply Kd.R_alloc | apply Kd.R_drewN | apply Kd.R_drew)); exact HO_5.out, by (with_reducible repeat (first | apply Kd.R_alloc | apply Kd.R_drewN | apply Kd.R_drew)); exact HO_6.out, by repeat (first | (with_reducible first | exact HB.out | apply below_alloc | apply pw_below_drewN | apply below_drew1) | exact HB.out)⟩
 ·rw [if_neg c2] at H
  have c2b0 : (((a0.size : Int) % 2048) == 0) = false := beq_eq_false_iff_ne.mpr c2
  have c2b1 : (((a0.size : Int) % 2048) != 0) = true := bne_iff_ne.mpr c2
  simp only [Option.some.injEq, Prod.mk.injEq] at H
  obtain ⟨rfl, rfl, rfl⟩ := H
  go_enter Try.func10, Try.ntmps10
  go_wp2
  go_ret3
  exact ⟨_, _, by first | rfl | (simp [errW_none, errW_some] <;> rfl) | (simp [*, errW_none, errW_some] <;> rfl), by first | exact Kd.R_nil _ _ _ _ _ | exact Kd.N_nil _ _ _ _ _ | exact Kd.V_nil _ _ _ _ _ | exact Kd.Q_nil _ _ _ _ _ | exact Kd.S_nil _ _ _ _ _, by first | exact Kd.R_nil _ _ _ _ _ | exact Kd.N_nil _ _ _ _ _ | exact Kd.V_nil _ _ _ _ _ | exact Kd.Q_nil _ _ _ _ _ | exact Kd.S_nil _ _ _ _ _, by repeat (first | (with_reducible first | exact HB.out | apply below_alloc | apply pw_below_drewN | apply below_drew1) | exact HB.out)⟩

end Go.Proofs.Ythblghfobnhoeaa.H
namespace Go.Proofs.Ythblghfobnhoeaa.H
open Go.RowKit Go.Proofs.YthblghfobnhoeaaW.PrintWords Go.Proofs.YthblghfobnhoeaaW.PrintLast Go.Proofs.YthblghfobnhoeaaW.PrintMore Go.Proofs.Ythblghfobnhoeaa.A
set_option linter.unusedVariables false
set_option linter.unusedSimpArgs false

/-! directory.Sort's order, and the call of a function value that has captured something. -/
section
variable {P : Program} {ops : Array Oper} {Q : Exit → Act → World → Prop}
/-- A call of a function value that is known, with what it has captured. -/
theorem goesC_ {oi : Oper} {N : Option Tmp} {a : Act} {w : World} {K : Act → World → Prop} {f : FuncId} {fn : Func} {av : Array Operand} {ts : Array TypeId} {t : Tmp} {lb : Array Value} (hf : P.funcs[f]? = some fn) (hname : (fn.name == "runtime.NumGoroutine") = false) (hb : fn.body.isSome = true) (args : Array Value)
  (hw : Region.wanted oi (yielded ops a.tmps) = true) (hN : oi.dst = N) (hop : oi.op = .call { callee := .value (.tmp t), args := av, argTypes := ts }) (hfn : a.eval (.tmp t) = .func (.func f) #[] lb) (hargs : av.map a.eval ++ lb = args)
  (h : Calls P f args w fun e w' => ∃ v, e = .returned v ∧ K (a.put N v) w') : if Region.wanted oi (yielded ops a.tmps) = true then Oper.wp P oi a w K Q else K (a.put N undef) w := by
 refine Go.Proofs.YthblghfobnhoeaaW.PrintLast.call_ f args hw hN ?_ h
 have he := Go.Proofs.YthblghfobnhoeaaW.PrintLast.enters_ hf hname hb args w
 unfold execOp
 simp [hop, resolve, Deferred.ofValue, invoke, hfn, hargs, he]
/-- A whole element of a row of the call's own is written, in a region that draws its order. -/
theorem stR_ {oi : Oper} {a : Act} {W w0 w00 : World} {K : Act → World → Prop} {S : Nat → Prop} {α : Type} (d : Kd α) {e base g n cap o : Nat} {ok : Nat → Prop} {xs : List α} {u : Value} (hw : Region.wanted oi (yielded ops a.tmps) = true) (hN : oi.dst = none)
  (t : TypeId) (p x : Operand) (ho : oi.op = .store t p x) {i : Int} {x' : α} (haddr : a.eval p = .pointer (some ⟨g, o, none⟩)) (hoff : o = i.toNat * d.sz) (hx : a.eval x = u) (hsz : (P.info? t).map (·.size) = some u.cells.toList.length) (h1 : ∀ q ∈ u.cells.toList, q.oneCell' = true)
  (hlen : u.cells.toList.length = d.sz) (hM : ∀ W : World, d.M W base (fun k => ok k ∧ k ≠ g) x' u.cells.toList) (HO : d.R e W base ok (.slice (some ⟨g, 0, none⟩) n cap) xs) (h0 : 0 ≤ i) (hi : i < (n : Int)) (HK : Kept w0 W S) (hS : S g ∨ w0.heap.size ≤ g) (HB : Below base w00 W)
  (h : ∀ w1, d.R e w1 base ok (.slice (some ⟨g, 0, none⟩) n cap) (xs.set i.toNat x') → Kept w0 w1 S → Below base w00 w1 → K a w1) : if Region.wanted oi (yielded ops a.tmps) = true then Oper.wp P oi a W K Q else K (a.put none undef) W := by
 subst hoff
 obtain ⟨c, hcl, _, hcc, hfr⟩ := Kd.R_elem HO x' i h0 hi
 obtain ⟨hrow, hg⟩ := Kd.R_seg (seg := u.cells.toList) (j := 0) HO i h0 hi hcl hcc (by omega) (x' := x') (okp := fun k => ok k ∧ k ≠ g) (by
  have hz : c.drop (0 + u.cells.toList.length) = [] := List.drop_of_length_le (by omega)
  rw [List.take_zero, hz, List.append_nil, List.nil_append]
  exact hM W) (fun k hk => hk)
 have hbg : base ≤ g := Kd.R_base HO g (by simp [Value.ownBlock])
 have hrun : (execOp a.eval oi).run P W = .ok .skip (W.setCells g (i.toNat * d.sz + 0) u.cells.toList) := by
  obtain ⟨_, inner, hown, hr⟩ := HO
  rcases hown.2 with ⟨hv, _⟩ | ⟨g', cap', cur, hv, hb, hh, hnc, hcm, hcs, _⟩
  ·cases hv
  injection hv with ha _ hc
  injection ha with ha
  injection ha with hg'
  subst hg'; subst hc
  have hil : i.toNat < n := by omega
  have h2 : i.toNat * d.sz + d.sz ≤ n * d.sz := by rw [← Nat.succ_mul]; exact Nat.mul_le_mul_right _ hil
  have h3 : n * d.sz ≤ cap * d.sz := Nat.mul_le_mul_right _ (by omega)
  have hst := run_store_run (P := P) t u u.cells.toList (o := i.toNat * d.sz) hh rfl hsz (by omega) h1
  unfold execOp
  simp only [ho, haddr, hx, Sem.run_bind, Sem.run_pure, Result.andThen_ok, hst]
  rfl
 refine Go.Proofs.YthblghfobnhoeaaW.PrintLast.skip_ hw hN hrun (h _ hrow (Kept.of_grown hg HK (fun k hk => by injection hk with hk; exact hk ▸ hS)) ?_)
 exact HB.trans ⟨hg.os, hg.tape, hg.output, hg.size, fun k hk => by
  rcases Nat.lt_or_ge k W.heap.size with hlt | hge
  ·exact hg.block k hlt (fun he => by injection he with he; omega)
  ·exact setCells_far u.cells.toList _ k (by omega)⟩
end

/-- directory.Sort's order of two records. -/
def directory_Sort_1.f (x0 : ByteArray) (x1 x2 x3 x4 x5 x6 : Int) (x7 y0 : ByteArray) (y1 y2 y3 y4 y5 y6 : Int) (y7 : ByteArray) (a : Bool) : Option Int := directory_Compare.f 400 x0 y0 a
set_option maxRecDepth 100000 in
set_option maxHeartbeats 4000000 in
theorem directory_Sort_1.calls (x0 : ByteArray) (x1 x2 x3 x4 x5 x6 : Int) (x7 y0 : ByteArray) (y1 y2 y3 y4 y5 y6 : Int) (y7 : ByteArray) (a : Bool) (r : Int) (w0 w : World) (cw : Addr) (hcw : Aside0 (w0.cell? cw = some (.bool a))) (hB : Below w0.heap.size w0 w) (h : directory_Sort_1.f x0 x1 x2 x3 x4 x5 x6 x7 y0 y1 y2 y3 y4 y5 y6 y7 a = some r) :
  Calls Try.prog 31 #[.agg #[.string x0, .int .i64 x1, .int .i64 x2, .int .i64 x3, .int .i64 x4, .int .i64 x5, .int .i64 x6, .string x7], .agg #[.string y0, .int .i64 y1, .int .i64 y2, .int .i64 y3, .int .i64 y4, .int .i64 y5, .int .i64 y6, .string y7], .pointer (some cw)] w fun e w' => e = .returned (.int .i64 r) ∧ Below w.heap.size w w' := by
 have hc0 : w.cell? cw = some (.bool a) := (hB.cell (World.block_lt_of_cell? _ _ hcw.out)).trans hcw.out
 have hlt := World.block_lt_of_cell? _ _ hc0
 have hbel := Lib.hid (((Below.refl w.heap.size w).alloc (Nat.le_refl _) (.cells #[.string x0, .int .i64 x1, .int .i64 x2, .int .i64 x3, .int .i64 x4, .int .i64 x5, .int .i64 x6, .string x7] 31)).alloc (by simp) (.cells #[.string y0, .int .i64 y1, .int .i64 y2, .int .i64 y3, .int .i64 y4, .int .i64 y5, .int .i64 y6, .string y7] 31))
 have hc := (hbel.out.cell hlt).trans hc0
 have H := Lib.hid h
 clear h hc0 hcw hB
 go_enter Try.func31, Try.ntmps31
 go_wp2_with (go_at_call 5; refine (directory_Compare.calls 400 x0 y0 a r _ H.out).mono ?_; rintro e w2 ⟨rfl, hb2⟩)
 go_ret
 exact ⟨rfl, below_step hbel.out hb2⟩

end Go.Proofs.Ythblghfobnhoeaa.H
namespace Go.Proofs.Ythblghfobnhoeaa.H
open Go.RowKit Go.Proofs.Ythblghfobnhoeaa.A Go.Proofs.YthblghfobnhoeaaW.PrintWords Go.Proofs.YthblghfobnhoeaaW.PrintLast Go.Proofs.YthblghfobnhoeaaW.PrintMore
attribute [local go_sem] max2_int min2_int max_two min_two max_three min_three max_four min_four   -- for this text's walks alone
set_option linter.unusedVariables false
set_option linter.unusedSimpArgs false

/-! ### insSort: function 76 -/
mutual
def insSort.l0 : Nat → List (S31) → Int → Int → Bool → Int → Option ((List (S31)))
 | 0, _, _, _, _, _ => none
 | k + 1, x0, x1, x2, x3, x8 => if x8 < x2 then (insSort.l1 k x0 x1 x2 x3 x8 x8) else (some x0)
def insSort.l1 : Nat → List (S31) → Int → Int → Bool → Int → Int → Option ((List (S31)))
 | 0, _, _, _, _, _, _ => none
 | k + 1, x0, x1, x2, x3, x8, x9 => if x9 > x1 then (if 0 ≤ x9 then (if x9 < (x0.length : Int) then (if 0 ≤ (wrap64 (x9 - 1)) then (if (wrap64 (x9 - 1)) < (x0.length : Int) then ((directory_Sort_1.f ((rd_T31 x0 x9).f0) ((rd_T31 x0 x9).f1) ((rd_T31 x0 x9).f2) ((rd_T31 x0 x9).f3) ((rd_T31 x0 x9).f4) ((rd_T31 x0 x9).f5) ((rd_T31 x0 x9).f6) ((rd_T31 x0 x9).f7) ((rd_T31 x0 (wrap64 (x9 - 1))).f0) ((rd_T31 x0 (wrap64 (x9 - 1))).f1) ((rd_T31 x0 (wrap64 (x9 - 1))).f2) ((rd_T31 x0 (wrap64 (x9 - 1))).f3) ((rd_T31 x0 (wrap64 (x9 - 1))).f4) ((rd_T31 x0 (wrap64 (x9 - 1))).f5) ((rd_T31 x0 (wrap64 (x9 - 1))).f6) ((rd_T31 x0 (wrap64 (x9 - 1))).f7) x3).bind fun t140 => (if t140 < 0 then (insSort.l1 k ((x0.set (x9 : Int).toNat (⟨(rd_T31 x0 (wrap64 (x9 - 1))).f0, (rd_T31 x0 (wrap64 (x9 - 1))).f1, (rd_T31 x0 (wrap64 (x9 - 1))).f2, (rd_T31 x0 (wrap64 (x9 - 1))).f3, (rd_T31 x0 (wrap64 (x9 - 1))).f4, (rd_T31 x0 (wrap64 (x9 - 1))).f5, (rd_T31 x0 (wrap64 (x9 - 1))).f6, (rd_T31 x0 (wrap64 (x9 - 1))).f7⟩ : S31)).set ((wrap64 (x9 - 1)) : Int).toNat (⟨(rd_T31 x0 x9).f0, (rd_T31 x0 x9).f1, (rd_T31 x0 x9).f2, (rd_T31 x0 x9).f3, (rd_T31 x0 x9).f4, (rd_T31 x0 x9).f5, (rd_T31 x0 x9).f6, (rd_T31 x0 x9).f7⟩ : S31)) x1 x2 x3 x8 (wrap64 (x9 - 1))) else (insSort.l0 k x0 x1 x2 x3 (wrap64 (x8 + 1))))) else (none)) else (none)) else (none)) else (none)) else (insSort.l0 k x0 x1 x2 x3 (wrap64 (x8 + 1)))
end
def insSort.f (k : Nat) (l0 : List (S31)) (a1 : Int) (a2 : Int) (a3 : Bool) : Option ((List (S31))) := insSort.l0 k l0 a1 a2 a3 (wrap64 (a1 + 1))
theorem insSort.mono_l : ∀ k, (∀ y0 y1 y2 y3 y4, LeO (insSort.l0 k y0 y1 y2 y3 y4) (insSort.l0 (k + 1) y0 y1 y2 y3 y4)) ∧ (∀ y0 y1 y2 y3 y4 y5, LeO (insSort.l1 k y0 y1 y2 y3 y4 y5) (insSort.l1 (k + 1) y0 y1 y2 y3 y4 y5))
 | 0 => ⟨fun _ _ _ _ _ r h => by simp [insSort.l0] at h, fun _ _ _ _ _ _ r h => by simp [insSort.l1] at h⟩
 | k + 1 => by
  obtain ⟨ih0, ih1⟩ := insSort.mono_l k
  refine ⟨?_, ?_⟩
  ·intro y0 y1 y2 y3 y4
   unfold insSort.l0
   repeat' first
   | (with_reducible exact ih0 _ _ _ _ _)
   | (with_reducible exact ih1 _ _ _ _ _ _)
   | (with_reducible exact LeO.refl _)
   | (with_reducible exact LeO.none _)
   | (with_reducible refine LeO.ite ?_ ?_)
   | (with_reducible refine LeO.bind ?_ (fun _ => ?_))
   | exact ih0 _ _ _ _ _
   | exact ih1 _ _ _ _ _ _
   | exact LeO.none _
   | refine LeO.ite ?_ ?_
   | refine LeO.bind ?_ (fun _ => ?_)
  ·intro y0 y1 y2 y3 y4 y5
   unfold insSort.l1
   repeat' first
   | (with_reducible exact ih0 _ _ _ _ _)
   | (with_reducible exact ih1 _ _ _ _ _ _)
   | (with_reducible exact LeO.refl _)
   | (with_reducible exact LeO.none _)
   | (with_reducible refine LeO.ite ?_ ?_)
   | (with_reducible refine LeO.bind ?_ (fun _ => ?_))
   | exact ih0 _ _ _ _ _
   | exact ih1 _ _ _ _ _ _
   | exact LeO.none _
   | refine LeO.ite ?_ ?_
   | refine LeO.bind ?_ (fun _ => ?_)
theorem insSort.mono : ∀ a0 a1 a2 a3 k, LeO (insSort.f k a0 a1 a2 a3) (insSort.f (k + 1) a0 a1 a2 a3) := by
 intro a0 a1 a2 a3 k
 obtain ⟨ih0, ih1⟩ := insSort.mono_l k
 unfold insSort.f
 repeat' first
   | (with_reducible exact ih0 _ _ _ _ _)
   | (with_reducible exact ih1 _ _ _ _ _ _)
   | (with_reducible exact LeO.refl _)
   | (with_reducible exact LeO.none _)
   | (with_reducible refine LeO.ite ?_ ?_)
   | (with_reducible refine LeO.bind ?_ (fun _ => ?_))
   | exact ih0 _ _ _ _ _
   | exact ih1 _ _ _ _ _ _
   | exact LeO.none _
   | refine LeO.ite ?_ ?_
   | refine LeO.bind ?_ (fun _ => ?_)
def insSort.T4 : Bool × List (List Nat × List Nat) := (true, [([], []), ([], []), ([0, 1], [0, 1]), ([2], [2]), ([3], [3]), ([3], [3]), ([3], [3]), ([5, 6, 3], [3, 5, 6]), ([7, 3], [3, 7]), ([3], [3]), ([3], [3]), ([10, 3], [3, 10]), ([9, 11, 3], [3, 9, 11]), ([12, 3], [3, 12]), ([4, 8, 13, 3, 3], [3, 4, 8, 13]), ([14, 3], [3, 14]), ([3, 15], [3, 15])])
def insSort.B4 : List Nat := [0, 0, 3, 7, 15, 15, 15, 111, 239, 15, 15, 1039, 3599, 7695, 16383, 32767, 65535]
theorem insSort.tab4 : rtab .any (opsOf Try.f76 4) = insSort.T4 := by kernel_rfl
theorem insSort.bits4 : waitsOk insSort.T4.2 insSort.B4 = true := by kernel_rfl
def insSort.T6 : Bool × List (List Nat × List Nat) := (true, [([], []), ([], []), ([], []), ([], []), ([3], [3]), ([], []), ([], []), ([6], [6]), ([5, 7], [5, 7]), ([8], [8]), ([], []), ([], []), ([10, 11], [10, 11]), ([12], [12]), ([0, 1, 0, 1, 5, 6, 7, 8, 9, 13], [0, 1]), ([14, 9, 0, 1, 5, 6, 7, 8, 9, 13], [9, 14]), ([2, 4, 0, 1, 2, 3, 4, 5, 6, 7, 8, 9, 10, 11, 12, 13, 14, 15], [2, 4]), ([16, 13, 15, 0, 1, 2, 3, 4, 5, 6, 7, 8, 9, 10, 11, 12, 13, 14, 15], [13, 16])])
def insSort.B6 : List Nat := [0, 0, 0, 0, 8, 0, 0, 64, 224, 480, 0, 0, 3072, 7168, 16355, 32739, 65535, 131071]
theorem insSort.tab6 : rtab .any (opsOf Try.f76 6) = insSort.T6 := by kernel_rfl
theorem insSort.bits6 : waitsOk insSort.T6.2 insSort.B6 = true := by kernel_rfl
set_option maxHeartbeats 8000000 in
set_option maxRecDepth 100000 in
theorem insSort.calls (k : Nat) (P0_ : Nat → Prop) (u9000_ : Value) (l0 : List (S31)) (a1 : Int) (a2 : Int) (a3 : Bool) (r : List (S31)) (w0 w : World) (cw_ : Addr) (hcw_ : Aside0 (w0.cell? cw_ = some (.bool a3))) (hB : Below w0.heap.size w0 w) (ho0 : Kd.R k31 31 w w0.heap.size P0_ u9000_ l0) (h : insSort.f k l0 a1 a2 a3 = some r) :
  Calls Try.prog 76 #[u9000_, .int .i64 a1, .int .i64 a2, (.func (.func 31) #[] #[.pointer (some cw_)])] w fun e w' => e = .returned (.tuple #[]) ∧ Kd.R k31 31 w' w0.heap.size (fun k_ => (P0_ k_ ∨ w.heap.size ≤ k_)) u9000_ r ∧ Below w0.heap.size w0 w' ∧ Kept w w' (fun k_ => P0_ k_) := by
 have hu31 := Try.underlying31
 have HO0 := Aside0.mk (show Kd.R k31 31 w w0.heap.size (fun k_ => (P0_ k_ ∨ w.heap.size ≤ k_)) u9000_ l0 from Kd.R_mono ho0 (fun k_ hk => (.inl hk)))
 have HK := Aside0.mk (Kept.refl w (fun k_ => P0_ k_))
 have HW0 := Aside0.mk hB.size
 have HB := Aside0.mk hB
 clear hB
 have H : (insSort.l0 k l0 a1 a2 a3 (wrap64 (a1 + 1))) = some r := h
 clear h
 have H' := Aside0.mk H
 clear H
 go_enter Try.func76, Try.ntmps76
 go_wp2
 go_loopg [8] k (fun kq v8 w' => ∃ (x0_1 : List (S31)) (x8_1 : Int), v8 = .int .i64 x8_1 ∧ Aside0 (insSort.l0 kq x0_1 a1 a2 a3 x8_1 = some r) ∧ Aside0 (kq ≤ k) ∧ Aside0 (Kd.R k31 31 w' w0.heap.size (fun k_ => (P0_ k_ ∨ w.heap.size ≤ k_)) u9000_ x0_1) ∧ Aside0 (Kept w w' (fun k_ => P0_ k_)) ∧ Aside0 (Below w0.heap.size w0 w'))
 case atStart => exact ⟨(l0), (wrap64 (a1 + 1)), (by first | rfl | (simp; done) | (simp [*]; done)), H', ⟨Nat.le_refl _⟩, ⟨by (with_reducible repeat (first | apply Kd.R_alloc | apply Kd.R_drewN | apply Kd.R_drew)); exact HO0.out⟩, ⟨by repeat (first | (with_reducible first | exact HK.out | apply Kept.alloc | apply Kept.drewN | apply Kept.drew) | exact HK.out)⟩, ⟨by repeat (first | (with_reducible first | exact HB.out | apply below_alloc | apply pw_below_drewN | apply below_drew1) | exact HB.out)⟩⟩
 case round =>
  clear H'
  try clear p2
  obtain ⟨x0_1, x8_1, rfl, HA, HK1, HO_0, HK, HB⟩ := hrel
  cases gk with
  | zero => exact absurd HA.out (by simp [insSort.l0])
  | succ k1 =>
   have H := HA.out
   clear HA
   simp only [insSort.l0] at H
   by_cases c5 : x8_1 < a2
   ·rw [if_pos c5] at H
    have c5b0 : decide (x8_1 < a2) = true := decide_eq_true c5
    clear c5
    have H' := Aside0.mk H
    clear H
    go_wp2
    go_loopg [9] k1 (fun kq v9 w' => ∃ (x0_2 : List (S31)) (x9_2 : Int), v9 = .int .i64 x9_2 ∧ Aside0 (insSort.l1 kq x0_2 a1 a2 a3 x8_1 x9_2 = some r) ∧ Aside0 (kq ≤ k1) ∧ Aside0 (Kd.R k31 31 w' w0.heap.size (fun k_ => (P0_ k_ ∨ w.heap.size ≤ k_)) u9000_ x0_2) ∧ Aside0 (Kept w w' (fun k_ => P0_ k_)) ∧ Aside0 (Below w0.heap.size w0 w'))
    case atStart => exact ⟨(x0_1), (x8_1), (by first | rfl | (simp; done) | (simp [*]; done)), H', ⟨Nat.le_refl _⟩, ⟨by (with_reducible repeat (first | apply Kd.R_alloc | apply Kd.R_drewN | apply Kd.R_drew)); exact HO_0.out⟩, ⟨by repeat (first | (with_reducible first | exact HK.out | apply Kept.alloc | apply Kept.drewN | apply Kept.drew) | exact HK.out)⟩, ⟨by repeat (first | (with_reducible first | exact HB.out | apply below_alloc | apply pw_below_drewN | apply below_drew1) | exact HB.out)⟩⟩
    case round =>
     clear H'
     try clear p2
     try clear c5
     try clear c5b0
     try clear p2
     obtain ⟨x0_2, x9_2, rfl, HA, HK2, HO_0, HK, HB⟩ := hrel
     cases gk with
     | zero => exact absurd HA.out (by simp [insSort.l1])
     | succ k2 =>
      have H := HA.out
      clear HA
      simp only [insSort.l1] at H
      by_cases c6 : x9_2 > a1
      ·rw [if_pos c6] at H
       have c6b0 : decide (a1 < x9_2) = true := decide_eq_true c6
       clear c6
       by_cases c7 : 0 ≤ x9_2
       rotate_left
       ·rw [if_neg c7] at H
        exact absurd H (by simp)
       rw [if_pos c7] at H
       have c7b0 : decide (0 ≤ x9_2) = true := decide_eq_true c7
       clear c7
       by_cases c8 : x9_2 < (x0_2.length : Int)
       rotate_left
       ·rw [if_neg c8] at H
        exact absurd H (by simp)
       rw [if_pos c8] at H
       have c8b0 : decide (x9_2 < (x0_2.length : Int)) = true := decide_eq_true c8
       clear c8
       obtain ⟨ji9, hji9⟩ : ∃ j_ : Int, (wrap64 (x9_2 - 1)) = j_ := ⟨_, rfl⟩
       replace H : (if 0 ≤ (ji9) then (if (ji9) < (x0_2.length : Int) then ((directory_Sort_1.f ((rd_T31 x0_2 x9_2).f0) ((rd_T31 x0_2 x9_2).f1) ((rd_T31 x0_2 x9_2).f2) ((rd_T31 x0_2 x9_2).f3) ((rd_T31 x0_2 x9_2).f4) ((rd_T31 x0_2 x9_2).f5) ((rd_T31 x0_2 x9_2).f6) ((rd_T31 x0_2 x9_2).f7) ((rd_T31 x0_2 (ji9)).f0) ((rd_T31 x0_2 (ji9)).f1) ((rd_T31 x0_2 (ji9)).f2) ((rd_T31 x0_2 (ji9)).f3) ((rd_T31 x0_2 (ji9)).f4) ((rd_T31 x0_2 (ji9)).f5) ((rd_T31 x0_2 (ji9)).f6) ((rd_T31 x0_2 (ji9)).f7) a3).bind fun t140 => (if t140 < 0 then (insSort.l1 k2 ((x0_2.set (x9_2 : Int).toNat (⟨(rd_T31 x0_2 (ji9)).f0, (rd_T31 x0_2 (ji9)).f1, (rd_T31 x0_2 (ji9)).f2, (rd_T31 x0_2 (ji9)).f3, (rd_T31 x0_2 (ji9)).f4, (rd_T31 x0_2 (ji9)).f5, (rd_T31 x0_2 (ji9)).f6, (rd_T31 x0_2 (ji9)).f7⟩ : S31)).set ((ji9) : Int).toNat (⟨(rd_T31 x0_2 x9_2).f0, (rd_T31 x0_2 x9_2).f1, (rd_T31 x0_2 x9_2).f2, (rd_T31 x0_2 x9_2).f3, (rd_T31 x0_2 x9_2).f4, (rd_T31 x0_2 x9_2).f5, (rd_T31 x0_2 x9_2).f6, (rd_T31 x0_2 x9_2).f7⟩ : S31)) a1 a2 a3 x8_1 ji9) else (insSort.l0 k2 x0_2 a1 a2 a3 (wrap64 (x8_1 + 1))))) else (none)) else (none)) = some r := by first | (rw [hji9] at H; exact H) | (simp only [hji9] at H ⊢; exact H)
       have hji9w : (IntKind.i64.wrap (x9_2 - 1)) = ji9 := (i64_w _).trans hji9
       by_cases c10 : 0 ≤ (ji9)
       rotate_left
       ·rw [if_neg c10] at H
        exact absurd H (by simp)
       rw [if_pos c10] at H
       have c10b0 : decide (0 ≤ (ji9)) = true := decide_eq_true c10
       clear c10
       by_cases c11 : (ji9) < (x0_2.length : Int)
       rotate_left
       ·rw [if_neg c11] at H
        exact absurd H (by simp)
       rw [if_pos c11] at H
       have c11b0 : decide ((ji9) < (x0_2.length : Int)) = true := decide_eq_true c11
       clear c11
       replace H := Option.bind_eq_some_iff.mp H
       obtain ⟨t140, A120, H⟩ := H
       replace H : (if t140 < 0 then (insSort.l1 k2 ((x0_2.set (x9_2 : Int).toNat (⟨(rd_T31 x0_2 (ji9)).f0, (rd_T31 x0_2 (ji9)).f1, (rd_T31 x0_2 (ji9)).f2, (rd_T31 x0_2 (ji9)).f3, (rd_T31 x0_2 (ji9)).f4, (rd_T31 x0_2 (ji9)).f5, (rd_T31 x0_2 (ji9)).f6, (rd_T31 x0_2 (ji9)).f7⟩ : S31)).set ((ji9) : Int).toNat (⟨(rd_T31 x0_2 x9_2).f0, (rd_T31 x0_2 x9_2).f1, (rd_T31 x0_2 x9_2).f2, (rd_T31 x0_2 x9_2).f3, (rd_T31 x0_2 x9_2).f4, (rd_T31 x0_2 x9_2).f5, (rd_T31 x0_2 x9_2).f6, (rd_T31 x0_2 x9_2).f7⟩ : S31)) a1 a2 a3 x8_1 ji9) else (insSort.l0 k2 x0_2 a1 a2 a3 (wrap64 (x8_1 + 1)))) = some r := H
       have A12 := Aside0.mk A120
       clear A120
       by_cases c13 : t140 < 0
       ·rw [if_pos c13] at H
        have c13b0 : decide (t140 < 0) = true := decide_eq_true c13
        clear c13
        obtain ⟨y143, hy143⟩ : ∃ y_ : List (S31), y_ = (x0_2.set (x9_2 : Int).toNat (⟨(rd_T31 x0_2 (ji9)).f0, (rd_T31 x0_2 (ji9)).f1, (rd_T31 x0_2 (ji9)).f2, (rd_T31 x0_2 (ji9)).f3, (rd_T31 x0_2 (ji9)).f4, (rd_T31 x0_2 (ji9)).f5, (rd_T31 x0_2 (ji9)).f6, (rd_T31 x0_2 (ji9)).f7⟩ : S31)) := ⟨_, rfl⟩
        replace H : (insSort.l1 k2 (y143.set ((ji9) : Int).toNat (⟨(rd_T31 x0_2 x9_2).f0, (rd_T31 x0_2 x9_2).f1, (rd_T31 x0_2 x9_2).f2, (rd_T31 x0_2 x9_2).f3, (rd_T31 x0_2 x9_2).f4, (rd_T31 x0_2 x9_2).f5, (rd_T31 x0_2 x9_2).f6, (rd_T31 x0_2 x9_2).f7⟩ : S31)) a1 a2 a3 x8_1 ji9) = some r := by first | (rw [hy143]; with_reducible exact H) | (have H2_ := (Option.bind_some _ _).symm.trans H; rw [hy143]; with_reducible exact H2_) | (have H2_ := (Option.bind_some _ _).symm.trans H; with_reducible exact H2_) | with_reducible exact H | (rw [hy143]; exact H) | exact H
        have Ny143 := Aside0.mk hy143
        clear hy143
        obtain ⟨y144, hy144⟩ : ∃ y_ : List (S31), y_ = (y143.set ((ji9) : Int).toNat (⟨(rd_T31 x0_2 x9_2).f0, (rd_T31 x0_2 x9_2).f1, (rd_T31 x0_2 x9_2).f2, (rd_T31 x0_2 x9_2).f3, (rd_T31 x0_2 x9_2).f4, (rd_T31 x0_2 x9_2).f5, (rd_T31 x0_2 x9_2).f6, (rd_T31 x0_2 x9_2).f7⟩ : S31)) := ⟨_, rfl⟩
        replace H : (insSort.l1 k2 y144 a1 a2 a3 x8_1 ji9) = some r := by first | (rw [hy144]; with_reducible exact H) | (have H2_ := (Option.bind_some _ _).symm.trans H; rw [hy144]; with_reducible exact H2_) | (have H2_ := (Option.bind_some _ _).symm.trans H; with_reducible exact H2_) | with_reducible exact H | (rw [hy144]; exact H) | exact H
        have Ny144 := Aside0.mk hy144
        clear hy144
        have H' := Aside0.mk H
        clear H
        try go_wp2
        replace HO_0 := Aside0.mk (Kd.R_drew HO_0.out)
        replace HK := Aside0.mk (Kept.drew HK.out)
        replace HB := Aside0.mk (below_drew1 HB.out)
        obtain ⟨Ao17, co17, eo17⟩ := Kd.R_slice HO_0.out
        (first | subst eo17 | (injection eo17 with f1_ f2_ f3_; have f4_ := f1_.symm; have f5_ := f3_.symm; clear f1_ f2_ f3_; subst f4_; subst f5_))
        have p138 : 0 ≤ (x9_2 : Int) := of_decide_eq_true (by first | (with_reducible assumption) | assumption)
        have q138 : x9_2 < (x0_2.length : Int) := of_decide_eq_true (by first | (with_reducible assumption) | assumption)
        obtain ⟨ad138, e138, hx138_0, hx138_1, hx138_2, hx138_3, hx138_4, hx138_5, hx138_6, hx138_7⟩ := at_T31 (Kd.R_reads' HO_0.out).2.2 x9_2 p138 q138
        cases e138
        replace p138 := eq_true p138
        replace q138 := eq_true q138
        have p139 : 0 ≤ ((ji9) : Int) := of_decide_eq_true (by first | (with_reducible assumption) | assumption)
        have q139 : (ji9) < (x0_2.length : Int) := of_decide_eq_true (by first | (with_reducible assumption) | assumption)
        obtain ⟨ad139, e139, hx139_0, hx139_1, hx139_2, hx139_3, hx139_4, hx139_5, hx139_6, hx139_7⟩ := at_T31 (Kd.R_reads' HO_0.out).2.2 (ji9) p139 q139
        obtain rfl : ad138 = ad139 := (by injection e139)
        replace p139 := eq_true p139
        replace q139 := eq_true q139
        refine start_ (n := 17) (S := fun w' => w'.cell? (ad138.add ((x9_2).toNat * 8)) = some (.string ((rd_T31 x0_2 x9_2).f0)) ∧ w'.cell? ⟨(ad138.add ((x9_2).toNat * 8)).block, (ad138.add ((x9_2).toNat * 8)).off + 1, none⟩ = some (.int .i64 ((rd_T31 x0_2 x9_2).f1)) ∧ w'.cell? ⟨(ad138.add ((x9_2).toNat * 8)).block, (ad138.add ((x9_2).toNat * 8)).off + 2, none⟩ = some (.int .i64 ((rd_T31 x0_2 x9_2).f2)) ∧ w'.cell? ⟨(ad138.add ((x9_2).toNat * 8)).block, (ad138.add ((x9_2).toNat * 8)).off + 3, none⟩ = some (.int .i64 ((rd_T31 x0_2 x9_2).f3)) ∧ w'.cell? ⟨(ad138.add ((x9_2).toNat * 8)).block, (ad138.add ((x9_2).toNat * 8)).off + 4, none⟩ = some (.int .i64 ((rd_T31 x0_2 x9_2).f4)) ∧ w'.cell? ⟨(ad138.add ((x9_2).toNat * 8)).block, (ad138.add ((x9_2).toNat * 8)).off + 5, none⟩ = some (.int .i64 ((rd_T31 x0_2 x9_2).f5)) ∧ w'.cell? ⟨(ad138.add ((x9_2).toNat * 8)).block, (ad138.add ((x9_2).toNat * 8)).off + 6, none⟩ = some (.int .i64 ((rd_T31 x0_2 x9_2).f6)) ∧ w'.cell? ⟨(ad138.add ((x9_2).toNat * 8)).block, (ad138.add ((x9_2).toNat * 8)).off + 7, none⟩ = some (.string ((rd_T31 x0_2 x9_2).f7)) ∧ w'.cell? (ad138.add (((ji9)).toNat * 8)) = some (.string ((rd_T31 x0_2 (ji9)).f0)) ∧ w'.cell? ⟨(ad138.add (((ji9)).toNat * 8)).block, (ad138.add (((ji9)).toNat * 8)).off + 1, none⟩ = some (.int .i64 ((rd_T31 x0_2 (ji9)).f1)) ∧ w'.cell? ⟨(ad138.add (((ji9)).toNat * 8)).block, (ad138.add (((ji9)).toNat * 8)).off + 2, none⟩ = some (.int .i64 ((rd_T31 x0_2 (ji9)).f2)) ∧ w'.cell? ⟨(ad138.add (((ji9)).toNat * 8)).block, (ad138.add (((ji9)).toNat * 8)).off + 3, none⟩ = some (.int .i64 ((rd_T31 x0_2 (ji9)).f3)) ∧ w'.cell? ⟨(ad138.add (((ji9)).toNat * 8)).block, (ad138.add (((ji9)).toNat * 8)).off + 4, none⟩ = some (.int .i64 ((rd_T31 x0_2 (ji9)).f4)) ∧ w'.cell? ⟨(ad138.add (((ji9)).toNat * 8)).block, (ad138.add (((ji9)).toNat * 8)).off + 5, none⟩ = some (.int .i64 ((rd_T31 x0_2 (ji9)).f5)) ∧ w'.cell? ⟨(ad138.add (((ji9)).toNat * 8)).block, (ad138.add (((ji9)).toNat * 8)).off + 6, none⟩ = some (.int .i64 ((rd_T31 x0_2 (ji9)).f6)) ∧ w'.cell? ⟨(ad138.add (((ji9)).toNat * 8)).block, (ad138.add (((ji9)).toNat * 8)).off + 7, none⟩ = some (.string ((rd_T31 x0_2 (ji9)).f7))) (ds := []) #[false, false, false, false, false, false, false, false, false, false, false, false, false, false, false, false, false] (by kernel_rfl) rfl rfl ⟨hx138_0, hx138_1, hx138_2, hx138_3, hx138_4, hx138_5, hx138_6, hx138_7, hx139_0, hx139_1, hx139_2, hx139_3, hx139_4, hx139_5, hx139_6, hx139_7⟩ (fun hHeld => ?_); refine with_tabW insSort.tab4 insSort.bits4 (fun HT_ HW_ => ?_)
        generalize wr.drew = w16 at HO_0 HK HB hx138_0 hx138_1 hx138_2 hx138_3 hx138_4 hx138_5 hx138_6 hx138_7 hx139_0 hx139_1 hx139_2 hx139_3 hx139_4 hx139_5 hx139_6 hx139_7 hHeld ⊢
        refine pure_ (i := 0) (N := some 18) (v := ?_) (a' := ?_) (tb 17 1) rfl rfl (any_of HT_.out (by kernel_rfl)) (fun _ _ _ h => h) (Or.inl ⟨by rfl, ?_⟩) ?_ ?_
        rotate_left
        ·intro w'
         go_simp
         with_reducible rfl
        rotate_left
        ·simp only [Act.put, List.setIfInBounds_toArray, List.set_cons_zero, List.set_cons_succ, i64_w, i32_w]
         rfl
        refine pure_ (i := 1) (N := some 19) (v := ?_) (a' := ?_) (tb 17 3) rfl rfl (any_of HT_.out (by kernel_rfl)) (fun _ _ _ h => h) (Or.inl ⟨by rfl, ?_⟩) ?_ ?_
        rotate_left
        ·intro w'
         go_simp
         with_reducible rfl
        rotate_left
        ·simp only [Act.put, List.setIfInBounds_toArray, List.set_cons_zero, List.set_cons_succ, i64_w, i32_w]
         rfl
        refine pure_ (i := 2) (N := some 20) (v := ?_) (a' := ?_) (tb 17 7) rfl rfl (any_of HT_.out (by kernel_rfl)) (fun _ _ _ h => h) (Or.inl ⟨by rfl, ?_⟩) ?_ ?_
        rotate_left
        ·intro w'
         go_simp
         with_reducible rfl
        rotate_left
        ·simp only [Act.put, List.setIfInBounds_toArray, List.set_cons_zero, List.set_cons_succ, i64_w, i32_w]
         rfl
        refine pure_ (i := 3) (N := some 21) (v := ?_) (a' := ?_) (tb 17 15) rfl rfl (any_of HT_.out (by kernel_rfl)) (fun _ _ _ h => h) (Or.inl ⟨by rfl, ?_⟩) ?_ ?_
        rotate_left
        ·intro w'
         go_simp
         with_reducible rfl
        rotate_left
        ·simp only [Act.put, List.setIfInBounds_toArray, List.set_cons_zero, List.set_cons_succ, i64_w, i32_w]
         rfl
        refine pure_ (i := 4) (N := some 22) (v := ?_) (a' := ?_) (tb 17 31) rfl rfl (any_of HT_.out (by kernel_rfl)) (fun _ _ _ h => h) (Or.inl ⟨by rfl, ?_⟩) ?_ ?_
        rotate_left
        ·intro w'
         go_simp
         with_reducible rfl
        rotate_left
        ·simp only [Act.put, List.setIfInBounds_toArray, List.set_cons_zero, List.set_cons_succ, i64_w, i32_w]
         rfl
        refine pure_ (i := 5) (N := some 23) (v := ?_) (a' := ?_) (tb 17 63) rfl rfl (any_of HT_.out (by kernel_rfl)) (fun _ _ _ h => h) (Or.inl ⟨by rfl, ?_⟩) ?_ ?_
        rotate_left
        ·intro w'
         go_simp
         with_reducible rfl
        rotate_left
        ·simp only [Act.put, List.setIfInBounds_toArray, List.set_cons_zero, List.set_cons_succ, i64_w, i32_w]
         rfl
        refine pure_ (i := 6) (N := some 24) (v := ?_) (a' := ?_) (tb 17 127) rfl rfl (any_of HT_.out (by kernel_rfl)) (fun _ _ _ h => h) (Or.inl ⟨by rfl, ?_⟩) ?_ ?_
        rotate_left
        ·intro w'
         go_simp
         with_reducible rfl
        rotate_left
        ·simp only [Act.put, List.setIfInBounds_toArray, List.set_cons_zero, List.set_cons_succ, i64_w, i32_w]
         rfl
        refine pure_ (i := 7) (N := some 25) (v := ?_) (a' := ?_) (tb 17 255) rfl rfl (any_of HT_.out (by kernel_rfl)) (fun _ _ _ h => h) (Or.inl ⟨by rfl, ?_⟩) ?_ ?_
        rotate_left
        ·intro w'
         go_simp
         with_reducible rfl
        rotate_left
        ·simp only [Act.put, List.setIfInBounds_toArray, List.set_cons_zero, List.set_cons_succ, i64_w, i32_w]
         rfl
        refine pure_ (i := 9) (N := some 27) (v := ?_) (a' := ?_) (tb 17 767) rfl rfl (any_of HT_.out (by kernel_rfl)) (fun _ _ _ h => h) (Or.inl ⟨by rfl, ?_⟩) ?_ ?_
        rotate_left
        ·intro w'
         go_simp
         with_reducible rfl
        rotate_left
        ·simp only [Act.put, List.setIfInBounds_toArray, List.set_cons_zero, List.set_cons_succ, i64_w, i32_w]
         rfl
        refine pure_ (i := 10) (N := some 28) (v := ?_) (a' := ?_) (tb 17 1791) rfl rfl (any_of HT_.out (by kernel_rfl)) (fun _ _ _ h => h) (Or.inl ⟨by rfl, ?_⟩) ?_ ?_
        rotate_left
        ·intro w'
         go_simp
         with_reducible rfl
        rotate_left
        ·simp only [Act.put, List.setIfInBounds_toArray, List.set_cons_zero, List.set_cons_succ, i64_w, i32_w]
         rfl
        refine pure_ (i := 11) (N := some 29) (v := ?_) (a' := ?_) (tb 17 3839) rfl rfl (any_of HT_.out (by kernel_rfl)) (fun _ _ _ h => h) (Or.inl ⟨by rfl, ?_⟩) ?_ ?_
        rotate_left
        ·intro w'
         go_simp
         with_reducible rfl
        rotate_left
        ·simp only [Act.put, List.setIfInBounds_toArray, List.set_cons_zero, List.set_cons_succ, i64_w, i32_w]
         rfl
        refine pure_ (i := 12) (N := some 30) (v := ?_) (a' := ?_) (tb 17 7935) rfl rfl (any_of HT_.out (by kernel_rfl)) (fun _ _ _ h => h) (Or.inl ⟨by rfl, ?_⟩) ?_ ?_
        rotate_left
        ·intro w'
         go_simp
         with_reducible rfl
        rotate_left
        ·simp only [Act.put, List.setIfInBounds_toArray, List.set_cons_zero, List.set_cons_succ, i64_w, i32_w]
         rfl
        refine take_ (i := 8) (N := some 26) (v := ?_) (a' := ?_) (tb 17 8191) rfl rfl (take_ofW HT_.out HW_.out (by kernel_rfl)) (fun _ _ _ h => h) (Or.inl ⟨by rfl, ?_⟩) hHeld ?_ ?_
        rotate_left
        ·rintro w' ⟨s0, s1, s2, s3, s4, s5, s6, s7, s8, s9, s10, s11, s12, s13, s14, s15⟩
         go_simp
         with_reducible rfl
        rotate_left
        ·simp only [Act.put, List.setIfInBounds_toArray, List.set_cons_zero, List.set_cons_succ, i64_w, i32_w]
         rfl
        refine take_ (i := 13) (N := some 31) (v := ?_) (a' := ?_) (tb 17 16383) rfl rfl (take_ofW HT_.out HW_.out (by kernel_rfl)) (fun _ _ _ h => h) (Or.inl ⟨by rfl, ?_⟩) hHeld ?_ ?_
        rotate_left
        ·rintro w' ⟨s0, s1, s2, s3, s4, s5, s6, s7, s8, s9, s10, s11, s12, s13, s14, s15⟩
         go_simp
         with_reducible rfl
        rotate_left
        ·simp only [Act.put, List.setIfInBounds_toArray, List.set_cons_zero, List.set_cons_succ, i64_w, i32_w]
         rfl
        refine one_ (i := 14) (N := some 32) (tb 17 32767) rfl rfl (one_of HT_.out (by kernel_rfl)) (by decide) (fun K hK => ?_)
        refine goesC_ (lb := #[.pointer (some cw_)]) Try.func31 (by kernel_rfl) rfl #[.agg #[.string ((rd_T31 x0_2 x9_2).f0), .int .i64 ((rd_T31 x0_2 x9_2).f1), .int .i64 ((rd_T31 x0_2 x9_2).f2), .int .i64 ((rd_T31 x0_2 x9_2).f3), .int .i64 ((rd_T31 x0_2 x9_2).f4), .int .i64 ((rd_T31 x0_2 x9_2).f5), .int .i64 ((rd_T31 x0_2 x9_2).f6), .string ((rd_T31 x0_2 x9_2).f7)], .agg #[.string ((rd_T31 x0_2 (ji9)).f0), .int .i64 ((rd_T31 x0_2 (ji9)).f1), .int .i64 ((rd_T31 x0_2 (ji9)).f2), .int .i64 ((rd_T31 x0_2 (ji9)).f3), .int .i64 ((rd_T31 x0_2 (ji9)).f4), .int .i64 ((rd_T31 x0_2 (ji9)).f5), .int .i64 ((rd_T31 x0_2 (ji9)).f6), .string ((rd_T31 x0_2 (ji9)).f7)], .pointer (some cw_)] (by rfl) rfl rfl (by rfl) (by (try simp only [List.map_toArray, List.map_cons, List.map_nil]); first | done | (simp only [hji9]; rfl) | rfl | (simp only [List.length_drop, List.length_take]; rfl)) ?_
        with_reducible refine (directory_Sort_1.calls ((rd_T31 x0_2 x9_2).f0) ((rd_T31 x0_2 x9_2).f1) ((rd_T31 x0_2 x9_2).f2) ((rd_T31 x0_2 x9_2).f3) ((rd_T31 x0_2 x9_2).f4) ((rd_T31 x0_2 x9_2).f5) ((rd_T31 x0_2 x9_2).f6) ((rd_T31 x0_2 x9_2).f7) ((rd_T31 x0_2 (ji9)).f0) ((rd_T31 x0_2 (ji9)).f1) ((rd_T31 x0_2 (ji9)).f2) ((rd_T31 x0_2 (ji9)).f3) ((rd_T31 x0_2 (ji9)).f4) ((rd_T31 x0_2 (ji9)).f5) ((rd_T31 x0_2 (ji9)).f6) ((rd_T31 x0_2 (ji9)).f7) a3 t140 w0 _ cw_ hcw_ ?sideB A12.out).mono ?_
        case sideB => repeat (first | (with_reducible first | exact HB.out | apply below_alloc | apply pw_below_drewN | apply below_drew1) | exact HB.out)
        rintro e w18 ⟨rfl, hb⟩
        have HS0_ := (hb.cell (World.block_lt_of_cell? _ _ (hHeld.1))).trans (hHeld.1)
        have HS1_ := (hb.cell (World.block_lt_of_cell? _ _ (hHeld.2.1))).trans (hHeld.2.1)
        have HS2_ := (hb.cell (World.block_lt_of_cell? _ _ (hHeld.2.2.1))).trans (hHeld.2.2.1)
        have HS3_ := (hb.cell (World.block_lt_of_cell? _ _ (hHeld.2.2.2.1))).trans (hHeld.2.2.2.1)
        have HS4_ := (hb.cell (World.block_lt_of_cell? _ _ (hHeld.2.2.2.2.1))).trans (hHeld.2.2.2.2.1)
        have HS5_ := (hb.cell (World.block_lt_of_cell? _ _ (hHeld.2.2.2.2.2.1))).trans (hHeld.2.2.2.2.2.1)
        have HS6_ := (hb.cell (World.block_lt_of_cell? _ _ (hHeld.2.2.2.2.2.2.1))).trans (hHeld.2.2.2.2.2.2.1)
        have HS7_ := (hb.cell (World.block_lt_of_cell? _ _ (hHeld.2.2.2.2.2.2.2.1))).trans (hHeld.2.2.2.2.2.2.2.1)
        have HS8_ := (hb.cell (World.block_lt_of_cell? _ _ (hHeld.2.2.2.2.2.2.2.2.1))).trans (hHeld.2.2.2.2.2.2.2.2.1)
        have HS9_ := (hb.cell (World.block_lt_of_cell? _ _ (hHeld.2.2.2.2.2.2.2.2.2.1))).trans (hHeld.2.2.2.2.2.2.2.2.2.1)
        have HS10_ := (hb.cell (World.block_lt_of_cell? _ _ (hHeld.2.2.2.2.2.2.2.2.2.2.1))).trans (hHeld.2.2.2.2.2.2.2.2.2.2.1)
        have HS11_ := (hb.cell (World.block_lt_of_cell? _ _ (hHeld.2.2.2.2.2.2.2.2.2.2.2.1))).trans (hHeld.2.2.2.2.2.2.2.2.2.2.2.1)
        have HS12_ := (hb.cell (World.block_lt_of_cell? _ _ (hHeld.2.2.2.2.2.2.2.2.2.2.2.2.1))).trans (hHeld.2.2.2.2.2.2.2.2.2.2.2.2.1)
        have HS13_ := (hb.cell (World.block_lt_of_cell? _ _ (hHeld.2.2.2.2.2.2.2.2.2.2.2.2.2.1))).trans (hHeld.2.2.2.2.2.2.2.2.2.2.2.2.2.1)
        have HS14_ := (hb.cell (World.block_lt_of_cell? _ _ (hHeld.2.2.2.2.2.2.2.2.2.2.2.2.2.2.1))).trans (hHeld.2.2.2.2.2.2.2.2.2.2.2.2.2.2.1)
        have HS15_ := (hb.cell (World.block_lt_of_cell? _ _ (hHeld.2.2.2.2.2.2.2.2.2.2.2.2.2.2.2))).trans (hHeld.2.2.2.2.2.2.2.2.2.2.2.2.2.2.2)
        refine ⟨_, rfl, ?_⟩
        replace HO_0 := Aside0.mk (Kd.R_below (by (with_reducible repeat (first | apply Kd.R_alloc | apply Kd.R_drewN | apply Kd.R_drew)); exact HO_0.out) hb)
        replace HK := Aside0.mk (Kept.below (S := (fun k_ => P0_ k_)) (by repeat (first | (with_reducible first | exact HK.out | apply Kept.alloc | apply Kept.drewN | apply Kept.drew) | exact HK.out)) hb)
        replace HB := Aside0.mk (below_step (by repeat (first | (with_reducible first | exact HB.out | apply below_alloc | apply pw_below_drewN | apply below_drew1) | exact HB.out)) hb)
        (try clear hb)
        (try clear hb2)
        (try clear hk)
        (try clear hi)
        refine hK.out _ _ ⟨HS0_, HS1_, HS2_, HS3_, HS4_, HS5_, HS6_, HS7_, HS8_, HS9_, HS10_, HS11_, HS12_, HS13_, HS14_, HS15_⟩ (fun hHeld => ?_)
        clear hK K
        refine norm_ (a' := ?_) ?_ ?_
        rotate_left
        ·show Act.put _ (some 32) _ = _
         simp only [Act.put, List.setIfInBounds_toArray, List.set_cons_zero, List.set_cons_succ, i64_w, i32_w]
         rfl
        refine pure_ (i := 15) (N := some 33) (v := ?_) (a' := ?_) (tb 17 65535) rfl rfl (any_of HT_.out (by kernel_rfl)) (fun _ _ _ h => h) (Or.inl ⟨by rfl, ?_⟩) ?_ ?_
        rotate_left
        ·intro w'
         go_simp
         with_reducible rfl
        rotate_left
        ·simp only [Act.put, List.setIfInBounds_toArray, List.set_cons_zero, List.set_cons_succ, i64_w, i32_w]
         rfl
        refine pure_ (i := 16) (N := some 34) (v := ?_) (a' := ?_) (tb 17 131071) rfl rfl (any_of HT_.out (by kernel_rfl)) (fun _ _ _ h => h) (Or.inl ⟨by rfl, ?_⟩) ?_ ?_
        rotate_left
        ·intro w'
         go_simp
         with_reducible rfl
        rotate_left
        ·simp only [Act.put, List.setIfInBounds_toArray, List.set_cons_zero, List.set_cons_succ, i64_w, i32_w]
         rfl
        refine done_ (done_of HT_.out (by kernel_rfl)) ?_
        try go_wp2
        replace HO_0 := Aside0.mk (Kd.R_drew HO_0.out)
        replace HK := Aside0.mk (Kept.drew HK.out)
        replace HB := Aside0.mk (below_drew1 HB.out)
        have p141 : 0 ≤ ((ji9) : Int) := of_decide_eq_true (by first | (with_reducible assumption) | assumption)
        have q141 : (ji9) < (x0_2.length : Int) := of_decide_eq_true (by first | (with_reducible assumption) | assumption)
        obtain ⟨ad141, e141, hx141_0, hx141_1, hx141_2, hx141_3, hx141_4, hx141_5, hx141_6, hx141_7⟩ := at_T31 (Kd.R_reads' HO_0.out).2.2 (ji9) p141 q141
        obtain rfl : ad138 = ad141 := (by injection e141)
        replace p141 := eq_true p141
        replace q141 := eq_true q141
        have p142 : 0 ≤ (x9_2 : Int) := of_decide_eq_true (by first | (with_reducible assumption) | assumption)
        have q142 : x9_2 < (x0_2.length : Int) := of_decide_eq_true (by first | (with_reducible assumption) | assumption)
        obtain ⟨ad142, e142, hx142_0, hx142_1, hx142_2, hx142_3, hx142_4, hx142_5, hx142_6, hx142_7⟩ := at_T31 (Kd.R_reads' HO_0.out).2.2 x9_2 p142 q142
        obtain rfl : ad138 = ad142 := (by injection e142)
        replace p142 := eq_true p142
        replace q142 := eq_true q142
        have p14 : 0 ≤ (x9_2 : Int) := of_decide_eq_true (by first | (with_reducible assumption) | assumption)
        have q14 : (x9_2 : Int) < ((x0_2.length : Int) : Int) := of_decide_eq_true (by first | (with_reducible assumption) | assumption)
        obtain ⟨go14, co14, eo14, gb14, gl14, cl14, HG14⟩ := Kd.R_form HO_0.out (by omega)
        (first | cases eo14 | (injection eo14 with ea_ en_ ec_; (first | subst ea_ | (injection ea_ with ea_; subst ea_)); subst ec_; clear en_))
        have GB14 := Aside0.mk gb14
        have GG14 := Aside0.mk HG14
        clear gb14 gl14 HG14
        have HMgo14 := Aside0.mk (show (P0_ go14 ∨ w.heap.size ≤ go14) from (HO_0.out.1 _ rfl))
        (first | simp only [add_plain] at hx138_0 | skip)
        (first | simp only [add_plain] at hx138_1 | skip)
        (first | simp only [add_plain] at hx138_2 | skip)
        (first | simp only [add_plain] at hx138_3 | skip)
        (first | simp only [add_plain] at hx138_4 | skip)
        (first | simp only [add_plain] at hx138_5 | skip)
        (first | simp only [add_plain] at hx138_6 | skip)
        (first | simp only [add_plain] at hx138_7 | skip)
        (first | simp only [add_plain] at hx139_0 | skip)
        (first | simp only [add_plain] at hx139_1 | skip)
        (first | simp only [add_plain] at hx139_2 | skip)
        (first | simp only [add_plain] at hx139_3 | skip)
        (first | simp only [add_plain] at hx139_4 | skip)
        (first | simp only [add_plain] at hx139_5 | skip)
        (first | simp only [add_plain] at hx139_6 | skip)
        (first | simp only [add_plain] at hx139_7 | skip)
        (first | simp only [add_plain] at hx141_0 | skip)
        (first | simp only [add_plain] at hx141_1 | skip)
        (first | simp only [add_plain] at hx141_2 | skip)
        (first | simp only [add_plain] at hx141_3 | skip)
        (first | simp only [add_plain] at hx141_4 | skip)
        (first | simp only [add_plain] at hx141_5 | skip)
        (first | simp only [add_plain] at hx141_6 | skip)
        (first | simp only [add_plain] at hx141_7 | skip)
        (first | simp only [add_plain] at hx142_0 | skip)
        (first | simp only [add_plain] at hx142_1 | skip)
        (first | simp only [add_plain] at hx142_2 | skip)
        (first | simp only [add_plain] at hx142_3 | skip)
        (first | simp only [add_plain] at hx142_4 | skip)
        (first | simp only [add_plain] at hx142_5 | skip)
        (first | simp only [add_plain] at hx142_6 | skip)
        (first | simp only [add_plain] at hx142_7 | skip)
        refine start_ (n := 18) (S := fun w' => w'.cell? ⟨go14, (((ji9)).toNat * 8), none⟩ = some (.string ((rd_T31 x0_2 (ji9)).f0)) ∧ w'.cell? ⟨go14, (((ji9)).toNat * 8) + 1, none⟩ = some (.int .i64 ((rd_T31 x0_2 (ji9)).f1)) ∧ w'.cell? ⟨go14, (((ji9)).toNat * 8) + 2, none⟩ = some (.int .i64 ((rd_T31 x0_2 (ji9)).f2)) ∧ w'.cell? ⟨go14, (((ji9)).toNat * 8) + 3, none⟩ = some (.int .i64 ((rd_T31 x0_2 (ji9)).f3)) ∧ w'.cell? ⟨go14, (((ji9)).toNat * 8) + 4, none⟩ = some (.int .i64 ((rd_T31 x0_2 (ji9)).f4)) ∧ w'.cell? ⟨go14, (((ji9)).toNat * 8) + 5, none⟩ = some (.int .i64 ((rd_T31 x0_2 (ji9)).f5)) ∧ w'.cell? ⟨go14, (((ji9)).toNat * 8) + 6, none⟩ = some (.int .i64 ((rd_T31 x0_2 (ji9)).f6)) ∧ w'.cell? ⟨go14, (((ji9)).toNat * 8) + 7, none⟩ = some (.string ((rd_T31 x0_2 (ji9)).f7)) ∧ w'.cell? ⟨go14, ((x9_2).toNat * 8), none⟩ = some (.string ((rd_T31 x0_2 x9_2).f0)) ∧ w'.cell? ⟨go14, ((x9_2).toNat * 8) + 1, none⟩ = some (.int .i64 ((rd_T31 x0_2 x9_2).f1)) ∧ w'.cell? ⟨go14, ((x9_2).toNat * 8) + 2, none⟩ = some (.int .i64 ((rd_T31 x0_2 x9_2).f2)) ∧ w'.cell? ⟨go14, ((x9_2).toNat * 8) + 3, none⟩ = some (.int .i64 ((rd_T31 x0_2 x9_2).f3)) ∧ w'.cell? ⟨go14, ((x9_2).toNat * 8) + 4, none⟩ = some (.int .i64 ((rd_T31 x0_2 x9_2).f4)) ∧ w'.cell? ⟨go14, ((x9_2).toNat * 8) + 5, none⟩ = some (.int .i64 ((rd_T31 x0_2 x9_2).f5)) ∧ w'.cell? ⟨go14, ((x9_2).toNat * 8) + 6, none⟩ = some (.int .i64 ((rd_T31 x0_2 x9_2).f6)) ∧ w'.cell? ⟨go14, ((x9_2).toNat * 8) + 7, none⟩ = some (.string ((rd_T31 x0_2 x9_2).f7))) (ds := [15, 17]) #[false, false, false, false, false, false, false, false, false, false, false, false, false, false, false, false, false, false] (by kernel_rfl) rfl rfl ⟨hx141_0, hx141_1, hx141_2, hx141_3, hx141_4, hx141_5, hx141_6, hx141_7, hx142_0, hx142_1, hx142_2, hx142_3, hx142_4, hx142_5, hx142_6, hx142_7⟩ (fun hHeld => ?_); refine with_tabW insSort.tab6 insSort.bits6 (fun HT_ HW_ => ?_)
        generalize w18.drew = w19 at HO_0 HK HB GG14 hx138_0 hx138_1 hx138_2 hx138_3 hx138_4 hx138_5 hx138_6 hx138_7 hx139_0 hx139_1 hx139_2 hx139_3 hx139_4 hx139_5 hx139_6 hx139_7 hx141_0 hx141_1 hx141_2 hx141_3 hx141_4 hx141_5 hx141_6 hx141_7 hx142_0 hx142_1 hx142_2 hx142_3 hx142_4 hx142_5 hx142_6 hx142_7 hHeld ⊢
        refine pure_ (i := 0) (N := some 37) (v := ?_) (a' := ?_) (tb 18 1) rfl rfl (any_of HT_.out (by kernel_rfl)) (fun _ _ _ h => h) (Or.inl ⟨by rfl, ?_⟩) ?_ ?_
        rotate_left
        ·intro w'
         go_simp
         with_reducible rfl
        rotate_left
        ·simp only [Act.put, List.setIfInBounds_toArray, List.set_cons_zero, List.set_cons_succ, i64_w, i32_w]
         rfl
        refine pure_ (i := 1) (N := some 38) (v := ?_) (a' := ?_) (tb 18 3) rfl rfl (any_of HT_.out (by kernel_rfl)) (fun _ _ _ h => h) (Or.inl ⟨by rfl, ?_⟩) ?_ ?_
        rotate_left
        ·intro w'
         go_simp
         with_reducible rfl
        rotate_left
        ·simp only [Act.put, List.setIfInBounds_toArray, List.set_cons_zero, List.set_cons_succ, i64_w, i32_w]
         rfl
        refine pure_ (i := 2) (N := some 39) (v := ?_) (a' := ?_) (tb 18 7) rfl rfl (any_of HT_.out (by kernel_rfl)) (fun _ _ _ h => h) (Or.inl ⟨by rfl, ?_⟩) ?_ ?_
        rotate_left
        ·intro w'
         go_simp
         with_reducible rfl
        rotate_left
        ·simp only [Act.put, List.setIfInBounds_toArray, List.set_cons_zero, List.set_cons_succ, i64_w, i32_w]
         rfl
        refine pure_ (i := 3) (N := some 40) (v := ?_) (a' := ?_) (tb 18 15) rfl rfl (any_of HT_.out (by kernel_rfl)) (fun _ _ _ h => h) (Or.inl ⟨by rfl, ?_⟩) ?_ ?_
        rotate_left
        ·intro w'
         go_simp
         with_reducible rfl
        rotate_left
        ·simp only [Act.put, List.setIfInBounds_toArray, List.set_cons_zero, List.set_cons_succ, i64_w, i32_w]
         rfl
        refine pure_ (i := 4) (N := some 41) (v := ?_) (a' := ?_) (tb 18 31) rfl rfl (any_of HT_.out (by kernel_rfl)) (fun _ _ _ h => h) (Or.inl ⟨by rfl, ?_⟩) ?_ ?_
        rotate_left
        ·intro w'
         go_simp
         with_reducible rfl
        rotate_left
        ·simp only [Act.put, List.setIfInBounds_toArray, List.set_cons_zero, List.set_cons_succ, i64_w, i32_w]
         rfl
        refine pure_ (i := 5) (N := some 42) (v := ?_) (a' := ?_) (tb 18 63) rfl rfl (any_of HT_.out (by kernel_rfl)) (fun _ _ _ h => h) (Or.inl ⟨by rfl, ?_⟩) ?_ ?_
        rotate_left
        ·intro w'
         go_simp
         with_reducible rfl
        rotate_left
        ·simp only [Act.put, List.setIfInBounds_toArray, List.set_cons_zero, List.set_cons_succ, i64_w, i32_w]
         rfl
        refine pure_ (i := 6) (N := some 43) (v := ?_) (a' := ?_) (tb 18 127) rfl rfl (any_of HT_.out (by kernel_rfl)) (fun _ _ _ h => h) (Or.inl ⟨by rfl, ?_⟩) ?_ ?_
        rotate_left
        ·intro w'
         go_simp
         with_reducible rfl
        rotate_left
        ·simp only [Act.put, List.setIfInBounds_toArray, List.set_cons_zero, List.set_cons_succ, i64_w, i32_w]
         rfl
        refine pure_ (i := 7) (N := some 44) (v := ?_) (a' := ?_) (tb 18 255) rfl rfl (any_of HT_.out (by kernel_rfl)) (fun _ _ _ h => h) (Or.inl ⟨by rfl, ?_⟩) ?_ ?_
        rotate_left
        ·intro w'
         go_simp
         with_reducible rfl
        rotate_left
        ·simp only [Act.put, List.setIfInBounds_toArray, List.set_cons_zero, List.set_cons_succ, i64_w, i32_w]
         rfl
        refine pure_ (i := 8) (N := some 45) (v := ?_) (a' := ?_) (tb 18 511) rfl rfl (any_of HT_.out (by kernel_rfl)) (fun _ _ _ h => h) (Or.inl ⟨by rfl, ?_⟩) ?_ ?_
        rotate_left
        ·intro w'
         go_simp
         with_reducible rfl
        rotate_left
        ·simp only [Act.put, List.setIfInBounds_toArray, List.set_cons_zero, List.set_cons_succ, i64_w, i32_w]
         rfl
        refine pure_ (i := 10) (N := some 47) (v := ?_) (a' := ?_) (tb 18 1535) rfl rfl (any_of HT_.out (by kernel_rfl)) (fun _ _ _ h => h) (Or.inl ⟨by rfl, ?_⟩) ?_ ?_
        rotate_left
        ·intro w'
         go_simp
         with_reducible rfl
        rotate_left
        ·simp only [Act.put, List.setIfInBounds_toArray, List.set_cons_zero, List.set_cons_succ, i64_w, i32_w]
         rfl
        refine pure_ (i := 11) (N := some 48) (v := ?_) (a' := ?_) (tb 18 3583) rfl rfl (any_of HT_.out (by kernel_rfl)) (fun _ _ _ h => h) (Or.inl ⟨by rfl, ?_⟩) ?_ ?_
        rotate_left
        ·intro w'
         go_simp
         with_reducible rfl
        rotate_left
        ·simp only [Act.put, List.setIfInBounds_toArray, List.set_cons_zero, List.set_cons_succ, i64_w, i32_w]
         rfl
        refine pure_ (i := 12) (N := some 49) (v := ?_) (a' := ?_) (tb 18 7679) rfl rfl (any_of HT_.out (by kernel_rfl)) (fun _ _ _ h => h) (Or.inl ⟨by rfl, ?_⟩) ?_ ?_
        rotate_left
        ·intro w'
         go_simp
         with_reducible rfl
        rotate_left
        ·simp only [Act.put, List.setIfInBounds_toArray, List.set_cons_zero, List.set_cons_succ, i64_w, i32_w]
         rfl
        refine take_ (i := 9) (N := some 46) (v := ?_) (a' := ?_) (tb 18 8191) rfl rfl (take_ofW HT_.out HW_.out (by kernel_rfl)) (fun _ _ _ h => h) (Or.inl ⟨by rfl, ?_⟩) hHeld ?_ ?_
        rotate_left
        ·rintro w' ⟨s0, s1, s2, s3, s4, s5, s6, s7, s8, s9, s10, s11, s12, s13, s14, s15⟩
         go_simp
         with_reducible rfl
        rotate_left
        ·simp only [Act.put, List.setIfInBounds_toArray, List.set_cons_zero, List.set_cons_succ, i64_w, i32_w]
         rfl
        refine take_ (i := 13) (N := some 50) (v := ?_) (a' := ?_) (tb 18 16383) rfl rfl (take_ofW HT_.out HW_.out (by kernel_rfl)) (fun _ _ _ h => h) (Or.inl ⟨by rfl, ?_⟩) hHeld ?_ ?_
        rotate_left
        ·rintro w' ⟨s0, s1, s2, s3, s4, s5, s6, s7, s8, s9, s10, s11, s12, s13, s14, s15⟩
         go_simp
         with_reducible rfl
        rotate_left
        ·simp only [Act.put, List.setIfInBounds_toArray, List.set_cons_zero, List.set_cons_succ, i64_w, i32_w]
         rfl
        refine pure_ (i := 14) (N := some 51) (v := ?_) (a' := ?_) (tb 18 32767) rfl rfl (any_of HT_.out (by kernel_rfl)) (fun _ _ _ h => h) (Or.inl ⟨by rfl, ?_⟩) ?_ ?_
        rotate_left
        ·intro w'
         go_simp
         with_reducible rfl
        rotate_left
        ·simp only [Act.put, List.setIfInBounds_toArray, List.set_cons_zero, List.set_cons_succ, i64_w, i32_w]
         rfl
        refine last_ (i := 15) (N := none) (tb 18 65535) rfl rfl (one_of HT_.out (by kernel_rfl)) (by decide) (fun K hK => ?_)
        refine stR_ k31 (by rfl) rfl 31 (.tmp 51) (.tmp 46) rfl (i := x9_2) (x' := (⟨(rd_T31 x0_2 (ji9)).f0, (rd_T31 x0_2 (ji9)).f1, (rd_T31 x0_2 (ji9)).f2, (rd_T31 x0_2 (ji9)).f3, (rd_T31 x0_2 (ji9)).f4, (rd_T31 x0_2 (ji9)).f5, (rd_T31 x0_2 (ji9)).f6, (rd_T31 x0_2 (ji9)).f7⟩ : S31)) (u := (.agg #[.string ((rd_T31 x0_2 (ji9)).f0), .int .i64 ((rd_T31 x0_2 (ji9)).f1), .int .i64 ((rd_T31 x0_2 (ji9)).f2), .int .i64 ((rd_T31 x0_2 (ji9)).f3), .int .i64 ((rd_T31 x0_2 (ji9)).f4), .int .i64 ((rd_T31 x0_2 (ji9)).f5), .int .i64 ((rd_T31 x0_2 (ji9)).f6), .string ((rd_T31 x0_2 (ji9)).f7)])) rfl rfl rfl (by kernel_rfl) (List.all_eq_true.1 rfl) rfl (fun _ => k31_mkM _ _ _ _) HO_0.out (of_decide_eq_true (by first | (with_reducible assumption) | assumption)) (of_decide_eq_true (by first | (with_reducible assumption) | assumption)) HK.out HMgo14.out HB.out (fun wq1_ hR1_ hKp1_ hBl1_ => ?_)
        refine hK.out _ _ ?_
        clear hK K
        replace hR1_ := Aside0.mk hR1_
        replace hKp1_ := Aside0.mk hKp1_
        replace hBl1_ := Aside0.mk hBl1_
        refine pure_ (i := 16) (N := some 52) (v := ?_) (a' := ?_) (tb 18 131071) rfl rfl (any_of HT_.out (by kernel_rfl)) (fun _ _ _ h => h) (Or.inl ⟨by rfl, ?_⟩) ?_ ?_
        rotate_left
        ·intro w'
         go_simp
         with_reducible rfl
        rotate_left
        ·simp only [Act.put, List.setIfInBounds_toArray, List.set_cons_zero, List.set_cons_succ, i64_w, i32_w]
         rfl
        refine last_ (i := 17) (N := none) (tb 18 262143) rfl rfl (one_of HT_.out (by kernel_rfl)) (by decide) (fun K hK => ?_)
        refine stR_ k31 (by rfl) rfl 31 (.tmp 52) (.tmp 50) rfl (i := (ji9)) (x' := (⟨(rd_T31 x0_2 x9_2).f0, (rd_T31 x0_2 x9_2).f1, (rd_T31 x0_2 x9_2).f2, (rd_T31 x0_2 x9_2).f3, (rd_T31 x0_2 x9_2).f4, (rd_T31 x0_2 x9_2).f5, (rd_T31 x0_2 x9_2).f6, (rd_T31 x0_2 x9_2).f7⟩ : S31)) (u := (.agg #[.string ((rd_T31 x0_2 x9_2).f0), .int .i64 ((rd_T31 x0_2 x9_2).f1), .int .i64 ((rd_T31 x0_2 x9_2).f2), .int .i64 ((rd_T31 x0_2 x9_2).f3), .int .i64 ((rd_T31 x0_2 x9_2).f4), .int .i64 ((rd_T31 x0_2 x9_2).f5), .int .i64 ((rd_T31 x0_2 x9_2).f6), .string ((rd_T31 x0_2 x9_2).f7)])) rfl rfl rfl (by kernel_rfl) (List.all_eq_true.1 rfl) rfl (fun _ => k31_mkM _ _ _ _) hR1_.out (of_decide_eq_true (by first | (with_reducible assumption) | assumption)) (of_decide_eq_true (by first | (with_reducible assumption) | assumption)) hKp1_.out HMgo14.out hBl1_.out (fun wq2_ hR2_ hKp2_ hBl2_ => ?_)
        refine hK.out _ _ ?_
        clear hK K
        replace hR2_ := Aside0.mk hR2_
        replace hKp2_ := Aside0.mk hKp2_
        replace hBl2_ := Aside0.mk hBl2_
        have hR3_ := hR2_.out
        rw [← Ny143.out, ← Ny144.out] at hR3_
        have HQ21 := Aside0.mk hR3_
        clear hR3_
        have HK := hKp2_
        have HB := hBl2_
        refine done_ (done_of HT_.out (by kernel_rfl)) ?_
        try go_wp2
        go_roundg k2
        case measure => have := HK1.out; have := HK2.out; omega
        case rel => exact ⟨(y144), (ji9), (by first | rfl | (simp; done) | (simp only [← hji9] <;> (first | rfl | simp)) | (simp [*]; done)), H', ⟨by have := HK1.out; have := HK2.out; omega⟩, ⟨by (with_reducible repeat (first | apply Kd.R_alloc | apply Kd.R_drewN | apply Kd.R_drew)); exact HQ21.out⟩, ⟨by repeat (first | (with_reducible first | exact HK.out | apply Kept.alloc | apply Kept.drewN | apply Kept.drew | refine Kept.setCell ?_ HMgo14.out _ | refine Kept.setCell ?_ HMgo14.out _ | refine Kept.setCell ?_ HMgo14.out _ | refine Kept.setCell ?_ HMgo14.out _ | refine Kept.setCell ?_ HMgo14.out _ | refine Kept.setCell ?_ HMgo14.out _ | refine Kept.setCell ?_ HMgo14.out _ | refine Kept.setCell ?_ HMgo14.out _ | refine Kept.setCell ?_ HMgo14.out _ | refine Kept.setCell ?_ HMgo14.out _ | refine Kept.setCell ?_ HMgo14.out _ | refine Kept.setCell ?_ HMgo14.out _ | refine Kept.setCell ?_ HMgo14.out _ | refine Kept.setCell ?_ HMgo14.out _ | refine Kept.setCell ?_ HMgo14.out _ | refine Kept.setCell ?_ HMgo14.out _) | exact HK.out)⟩, ⟨by repeat (first | (with_reducible first | exact HB.out | apply below_alloc | apply pw_below_drewN | apply below_drew1 | refine below_set ?_ GB14.out | refine below_set ?_ GB14.out | refine below_set ?_ GB14.out | refine below_set ?_ GB14.out | refine below_set ?_ GB14.out | refine below_set ?_ GB14.out | refine below_set ?_ GB14.out | refine below_set ?_ GB14.out | refine below_set ?_ GB14.out | refine below_set ?_ GB14.out | refine below_set ?_ GB14.out | refine below_set ?_ GB14.out | refine below_set ?_ GB14.out | refine below_set ?_ GB14.out | refine below_set ?_ GB14.out | refine below_set ?_ GB14.out) | exact HB.out)⟩⟩
       ·rw [if_neg c13] at H
        have c13b0 : decide (t140 < 0) = false := decide_eq_false c13
        clear c13
        have H' := Aside0.mk H
        clear H
        try go_wp2
        replace HO_0 := Aside0.mk (Kd.R_drew HO_0.out)
        replace HK := Aside0.mk (Kept.drew HK.out)
        replace HB := Aside0.mk (below_drew1 HB.out)
        obtain ⟨Ao23, co23, eo23⟩ := Kd.R_slice HO_0.out
        (first | subst eo23 | (injection eo23 with f1_ f2_ f3_; have f4_ := f1_.symm; have f5_ := f3_.symm; clear f1_ f2_ f3_; subst f4_; subst f5_))
        have p138 : 0 ≤ (x9_2 : Int) := of_decide_eq_true (by first | (with_reducible assumption) | assumption)
        have q138 : x9_2 < (x0_2.length : Int) := of_decide_eq_true (by first | (with_reducible assumption) | assumption)
        obtain ⟨ad138, e138, hx138_0, hx138_1, hx138_2, hx138_3, hx138_4, hx138_5, hx138_6, hx138_7⟩ := at_T31 (Kd.R_reads' HO_0.out).2.2 x9_2 p138 q138
        cases e138
        replace p138 := eq_true p138
        replace q138 := eq_true q138
        have p139 : 0 ≤ ((ji9) : Int) := of_decide_eq_true (by first | (with_reducible assumption) | assumption)
        have q139 : (ji9) < (x0_2.length : Int) := of_decide_eq_true (by first | (with_reducible assumption) | assumption)
        obtain ⟨ad139, e139, hx139_0, hx139_1, hx139_2, hx139_3, hx139_4, hx139_5, hx139_6, hx139_7⟩ := at_T31 (Kd.R_reads' HO_0.out).2.2 (ji9) p139 q139
        obtain rfl : ad138 = ad139 := (by injection e139)
        replace p139 := eq_true p139
        replace q139 := eq_true q139
        refine start_ (n := 17) (S := fun w' => w'.cell? (ad138.add ((x9_2).toNat * 8)) = some (.string ((rd_T31 x0_2 x9_2).f0)) ∧ w'.cell? ⟨(ad138.add ((x9_2).toNat * 8)).block, (ad138.add ((x9_2).toNat * 8)).off + 1, none⟩ = some (.int .i64 ((rd_T31 x0_2 x9_2).f1)) ∧ w'.cell? ⟨(ad138.add ((x9_2).toNat * 8)).block, (ad138.add ((x9_2).toNat * 8)).off + 2, none⟩ = some (.int .i64 ((rd_T31 x0_2 x9_2).f2)) ∧ w'.cell? ⟨(ad138.add ((x9_2).toNat * 8)).block, (ad138.add ((x9_2).toNat * 8)).off + 3, none⟩ = some (.int .i64 ((rd_T31 x0_2 x9_2).f3)) ∧ w'.cell? ⟨(ad138.add ((x9_2).toNat * 8)).block, (ad138.add ((x9_2).toNat * 8)).off + 4, none⟩ = some (.int .i64 ((rd_T31 x0_2 x9_2).f4)) ∧ w'.cell? ⟨(ad138.add ((x9_2).toNat * 8)).block, (ad138.add ((x9_2).toNat * 8)).off + 5, none⟩ = some (.int .i64 ((rd_T31 x0_2 x9_2).f5)) ∧ w'.cell? ⟨(ad138.add ((x9_2).toNat * 8)).block, (ad138.add ((x9_2).toNat * 8)).off + 6, none⟩ = some (.int .i64 ((rd_T31 x0_2 x9_2).f6)) ∧ w'.cell? ⟨(ad138.add ((x9_2).toNat * 8)).block, (ad138.add ((x9_2).toNat * 8)).off + 7, none⟩ = some (.string ((rd_T31 x0_2 x9_2).f7)) ∧ w'.cell? (ad138.add (((ji9)).toNat * 8)) = some (.string ((rd_T31 x0_2 (ji9)).f0)) ∧ w'.cell? ⟨(ad138.add (((ji9)).toNat * 8)).block, (ad138.add (((ji9)).toNat * 8)).off + 1, none⟩ = some (.int .i64 ((rd_T31 x0_2 (ji9)).f1)) ∧ w'.cell? ⟨(ad138.add (((ji9)).toNat * 8)).block, (ad138.add (((ji9)).toNat * 8)).off + 2, none⟩ = some (.int .i64 ((rd_T31 x0_2 (ji9)).f2)) ∧ w'.cell? ⟨(ad138.add (((ji9)).toNat * 8)).block, (ad138.add (((ji9)).toNat * 8)).off + 3, none⟩ = some (.int .i64 ((rd_T31 x0_2 (ji9)).f3)) ∧ w'.cell? ⟨(ad138.add (((ji9)).toNat * 8)).block, (ad138.add (((ji9)).toNat * 8)).off + 4, none⟩ = some (.int .i64 ((rd_T31 x0_2 (ji9)).f4)) ∧ w'.cell? ⟨(ad138.add (((ji9)).toNat * 8)).block, (ad138.add (((ji9)).toNat * 8)).off + 5, none⟩ = some (.int .i64 ((rd_T31 x0_2 (ji9)).f5)) ∧ w'.cell? ⟨(ad138.add (((ji9)).toNat * 8)).block, (ad138.add (((ji9)).toNat * 8)).off + 6, none⟩ = some (.int .i64 ((rd_T31 x0_2 (ji9)).f6)) ∧ w'.cell? ⟨(ad138.add (((ji9)).toNat * 8)).block, (ad138.add (((ji9)).toNat * 8)).off + 7, none⟩ = some (.string ((rd_T31 x0_2 (ji9)).f7))) (ds := []) #[false, false, false, false, false, false, false, false, false, false, false, false, false, false, false, false, false] (by kernel_rfl) rfl rfl ⟨hx138_0, hx138_1, hx138_2, hx138_3, hx138_4, hx138_5, hx138_6, hx138_7, hx139_0, hx139_1, hx139_2, hx139_3, hx139_4, hx139_5, hx139_6, hx139_7⟩ (fun hHeld => ?_); refine with_tabW insSort.tab4 insSort.bits4 (fun HT_ HW_ => ?_)
        generalize wr.drew = w22 at HO_0 HK HB hx138_0 hx138_1 hx138_2 hx138_3 hx138_4 hx138_5 hx138_6 hx138_7 hx139_0 hx139_1 hx139_2 hx139_3 hx139_4 hx139_5 hx139_6 hx139_7 hHeld ⊢
        refine pure_ (i := 0) (N := some 18) (v := ?_) (a' := ?_) (tb 17 1) rfl rfl (any_of HT_.out (by kernel_rfl)) (fun _ _ _ h => h) (Or.inl ⟨by rfl, ?_⟩) ?_ ?_
        rotate_left
        ·intro w'
         go_simp
         with_reducible rfl
        rotate_left
        ·simp only [Act.put, List.setIfInBounds_toArray, List.set_cons_zero, List.set_cons_succ, i64_w, i32_w]
         rfl
        refine pure_ (i := 1) (N := some 19) (v := ?_) (a' := ?_) (tb 17 3) rfl rfl (any_of HT_.out (by kernel_rfl)) (fun _ _ _ h => h) (Or.inl ⟨by rfl, ?_⟩) ?_ ?_
        rotate_left
        ·intro w'
         go_simp
         with_reducible rfl
        rotate_left
        ·simp only [Act.put, List.setIfInBounds_toArray, List.set_cons_zero, List.set_cons_succ, i64_w, i32_w]
         rfl
        refine pure_ (i := 2) (N := some 20) (v := ?_) (a' := ?_) (tb 17 7) rfl rfl (any_of HT_.out (by kernel_rfl)) (fun _ _ _ h => h) (Or.inl ⟨by rfl, ?_⟩) ?_ ?_
        rotate_left
        ·intro w'
         go_simp
         with_reducible rfl
        rotate_left
        ·simp only [Act.put, List.setIfInBounds_toArray, List.set_cons_zero, List.set_cons_succ, i64_w, i32_w]
         rfl
        refine pure_ (i := 3) (N := some 21) (v := ?_) (a' := ?_) (tb 17 15) rfl rfl (any_of HT_.out (by kernel_rfl)) (fun _ _ _ h => h) (Or.inl ⟨by rfl, ?_⟩) ?_ ?_
        rotate_left
        ·intro w'
         go_simp
         with_reducible rfl
        rotate_left
        ·simp only [Act.put, List.setIfInBounds_toArray, List.set_cons_zero, List.set_cons_succ, i64_w, i32_w]
         rfl
        refine pure_ (i := 4) (N := some 22) (v := ?_) (a' := ?_) (tb 17 31) rfl rfl (any_of HT_.out (by kernel_rfl)) (fun _ _ _ h => h) (Or.inl ⟨by rfl, ?_⟩) ?_ ?_
        rotate_left
        ·intro w'
         go_simp
         with_reducible rfl
        rotate_left
        ·simp only [Act.put, List.setIfInBounds_toArray, List.set_cons_zero, List.set_cons_succ, i64_w, i32_w]
         rfl
        refine pure_ (i := 5) (N := some 23) (v := ?_) (a' := ?_) (tb 17 63) rfl rfl (any_of HT_.out (by kernel_rfl)) (fun _ _ _ h => h) (Or.inl ⟨by rfl, ?_⟩) ?_ ?_
        rotate_left
        ·intro w'
         go_simp
         with_reducible rfl
        rotate_left
        ·simp only [Act.put, List.setIfInBounds_toArray, List.set_cons_zero, List.set_cons_succ, i64_w, i32_w]
         rfl
        refine pure_ (i := 6) (N := some 24) (v := ?_) (a' := ?_) (tb 17 127) rfl rfl (any_of HT_.out (by kernel_rfl)) (fun _ _ _ h => h) (Or.inl ⟨by rfl, ?_⟩) ?_ ?_
        rotate_left
        ·intro w'
         go_simp
         with_reducible rfl
        rotate_left
        ·simp only [Act.put, List.setIfInBounds_toArray, List.set_cons_zero, List.set_cons_succ, i64_w, i32_w]
         rfl
        refine pure_ (i := 7) (N := some 25) (v := ?_) (a' := ?_) (tb 17 255) rfl rfl (any_of HT_.out (by kernel_rfl)) (fun _ _ _ h => h) (Or.inl ⟨by rfl, ?_⟩) ?_ ?_
        rotate_left
        ·intro w'
         go_simp
         with_reducible rfl
        rotate_left
        ·simp only [Act.put, List.setIfInBounds_toArray, List.set_cons_zero, List.set_cons_succ, i64_w, i32_w]
         rfl
        refine pure_ (i := 9) (N := some 27) (v := ?_) (a' := ?_) (tb 17 767) rfl rfl (any_of HT_.out (by kernel_rfl)) (fun _ _ _ h => h) (Or.inl ⟨by rfl, ?_⟩) ?_ ?_
        rotate_left
        ·intro w'
         go_simp
         with_reducible rfl
        rotate_left
        ·simp only [Act.put, List.setIfInBounds_toArray, List.set_cons_zero, List.set_cons_succ, i64_w, i32_w]
         rfl
        refine pure_ (i := 10) (N := some 28) (v := ?_) (a' := ?_) (tb 17 1791) rfl rfl (any_of HT_.out (by kernel_rfl)) (fun _ _ _ h => h) (Or.inl ⟨by rfl, ?_⟩) ?_ ?_
        rotate_left
        ·intro w'
         go_simp
         with_reducible rfl
        rotate_left
        ·simp only [Act.put, List.setIfInBounds_toArray, List.set_cons_zero, List.set_cons_succ, i64_w, i32_w]
         rfl
        refine pure_ (i := 11) (N := some 29) (v := ?_) (a' := ?_) (tb 17 3839) rfl rfl (any_of HT_.out (by kernel_rfl)) (fun _ _ _ h => h) (Or.inl ⟨by rfl, ?_⟩) ?_ ?_
        rotate_left
        ·intro w'
         go_simp
         with_reducible rfl
        rotate_left
        ·simp only [Act.put, List.setIfInBounds_toArray, List.set_cons_zero, List.set_cons_succ, i64_w, i32_w]
         rfl
        refine pure_ (i := 12) (N := some 30) (v := ?_) (a' := ?_) (tb 17 7935) rfl rfl (any_of HT_.out (by kernel_rfl)) (fun _ _ _ h => h) (Or.inl ⟨by rfl, ?_⟩) ?_ ?_
        rotate_left
        ·intro w'
         go_simp
         with_reducible rfl
        rotate_left
        ·simp only [Act.put, List.setIfInBounds_toArray, List.set_cons_zero, List.set_cons_succ, i64_w, i32_w]
         rfl
        refine take_ (i := 8) (N := some 26) (v := ?_) (a' := ?_) (tb 17 8191) rfl rfl (take_ofW HT_.out HW_.out (by kernel_rfl)) (fun _ _ _ h => h) (Or.inl ⟨by rfl, ?_⟩) hHeld ?_ ?_
        rotate_left
        ·rintro w' ⟨s0, s1, s2, s3, s4, s5, s6, s7, s8, s9, s10, s11, s12, s13, s14, s15⟩
         go_simp
         with_reducible rfl
        rotate_left
        ·simp only [Act.put, List.setIfInBounds_toArray, List.set_cons_zero, List.set_cons_succ, i64_w, i32_w]
         rfl
        refine take_ (i := 13) (N := some 31) (v := ?_) (a' := ?_) (tb 17 16383) rfl rfl (take_ofW HT_.out HW_.out (by kernel_rfl)) (fun _ _ _ h => h) (Or.inl ⟨by rfl, ?_⟩) hHeld ?_ ?_
        rotate_left
        ·rintro w' ⟨s0, s1, s2, s3, s4, s5, s6, s7, s8, s9, s10, s11, s12, s13, s14, s15⟩
         go_simp
         with_reducible rfl
        rotate_left
        ·simp only [Act.put, List.setIfInBounds_toArray, List.set_cons_zero, List.set_cons_succ, i64_w, i32_w]
         rfl
        refine one_ (i := 14) (N := some 32) (tb 17 32767) rfl rfl (one_of HT_.out (by kernel_rfl)) (by decide) (fun K hK => ?_)
        refine goesC_ (lb := #[.pointer (some cw_)]) Try.func31 (by kernel_rfl) rfl #[.agg #[.string ((rd_T31 x0_2 x9_2).f0), .int .i64 ((rd_T31 x0_2 x9_2).f1), .int .i64 ((rd_T31 x0_2 x9_2).f2), .int .i64 ((rd_T31 x0_2 x9_2).f3), .int .i64 ((rd_T31 x0_2 x9_2).f4), .int .i64 ((rd_T31 x0_2 x9_2).f5), .int .i64 ((rd_T31 x0_2 x9_2).f6), .string ((rd_T31 x0_2 x9_2).f7)], .agg #[.string ((rd_T31 x0_2 (ji9)).f0), .int .i64 ((rd_T31 x0_2 (ji9)).f1), .int .i64 ((rd_T31 x0_2 (ji9)).f2), .int .i64 ((rd_T31 x0_2 (ji9)).f3), .int .i64 ((rd_T31 x0_2 (ji9)).f4), .int .i64 ((rd_T31 x0_2 (ji9)).f5), .int .i64 ((rd_T31 x0_2 (ji9)).f6), .string ((rd_T31 x0_2 (ji9)).f7)], .pointer (some cw_)] (by rfl) rfl rfl (by rfl) (by (try simp only [List.map_toArray, List.map_cons, List.map_nil]); first | done | (simp only [hji9]; rfl) | rfl | (simp only [List.length_drop, List.length_take]; rfl)) ?_
        with_reducible refine (directory_Sort_1.calls ((rd_T31 x0_2 x9_2).f0) ((rd_T31 x0_2 x9_2).f1) ((rd_T31 x0_2 x9_2).f2) ((rd_T31 x0_2 x9_2).f3) ((rd_T31 x0_2 x9_2).f4) ((rd_T31 x0_2 x9_2).f5) ((rd_T31 x0_2 x9_2).f6) ((rd_T31 x0_2 x9_2).f7) ((rd_T31 x0_2 (ji9)).f0) ((rd_T31 x0_2 (ji9)).f1) ((rd_T31 x0_2 (ji9)).f2) ((rd_T31 x0_2 (ji9)).f3) ((rd_T31 x0_2 (ji9)).f4) ((rd_T31 x0_2 (ji9)).f5) ((rd_T31 x0_2 (ji9)).f6) ((rd_T31 x0_2 (ji9)).f7) a3 t140 w0 _ cw_ hcw_ ?sideB A12.out).mono ?_
        case sideB => repeat (first | (with_reducible first | exact HB.out | apply below_alloc | apply pw_below_drewN | apply below_drew1) | exact HB.out)
        rintro e w24 ⟨rfl, hb⟩
        have HS0_ := (hb.cell (World.block_lt_of_cell? _ _ (hHeld.1))).trans (hHeld.1)
        have HS1_ := (hb.cell (World.block_lt_of_cell? _ _ (hHeld.2.1))).trans (hHeld.2.1)
        have HS2_ := (hb.cell (World.block_lt_of_cell? _ _ (hHeld.2.2.1))).trans (hHeld.2.2.1)
        have HS3_ := (hb.cell (World.block_lt_of_cell? _ _ (hHeld.2.2.2.1))).trans (hHeld.2.2.2.1)
        have HS4_ := (hb.cell (World.block_lt_of_cell? _ _ (hHeld.2.2.2.2.1))).trans (hHeld.2.2.2.2.1)
        have HS5_ := (hb.cell (World.block_lt_of_cell? _ _ (hHeld.2.2.2.2.2.1))).trans (hHeld.2.2.2.2.2.1)
        have HS6_ := (hb.cell (World.block_lt_of_cell? _ _ (hHeld.2.2.2.2.2.2.1))).trans (hHeld.2.2.2.2.2.2.1)
        have HS7_ := (hb.cell (World.block_lt_of_cell? _ _ (hHeld.2.2.2.2.2.2.2.1))).trans (hHeld.2.2.2.2.2.2.2.1)
        have HS8_ := (hb.cell (World.block_lt_of_cell? _ _ (hHeld.2.2.2.2.2.2.2.2.1))).trans (hHeld.2.2.2.2.2.2.2.2.1)
        have HS9_ := (hb.cell (World.block_lt_of_cell? _ _ (hHeld.2.2.2.2.2.2.2.2.2.1))).trans (hHeld.2.2.2.2.2.2.2.2.2.1)
        have HS10_ := (hb.cell (World.block_lt_of_cell? _ _ (hHeld.2.2.2.2.2.2.2.2.2.2.1))).trans (hHeld.2.2.2.2.2.2.2.2.2.2.1)
        have HS11_ := (hb.cell (World.block_lt_of_cell? _ _ (hHeld.2.2.2.2.2.2.2.2.2.2.2.1))).trans (hHeld.2.2.2.2.2.2.2.2.2.2.2.1)
        have HS12_ := (hb.cell (World.block_lt_of_cell? _ _ (hHeld.2.2.2.2.2.2.2.2.2.2.2.2.1))).trans (hHeld.2.2.2.2.2.2.2.2.2.2.2.2.1)
        have HS13_ := (hb.cell (World.block_lt_of_cell? _ _ (hHeld.2.2.2.2.2.2.2.2.2.2.2.2.2.1))).trans (hHeld.2.2.2.2.2.2.2.2.2.2.2.2.2.1)
        have HS14_ := (hb.cell (World.block_lt_of_cell? _ _ (hHeld.2.2.2.2.2.2.2.2.2.2.2.2.2.2.1))).trans (hHeld.2.2.2.2.2.2.2.2.2.2.2.2.2.2.1)
        have HS15_ := (hb.cell (World.block_lt_of_cell? _ _ (hHeld.2.2.2.2.2.2.2.2.2.2.2.2.2.2.2))).trans (hHeld.2.2.2.2.2.2.2.2.2.2.2.2.2.2.2)
        refine ⟨_, rfl, ?_⟩
        replace HO_0 := Aside0.mk (Kd.R_below (by (with_reducible repeat (first | apply Kd.R_alloc | apply Kd.R_drewN | apply Kd.R_drew)); exact HO_0.out) hb)
        replace HK := Aside0.mk (Kept.below (S := (fun k_ => P0_ k_)) (by repeat (first | (with_reducible first | exact HK.out | apply Kept.alloc | apply Kept.drewN | apply Kept.drew) | exact HK.out)) hb)
        replace HB := Aside0.mk (below_step (by repeat (first | (with_reducible first | exact HB.out | apply below_alloc | apply pw_below_drewN | apply below_drew1) | exact HB.out)) hb)
        (try clear hb)
        (try clear hb2)
        (try clear hk)
        (try clear hi)
        refine hK.out _ _ ⟨HS0_, HS1_, HS2_, HS3_, HS4_, HS5_, HS6_, HS7_, HS8_, HS9_, HS10_, HS11_, HS12_, HS13_, HS14_, HS15_⟩ (fun hHeld => ?_)
        clear hK K
        refine norm_ (a' := ?_) ?_ ?_
        rotate_left
        ·show Act.put _ (some 32) _ = _
         simp only [Act.put, List.setIfInBounds_toArray, List.set_cons_zero, List.set_cons_succ, i64_w, i32_w]
         rfl
        refine pure_ (i := 15) (N := some 33) (v := ?_) (a' := ?_) (tb 17 65535) rfl rfl (any_of HT_.out (by kernel_rfl)) (fun _ _ _ h => h) (Or.inl ⟨by rfl, ?_⟩) ?_ ?_
        rotate_left
        ·intro w'
         go_simp
         with_reducible rfl
        rotate_left
        ·simp only [Act.put, List.setIfInBounds_toArray, List.set_cons_zero, List.set_cons_succ, i64_w, i32_w]
         rfl
        refine pure_ (i := 16) (N := some 34) (v := ?_) (a' := ?_) (tb 17 131071) rfl rfl (any_of HT_.out (by kernel_rfl)) (fun _ _ _ h => h) (Or.inl ⟨by rfl, ?_⟩) ?_ ?_
        rotate_left
        ·intro w'
         go_simp
         with_reducible rfl
        rotate_left
        ·simp only [Act.put, List.setIfInBounds_toArray, List.set_cons_zero, List.set_cons_succ, i64_w, i32_w]
         rfl
        refine done_ (done_of HT_.out (by kernel_rfl)) ?_
        try go_wp2
        go_roundg k2
        case measure => have := HK1.out; have := HK2.out; omega
        case rel => exact ⟨(x0_2), (wrap64 (x8_1 + 1)), (by first | rfl | (simp; done) | (simp [*]; done)), H', ⟨by have := HK1.out; have := HK2.out; omega⟩, ⟨by (with_reducible repeat (first | apply Kd.R_alloc | apply Kd.R_drewN | apply Kd.R_drew)); exact HO_0.out⟩, ⟨by repeat (first | (with_reducible first | exact HK.out | apply Kept.alloc | apply Kept.drewN | apply Kept.drew) | exact HK.out)⟩, ⟨by repeat (first | (with_reducible first | exact HB.out | apply below_alloc | apply pw_below_drewN | apply below_drew1) | exact HB.out)⟩⟩
      ·rw [if_neg c6] at H
       have c6b0 : decide (a1 < x9_2) = false := decide_eq_false c6
       clear c6
       have H' := Aside0.mk H
       clear H
       try go_wp2
       replace HO_0 := Aside0.mk (Kd.R_drew HO_0.out)
       replace HK := Aside0.mk (Kept.drew HK.out)
       replace HB := Aside0.mk (below_drew1 HB.out)
       refine start_ (n := 17) (S := fun w' => True) (ds := []) #[false, false, false, false, false, false, false, false, false, false, false, false, false, false, false, false, false] (by kernel_rfl) rfl rfl trivial (fun hHeld => ?_); refine with_tabW insSort.tab4 insSort.bits4 (fun HT_ HW_ => ?_)
       generalize wr.drew = w25 at HO_0 HK HB hHeld ⊢
       refine pure_ (i := 0) (N := some 18) (v := ?_) (a' := ?_) (tb 17 1) rfl rfl (any_of HT_.out (by kernel_rfl)) (fun _ _ _ h => h) (Or.inl ⟨by rfl, ?_⟩) ?_ ?_
       rotate_left
       ·intro w'
        go_simp
        with_reducible rfl
       rotate_left
       ·simp only [Act.put, List.setIfInBounds_toArray, List.set_cons_zero, List.set_cons_succ, i64_w, i32_w]
        rfl
       refine pure_ (i := 1) (N := some 19) (v := ?_) (a' := ?_) (tb 17 3) rfl rfl (any_of HT_.out (by kernel_rfl)) (fun _ _ _ h => h) (Or.inl ⟨by rfl, ?_⟩) ?_ ?_
       rotate_left
       ·intro w'
        go_simp
        with_reducible rfl
       rotate_left
       ·simp only [Act.put, List.setIfInBounds_toArray, List.set_cons_zero, List.set_cons_succ, i64_w, i32_w]
        rfl
       refine pure_ (i := 2) (N := some 20) (v := ?_) (a' := ?_) (tb 17 7) rfl rfl (any_of HT_.out (by kernel_rfl)) (fun _ _ _ h => h) (Or.inl ⟨by rfl, ?_⟩) ?_ ?_
       rotate_left
       ·intro w'
        go_simp
        with_reducible rfl
       rotate_left
       ·simp only [Act.put, List.setIfInBounds_toArray, List.set_cons_zero, List.set_cons_succ, i64_w, i32_w]
        rfl
       refine pure_ (i := 3) (N := some 21) (v := ?_) (a' := ?_) (tb 17 15) rfl rfl (any_of HT_.out (by kernel_rfl)) (fun _ _ _ h => h) (Or.inl ⟨by rfl, ?_⟩) ?_ ?_
       rotate_left
       ·intro w'
        go_simp
        with_reducible rfl
       rotate_left
       ·simp only [Act.put, List.setIfInBounds_toArray, List.set_cons_zero, List.set_cons_succ, i64_w, i32_w]
        rfl
       refine pure_ (i := 4) (N := some 22) (v := undef) (a' := ?_) (tb 17 31) rfl rfl (any_of HT_.out (by kernel_rfl)) (fun _ _ _ h => h) (Or.inr ⟨by rfl, rfl⟩) ?_ ?_
       rotate_left
       ·simp only [Act.put, List.setIfInBounds_toArray, List.set_cons_zero, List.set_cons_succ, i64_w, i32_w]
        rfl
       refine pure_ (i := 5) (N := some 23) (v := undef) (a' := ?_) (tb 17 63) rfl rfl (any_of HT_.out (by kernel_rfl)) (fun _ _ _ h => h) (Or.inr ⟨by rfl, rfl⟩) ?_ ?_
       rotate_left
       ·simp only [Act.put, List.setIfInBounds_toArray, List.set_cons_zero, List.set_cons_succ, i64_w, i32_w]
        rfl
       refine pure_ (i := 6) (N := some 24) (v := undef) (a' := ?_) (tb 17 127) rfl rfl (any_of HT_.out (by kernel_rfl)) (fun _ _ _ h => h) (Or.inr ⟨by rfl, rfl⟩) ?_ ?_
       rotate_left
       ·simp only [Act.put, List.setIfInBounds_toArray, List.set_cons_zero, List.set_cons_succ, i64_w, i32_w]
        rfl
       refine pure_ (i := 7) (N := some 25) (v := undef) (a' := ?_) (tb 17 255) rfl rfl (any_of HT_.out (by kernel_rfl)) (fun _ _ _ h => h) (Or.inr ⟨by rfl, rfl⟩) ?_ ?_
       rotate_left
       ·simp only [Act.put, List.setIfInBounds_toArray, List.set_cons_zero, List.set_cons_succ, i64_w, i32_w]
        rfl
       refine pure_ (i := 8) (N := some 26) (v := undef) (a' := ?_) (tb 17 511) rfl rfl (any_of HT_.out (by kernel_rfl)) (fun _ _ _ h => h) (Or.inr ⟨by rfl, rfl⟩) ?_ ?_
       rotate_left
       ·simp only [Act.put, List.setIfInBounds_toArray, List.set_cons_zero, List.set_cons_succ, i64_w, i32_w]
        rfl
       refine pure_ (i := 9) (N := some 27) (v := undef) (a' := ?_) (tb 17 1023) rfl rfl (any_of HT_.out (by kernel_rfl)) (fun _ _ _ h => h) (Or.inr ⟨by rfl, rfl⟩) ?_ ?_
       rotate_left
       ·simp only [Act.put, List.setIfInBounds_toArray, List.set_cons_zero, List.set_cons_succ, i64_w, i32_w]
        rfl
       refine pure_ (i := 10) (N := some 28) (v := undef) (a' := ?_) (tb 17 2047) rfl rfl (any_of HT_.out (by kernel_rfl)) (fun _ _ _ h => h) (Or.inr ⟨by rfl, rfl⟩) ?_ ?_
       rotate_left
       ·simp only [Act.put, List.setIfInBounds_toArray, List.set_cons_zero, List.set_cons_succ, i64_w, i32_w]
        rfl
       refine pure_ (i := 11) (N := some 29) (v := undef) (a' := ?_) (tb 17 4095) rfl rfl (any_of HT_.out (by kernel_rfl)) (fun _ _ _ h => h) (Or.inr ⟨by rfl, rfl⟩) ?_ ?_
       rotate_left
       ·simp only [Act.put, List.setIfInBounds_toArray, List.set_cons_zero, List.set_cons_succ, i64_w, i32_w]
        rfl
       refine pure_ (i := 12) (N := some 30) (v := undef) (a' := ?_) (tb 17 8191) rfl rfl (any_of HT_.out (by kernel_rfl)) (fun _ _ _ h => h) (Or.inr ⟨by rfl, rfl⟩) ?_ ?_
       rotate_left
       ·simp only [Act.put, List.setIfInBounds_toArray, List.set_cons_zero, List.set_cons_succ, i64_w, i32_w]
        rfl
       refine pure_ (i := 13) (N := some 31) (v := undef) (a' := ?_) (tb 17 16383) rfl rfl (any_of HT_.out (by kernel_rfl)) (fun _ _ _ h => h) (Or.inr ⟨by rfl, rfl⟩) ?_ ?_
       rotate_left
       ·simp only [Act.put, List.setIfInBounds_toArray, List.set_cons_zero, List.set_cons_succ, i64_w, i32_w]
        rfl
       refine pure_ (i := 14) (N := some 32) (v := undef) (a' := ?_) (tb 17 32767) rfl rfl (any_of HT_.out (by kernel_rfl)) (fun _ _ _ h => h) (Or.inr ⟨by rfl, rfl⟩) ?_ ?_
       rotate_left
       ·simp only [Act.put, List.setIfInBounds_toArray, List.set_cons_zero, List.set_cons_succ, i64_w, i32_w]
        rfl
       refine pure_ (i := 15) (N := some 33) (v := undef) (a' := ?_) (tb 17 65535) rfl rfl (any_of HT_.out (by kernel_rfl)) (fun _ _ _ h => h) (Or.inr ⟨by rfl, rfl⟩) ?_ ?_
       rotate_left
       ·simp only [Act.put, List.setIfInBounds_toArray, List.set_cons_zero, List.set_cons_succ, i64_w, i32_w]
        rfl
       refine pure_ (i := 16) (N := some 34) (v := ?_) (a' := ?_) (tb 17 131071) rfl rfl (any_of HT_.out (by kernel_rfl)) (fun _ _ _ h => h) (Or.inl ⟨by rfl, ?_⟩) ?_ ?_
       rotate_left
       ·intro w'
        go_simp
        with_reducible rfl
       rotate_left
       ·simp only [Act.put, List.setIfInBounds_toArray, List.set_cons_zero, List.set_cons_succ, i64_w, i32_w]
        rfl
       refine done_ (done_of HT_.out (by kernel_rfl)) ?_
       try go_wp2
       go_roundg k2
       case measure => have := HK1.out; have := HK2.out; omega
       case rel => exact ⟨(x0_2), (wrap64 (x8_1 + 1)), (by first | rfl | (simp; done) | (simp [*]; done)), H', ⟨by have := HK1.out; have := HK2.out; omega⟩, ⟨by (with_reducible repeat (first | apply Kd.R_alloc | apply Kd.R_drewN | apply Kd.R_drew)); exact HO_0.out⟩, ⟨by repeat (first | (with_reducible first | exact HK.out | apply Kept.alloc | apply Kept.drewN | apply Kept.drew) | exact HK.out)⟩, ⟨by repeat (first | (with_reducible first | exact HB.out | apply below_alloc | apply pw_below_drewN | apply below_drew1) | exact HB.out)⟩⟩
   ·rw [if_neg c5] at H
    have c5b0 : decide (x8_1 < a2) = false := decide_eq_false c5
    clear c5
    obtain rfl := Option.some.inj H
    go_wp2
    first | go_end0 | ((try simp only [Exit.inBlock, Exit.then]); refine bodyPost_ret (results_none rfl _ _ _) rfl ?_)
    exact ⟨by first | rfl | (simp [errW_none, errW_some] <;> rfl) | (simp [*, errW_none, errW_some] <;> rfl), by (with_reducible repeat (first | apply Kd.R_alloc | apply Kd.R_drewN | apply Kd.R_drew)); exact HO_0.out, by repeat (first | (with_reducible first | exact HB.out | apply below_alloc | apply pw_below_drewN | apply below_drew1) | exact HB.out), by repeat (first | (with_reducible first | exact HK.out | apply Kept.alloc | apply Kept.drewN | apply Kept.drew) | exact HK.out)⟩
end Go.Proofs.Ythblghfobnhoeaa.H
namespace Go.Proofs.Ythblghfobnhoeaa.H
open Go.RowKit Go.Proofs.YthblghfobnhoeaaW.PrintWords Go.Proofs.YthblghfobnhoeaaW.PrintLast Go.Proofs.YthblghfobnhoeaaW.PrintMore Go.Proofs.Ythblghfobnhoeaa.A
set_option linter.unusedVariables false
set_option linter.unusedSimpArgs false

/-! slices.Clone of records, and directory.Sort. -/
abbrev D := S31
theorem dir_info : (Try.prog.info? 31).map (fun i => (i.zero, i.size, i.bytes)) = some (some (.agg #[.string ByteArray.empty, .int .i64 0, .int .i64 0, .int .i64 0, .int .i64 0, .int .i64 0, .int .i64 0, .string ByteArray.empty]), 8, 80) := by kernel_rfl
theorem dir_KM (W : World) (base : Nat) (x : D) (cs : List Value) (h : k31.K W x cs) : k31.M W base (fun _ => False) x cs := by
 rw [k31_open h]
 exact k31_mkM W base _ x
set_option maxRecDepth 100000 in
set_option maxHeartbeats 4000000 in
theorem clone_any (A : Option Addr) (c0 : Nat) (l : List D) (w : World) (hC : Kd.C k31 w A l.length l) (hc : l.length ≤ c0) (hl : l.length ≤ 1000000) :
  Calls Try.prog 29 #[.slice A l.length c0] w fun e w' => ∃ v, e = .returned v ∧ Kd.R k31 31 w' w.heap.size (fun _ => True) v l ∧ Below w.heap.size w w' := by
 have hn := Lib.run_eql_slice_nil (P := Try.prog) w 35 31 A l.length c0 0 0 Try.underlying35
 rcases A with _ | ad
 ·have h0 : l = [] := by
   rcases l with _ | ⟨x, t⟩
   ·rfl
   ·obtain ⟨ad, h, _⟩ := hC.2.2 (by simp)
    cases h
  subst h0
  have hn0 := Lib.run_eql_slice_nil (P := Try.prog) w 35 31 none 0 c0 0 0 Try.underlying35
  simp only [List.length_nil]
  clear hn
  go_enter Try.func29, Try.ntmps29
  go_wp2
  go_ret
  exact ⟨_, rfl, Kd.R_nil _ _ _ _ _, Below.refl _ _⟩
 ·go_enter Try.func29, Try.ntmps29
  have HO : Kd.R k31 31 (w.alloc (.cells #[] 31)) w.heap.size (fun _ => True) (.slice (some ⟨w.heap.size, 0, none⟩) 0 0) [] :=
   ⟨fun _ _ => trivial, OwnRow.lit (ps := []) (inner := []) w w.heap.size (Reps.none _ _) (Nat.le_refl _) (by simp)⟩
  have HC := Kd.C_alloc hC (.cells #[] 31)
  have HO := Aside0.mk HO
  have HC := Aside0.mk HC
  clear hC
  go_wp2_with (at_builtin; refine Kd.R_append_rows k31 (Rr := k31.K (w.alloc (.cells #[] 31))) (w0 := w) w.heap.size rfl (.tmp 5) (.tmp 6) 35 31 _ 80 rfl Try.underlying35 dir_info rfl (by decide) (by decide) (.slice (some ⟨w.heap.size, 0, none⟩) 0 0) [] l (some ad) l.length c0 (fun _ => True) (fun _ => False) rfl rfl HO.out HC.out (fun x cs h => dir_KM _ _ x cs h) (fun _ h => h.elim) (fun _ _ => trivial) (below_alloc (Below.refl _ _) _) (by simp) (by simp; omega) ?_; rintro v1 w1 hR hB hg hat)
  go_ret
  exact ⟨_, rfl, hR, hB⟩

/-! slices.SortStableFunc of fewer than 20 records. -/
set_option maxRecDepth 100000 in
set_option maxHeartbeats 4000000 in
theorem stableSmall (k : Nat) (P0_ : Nat → Prop) (l0 : List D) (hl : l0.length < 20) (a1 : Bool) (r : List D) (w0 w : World) (cw_ : Addr) (hcw_ : Aside0 (w0.cell? cw_ = some (.bool a1))) (v : Value) (hB : Below w0.heap.size w0 w) (ho0 : Kd.R k31 31 w w0.heap.size P0_ v l0) (h : insSort.f k l0 0 (l0.length : Int) a1 = some r) :
  Calls Try.prog 55 #[v, .int .i64 (l0.length : Int), .func (.func 31) #[] #[.pointer (some cw_)]] w fun e w' => e = .returned (.tuple #[]) ∧ Kd.R k31 31 w' w0.heap.size (fun k_ => (P0_ k_ ∨ w.heap.size ≤ k_)) v r ∧ Below w0.heap.size w0 w' := by
 have d1 : decide (20 ≤ (l0.length : Int)) = false := decide_eq_false (by omega)
 have d2 : decide (20 < (l0.length : Int)) = false := decide_eq_false (by omega)
 have d3 : decide (20 ≤ l0.length) = false := decide_eq_false (by omega)
 have d4 : decide (20 < l0.length) = false := decide_eq_false (by omega)
 have HB := Aside0.mk hB
 have HO := Aside0.mk ho0
 have H := Aside0.mk h
 clear hB ho0 h
 go_enter Try.func55, Try.ntmps55
 go_wp2_with fail
 refine wp_loop_rounds 1 ?_
 rw [rounds_succ]
 go_wp2_with (go_at_call 76; refine (insSort.calls k P0_ v l0 0 (l0.length : Int) a1 r w0 _ cw_ hcw_ HB.out HO.out H.out).mono ?_; rintro e w2 ⟨rfl, hR, hB2, hK⟩; replace hR := Aside0.mk hR; replace hB2 := Aside0.mk hB2; clear hK)
 try simp only [Act.put, List.setIfInBounds_toArray, List.set_cons_zero, List.set_cons_succ]
 refine wp_loop_rounds 1 ?_
 rw [rounds_succ]
 go_wp2_with fail
 exact bodyPost_end (by simp [results, go_sem]) rfl ⟨rfl, hR.out, hB2.out⟩

set_option maxRecDepth 100000 in
set_option maxHeartbeats 4000000 in
theorem sortSmall (k : Nat) (P0_ : Nat → Prop) (l0 : List D) (hl : l0.length < 20) (a1 : Bool) (r : List D) (w0 w : World) (cw_ : Addr) (hcw_ : Aside0 (w0.cell? cw_ = some (.bool a1))) (v : Value) (hB : Below w0.heap.size w0 w) (ho0 : Kd.R k31 31 w w0.heap.size P0_ v l0) (h : insSort.f k l0 0 (l0.length : Int) a1 = some r) :
  Calls Try.prog 30 #[v, .func (.func 31) #[] #[.pointer (some cw_)]] w fun e w' => e = .returned (.tuple #[]) ∧ Kd.R k31 31 w' w0.heap.size (fun k_ => (P0_ k_ ∨ w.heap.size ≤ k_)) v r ∧ Below w0.heap.size w0 w' := by
 obtain ⟨A, c, rfl⟩ := Kd.R_slice ho0
 have HB := Aside0.mk hB
 have HO := Aside0.mk ho0
 have H := Aside0.mk h
 clear hB ho0 h
 go_enter Try.func30, Try.ntmps30
 go_wp2_with (go_at_call 55; refine (stableSmall k P0_ l0 hl a1 r w0 _ cw_ hcw_ _ HB.out HO.out H.out).mono ?_; rintro e w2 ⟨rfl, hR, hB2⟩; replace hR := Aside0.mk hR; replace hB2 := Aside0.mk hB2)
 exact bodyPost_end (by simp [results, go_sem]) rfl ⟨rfl, hR.out, hB2.out⟩

/-- directory.Sort. -/
def directory_Sort.f (k : Nat) (l0 : List D) (a1 : Bool) : Option (List D) := if l0.length < 20 then insSort.f k l0 0 (l0.length : Int) a1 else none
theorem directory_Sort.mono : ∀ a0 a1 k, LeO (directory_Sort.f k a0 a1) (directory_Sort.f (k + 1) a0 a1) := by
 intro a0 a1 k
 unfold directory_Sort.f
 exact LeO.ite (insSort.mono _ _ _ _ _) (LeO.refl _)
set_option maxRecDepth 100000 in
set_option maxHeartbeats 4000000 in
theorem directory_Sort.calls (k : Nat) (A0 : Option Addr) (c0 : Nat) (l0 : List D) (a1 : Bool) (r : List D) (w : World) (hr0 : Kd.C k31 w A0 l0.length l0) (hc0 : l0.length ≤ c0) (h : directory_Sort.f k l0 a1 = some r) :
  Calls Try.prog 15 #[.slice A0 l0.length c0, .bool a1] w fun e w' => ∃ v0_ : Value, e = .returned (v0_) ∧ Kd.R k31 31 w' w.heap.size (fun _ => True) v0_ r ∧ Below w.heap.size w w' := by
 unfold directory_Sort.f at h
 by_cases hl : l0.length < 20
 case neg => rw [if_neg hl] at h; cases h
 rw [if_pos hl] at h
 have H := Aside0.mk h
 clear h
 have HC := Aside0.mk (Kd.C_alloc hr0 (.cells #[.bool a1] 4))
 have hcell : (w.alloc (.cells #[.bool a1] 4)).cell? ⟨w.heap.size, 0, none⟩ = some (.bool a1) := by go_simp
 have hbel := Aside0.mk ((Below.refl w.heap.size w).alloc (Nat.le_refl _) (.cells #[.bool a1] 4))
 have hcw := Aside0.mk hcell
 have hz := Aside0.mk (show w.heap.size ≤ (w.alloc (.cells #[.bool a1] 4)).heap.size by simp)
 clear hcell hr0
 go_enter Try.func15, Try.ntmps15
 go_wp2_with (first
  | (go_at_call 29; refine (clone_any A0 c0 l0 _ HC.out hc0 (by omega)).mono ?_; rintro e w2 ⟨v2, rfl, hR2, hB2⟩; replace hR2 := Aside0.mk hR2; replace hB2 := Aside0.mk hB2)
  | (go_at_call 30; refine (sortSmall k (fun _ => True) l0 hl a1 r _ _ ⟨w.heap.size, 0, none⟩ hcw v2 hB2.out hR2.out H.out).mono ?_; rintro e w3 ⟨rfl, hR3, hB3⟩; replace hR3 := Aside0.mk hR3; replace hB3 := Aside0.mk hB3))
 go_ret
 exact ⟨_, rfl, Kd.R_mono (Kd.R_lower hR3.out hz.out) (fun _ _ => trivial), below_step hbel.out hB3.out⟩

end Go.Proofs.Ythblghfobnhoeaa.H
namespace Go.Proofs.Ythblghfobnhoeaa.Q
open Go.RowKit Go.Proofs.YthblghfobnhoeaaW.PrintWords Go.Proofs.YthblghfobnhoeaaW.PrintLast Go.Proofs.Ythblghfobnhoeaa.A
set_option linter.unusedVariables false

theorem wrap_id {x : Int} (h0 : -9223372036854775808 ≤ x) (h1 : x ≤ 9223372036854775807) : wrap64 x = x := by
  unfold wrap64; omega

/-- The size of a record, as the definitions say. -/
def sizeV (a b : Int) : Int :=
  if 1 ≤ a ∧ a ≤ 254 ∧ 0 ≤ b ∧ b ≤ 254 ∧ b % 2 = 0 then (if (34 + a) / 2 * 2 + b ≤ 254 then (34 + a) / 2 * 2 + b else 0) else 0

theorem padded_eq (a : Int) (h0 : 0 ≤ a) (h1 : a ≤ 1000) : dirrecord_padded.f a = some ((34 + a) / 2 * 2) := by
  unfold dirrecord_padded.f
  rw [wrap_id (x := 33 + a) (by omega) (by omega), wrap_id (x := 33 + a + 1) (by omega) (by omega)]
  rw [Int.tdiv_eq_ediv_of_nonneg (by omega)]
  rw [wrap_id (x := (33 + a + 1) / 2) (by omega) (by omega), wrap_id (by omega) (by omega)]
  congr 1
  omega

theorem size_eq (k : Nat) (a b : Int) : dirrecord_Size.f (k + 1) a b = some (sizeV a b) := by
  unfold dirrecord_Size.f sizeV
  by_cases h1 : a < 1
  · rw [if_pos h1, if_neg (by omega)]; simp [dirrecord_Size.j0]
  · rw [if_neg h1]
    by_cases h2 : a > 254
    · rw [if_pos h2, if_neg (by omega)]; simp [dirrecord_Size.j0]
    · rw [if_neg h2]
      by_cases h3 : b < 0
      · rw [if_pos h3, if_neg (by omega)]; simp [dirrecord_Size.j0]
      · rw [if_neg h3]
        by_cases h4 : b > 254
        · rw [if_pos h4, if_neg (by omega)]; simp [dirrecord_Size.j0]
        · rw [if_neg h4]
          have e : Int.tmod b 2 = b % 2 := Int.tmod_eq_emod_of_nonneg (by omega)
          rw [e]
          by_cases h5 : b % 2 = 0
          · rw [if_pos ⟨by omega, by omega, by omega, by omega, h5⟩]
            have e2 : (b % 2 != 0) = false := by simp [h5]
            rw [e2]
            simp only [dirrecord_Size.j0]
            rw [if_neg (by decide), padded_eq a (by omega) (by omega)]
            simp only [Option.bind_some]
            rw [wrap_id (by omega) (by omega)]
            split <;> rfl
          · rw [if_neg (by omega)]
            have e2 : (b % 2 != 0) = true := by simp [h5]
            rw [e2]
            simp [dirrecord_Size.j0]

end Go.Proofs.Ythblghfobnhoeaa.Q
namespace Go.Proofs.Ythblghfobnhoeaa.Q
open Go.RowKit Go.Proofs.YthblghfobnhoeaaW.PrintWords Go.Proofs.YthblghfobnhoeaaW.PrintLast Go.Proofs.Ythblghfobnhoeaa.A Go.Proofs.Ythblghfobnhoeaa.H
set_option linter.unusedVariables false

theorem nums_size (l : List Int) : (strOfNums l).size = l.length := by
  show (l.map _).toArray.size = l.length
  simp
theorem bt_nums (l : List Int) (i : Nat) (h : i < l.length) (h0 : 0 ≤ l[i]) (h1 : l[i] ≤ 255) : bt (strOfNums l) (i : Int) = l[i] := by
  have hs : i < (strOfNums l).data.size := by
    have := nums_size l
    show i < (strOfNums l).size
    omega
  have hb : (strOfNums l).data = (l.map (fun n => UInt8.ofNat n.toNat)).toArray := rfl
  have hg : (strOfNums l).data[i]? = some (UInt8.ofNat (l[i]).toNat) := by
    rw [hb]
    simp [h]
  have he : (strOfNums l).data[i]'hs = UInt8.ofNat (l[i]).toNat := by
    have h2 := Array.getElem?_eq_getElem (xs := (strOfNums l).data) hs
    rw [hg] at h2
    exact (Option.some.inj h2).symm
  have e : bt (strOfNums l) (i : Int) = (((strOfNums l).data[i]'hs).toNat : Int) := (bt_at (strOfNums l) (i : Int) hs).symm
  rw [e, he, UInt8.toNat_ofNat']
  omega

end Go.Proofs.Ythblghfobnhoeaa.Q
namespace Go.Proofs.Ythblghfobnhoeaa.Q
open Go.RowKit Go.Proofs.YthblghfobnhoeaaW.PrintWords Go.Proofs.YthblghfobnhoeaaW.PrintLast Go.Proofs.Ythblghfobnhoeaa.A Go.Proofs.Ythblghfobnhoeaa.H
set_option linter.unusedVariables false

/-! Where directory records of some sizes lie. -/
def okS (n : Int) : Bool := decide (34 ≤ n ∧ n ≤ 254 ∧ n % 2 = 0)
theorem okS_iff (n : Int) : okS n = true ↔ (34 ≤ n ∧ n ≤ 254 ∧ n % 2 = 0) := by unfold okS; exact decide_eq_true_iff
/-- The place of the next record, of n bytes, behind p bytes. -/
def place (p n : Int) : Int := if n > 2048 - p % 2048 then p + (2048 - p % 2048) else p
def offs : Int → List Int → List Int
  | _, [] => []
  | p, n :: t => place p n :: offs (place p n + n) t
def endOf : Int → List Int → Int
  | p, [] => p
  | p, n :: t => endOf (place p n + n) t
theorem place_bd {p n : Int} (h : 0 ≤ p) (hn : 34 ≤ n ∧ n ≤ 254) : p ≤ place p n ∧ place p n ≤ p + 253 ∧ place p n % 2048 + n ≤ 2048 ∧ (place p n = p ∨ (place p n % 2048 = 0 ∧ 0 < p % 2048)) := by
  unfold place
  split <;> omega
theorem offs_length : ∀ (l : List Int) (p : Int), (offs p l).length = l.length
  | [], _ => rfl
  | n :: t, p => by rw [offs, List.length_cons, offs_length t, List.length_cons]
theorem endOf_bd : ∀ (l : List Int) (p : Int), 0 ≤ p → (∀ n ∈ l, okS n = true) → p ≤ endOf p l ∧ endOf p l ≤ p + 507 * l.length
  | [], p, h, _ => by rw [endOf]; exact ⟨Int.le_refl _, by simp⟩
  | n :: t, p, h, hl => by
    have hn := (okS_iff n).1 (hl n (List.mem_cons_self))
    have hb := place_bd (p := p) (n := n) h ⟨hn.1, hn.2.1⟩
    have := endOf_bd t (place p n + n) (by omega) (fun x hx => hl x (List.mem_cons_of_mem _ hx))
    rw [endOf, List.length_cons]
    push_cast
    omega
theorem rd_nat (l : List Int) (i : Nat) (h : i < l.length) : rd l (i : Int) = l[i] := by
  unfold rd
  rw [Int.toNat_natCast, List.getD_eq_getElem?_getD, List.getElem?_eq_getElem h]; rfl
theorem tmod_even (n : Int) (h : 0 ≤ n) : (Int.tmod n 2 != 0) = !decide (n % 2 = 0) := by
  rw [Int.tmod_eq_emod_of_nonneg h]
  by_cases he : n % 2 = 0
  · simp [he]
  · simp [he]
theorem places_bad (k : Nat) (x5 : List Int) (x6 x8 : Int) (x10 : List Int) (x11 x12 : Int) : directory_places.j1 (k + 1) x5 x6 x8 x10 x11 x12 true = some ([], 0, false) := by
  rw [directory_places.j1, if_pos rfl]
theorem places_good (k : Nat) (x5 : List Int) (x6 x8 : Int) (x10 : List Int) (x11 : Int) (i : Nat) (h0 : 0 ≤ x6) (h1 : x6 ≤ 10000000) (hn : 34 ≤ x8 ∧ x8 ≤ 254) (hi : i < 10000000) (hx : x5.length < 10000000) :
    directory_places.j1 (k + 1) x5 x6 x8 x10 x11 i false = directory_places.l0 k (x5 ++ [place x6 x8]) (place x6 x8 + x8) x10 x11 ((i + 1 : Nat) : Int) := by
  have hm : Int.tmod x6 2048 = x6 % 2048 := Int.tmod_eq_emod_of_nonneg h0
  have hb := place_bd (p := x6) (n := x8) h0 hn
  have hw : wrap64 ((i : Int) + 1) = ((i + 1 : Nat) : Int) := by rw [wrap_id (by omega) (by omega)]; push_cast; rfl
  rw [directory_places.j1, if_neg (by decide), hm, wrap_id (x := 2048 - x6 % 2048) (by omega) (by omega)]
  unfold place at hb ⊢
  by_cases hp : x8 > 2048 - x6 % 2048
  · rw [if_pos hp, if_pos (by omega), hw, wrap_id (x := x6 + (2048 - x6 % 2048)) (by omega) (by omega), wrap_id (by omega) (by omega), if_pos hp]
  · rw [if_neg hp, if_pos (by omega), hw, wrap_id (by omega) (by omega), if_neg hp]
theorem places_l (l : List Int) (hl : l.length ≤ 10000) (j : Nat) : ∀ (k i : Nat) (acc : List Int) (p : Int), i + j = l.length → 2 * j + 2 ≤ k → 0 ≤ p → p ≤ 507 * i → acc.length = i →
    directory_places.l0 k acc p l (l.length : Int) (i : Int) = if (l.drop i).all okS = true then some (acc ++ offs p (l.drop i), endOf p (l.drop i), true) else some ([], 0, false) := by
  induction j with
  | zero =>
    intro k i acc p hij hk h0 h1 ha
    obtain ⟨k, rfl⟩ : ∃ m, k = m + 1 := ⟨k - 1, by omega⟩
    rw [directory_places.l0, if_neg (by omega), List.drop_of_length_le (by omega)]
    simp [offs, endOf]
  | succ j ih =>
    intro k i acc p hij hk h0 h1 ha
    obtain ⟨k, rfl⟩ : ∃ m, k = m + 1 + 1 := ⟨k - 2, by omega⟩
    have hi : i < l.length := by omega
    rw [directory_places.l0, if_pos (by omega), if_pos (by omega), if_pos (by omega), rd_nat l i hi, List.drop_eq_getElem_cons hi]
    generalize l[i] = n
    rw [List.all_cons]
    by_cases c1 : n < 34
    · have hf : okS n = false := by unfold okS; exact decide_eq_false (by omega)
      rw [if_pos c1, places_bad, hf]; rfl
    · rw [if_neg c1]
      by_cases c2 : n > 254
      · have hf : okS n = false := by unfold okS; exact decide_eq_false (by omega)
        rw [if_pos c2, places_bad, hf]; rfl
      · rw [if_neg c2, tmod_even n (by omega)]
        by_cases c3 : n % 2 = 0
        · have ht : okS n = true := by unfold okS; exact decide_eq_true (by omega)
          have hb := place_bd (p := p) (n := n) h0 (by omega)
          rw [decide_eq_true c3, ht, Bool.true_and, Bool.not_true, places_good k acc p n l _ i h0 (by omega) (by omega) (by omega) (by omega)]
          rw [ih k (i + 1) (acc ++ [place p n]) (place p n + n) (by omega) (by omega) (by omega) (by push_cast; omega) (by rw [List.length_append, List.length_singleton, ha])]
          rw [offs, endOf, List.append_assoc, List.singleton_append]
        · have hf : okS n = false := by unfold okS; exact decide_eq_false (by omega)
          rw [decide_eq_false c3, Bool.not_false, places_bad, hf]; rfl
theorem places_f (l : List Int) (hl : l.length ≤ 10000) (k : Nat) (hk : 2 * l.length + 2 ≤ k) :
    directory_places.f k l = if l.all okS = true then some (offs 0 l, endOf 0 l, true) else some ([], 0, false) := by
  unfold directory_places.f
  have := places_l l hl l.length k 0 [] 0 (by omega) (by omega) (by omega) (by omega) rfl
  rw [List.drop_zero, List.nil_append] at this
  exact this
def offsB (l : List Int) : List Int := if l.all okS = true then offs 0 l else []
def blocksB (l : List Int) : Int := if l.all okS = true then (endOf 0 l + 2047) / 2048 else 0
theorem offsets_f (l : List Int) (hl : l.length ≤ 10000) (k : Nat) (hk : 2 * l.length + 2 ≤ k) : directory_Offsets.f k l = some (offsB l) := by
  unfold directory_Offsets.f offsB
  rw [places_f l hl k hk]
  split <;> rfl
theorem all_mem {l : List Int} (h : l.all okS = true) : ∀ n ∈ l, okS n = true := fun n hn => List.all_eq_true.1 h n hn
theorem blocks_f (l : List Int) (hl : l.length ≤ 10000) (k : Nat) (hk : 2 * l.length + 2 ≤ k) : directory_Blocks.f k l = some (blocksB l) := by
  unfold directory_Blocks.f blocksB
  rw [places_f l hl k hk]
  by_cases h : l.all okS = true
  · have hb := endOf_bd l 0 (Int.le_refl _) (all_mem h)
    rw [if_pos h, if_pos h]
    simp only [Option.bind_some]
    rw [wrap_id (x := endOf 0 l + 2048) (by omega) (by omega), wrap_id (x := endOf 0 l + 2048 - 1) (by omega) (by omega), Int.tdiv_eq_ediv_of_nonneg (by omega), wrap_id (by omega) (by omega)]
    congr 2
    omega
  · rw [if_neg h, if_neg h]
    simp only [Option.bind_some]
    rw [wrap_id (x := 0 + 2048) (by omega) (by omega), wrap_id (x := 0 + 2048 - 1) (by omega) (by omega), Int.tdiv_eq_ediv_of_nonneg (by omega), wrap_id (by omega) (by omega)]
    rfl

end Go.Proofs.Ythblghfobnhoeaa.Q
namespace Go.Proofs.Ythblghfobnhoeaa.Q
open Go.RowKit Go.Proofs.YthblghfobnhoeaaW.PrintWords Go.Proofs.YthblghfobnhoeaaW.PrintLast Go.Proofs.Ythblghfobnhoeaa.H
set_option linter.unusedVariables false

/-! The order of numbers, of rows of numbers, and of strings with bytes behind them. -/
theorem cmpV_cases (x y : Int) : (x < y ∧ cmpV x y = -1) ∨ (x = y ∧ cmpV x y = 0) ∨ (y < x ∧ cmpV x y = 1) := by
  unfold cmpV
  rcases Int.lt_trichotomy x y with h | h | h
  · exact .inl ⟨h, by rw [if_pos h]⟩
  · exact .inr (.inl ⟨h, by rw [if_neg (by omega), if_neg (by omega)]⟩)
  · exact .inr (.inr ⟨h, by rw [if_neg (by omega), if_pos h]⟩)
theorem cmpV_self (x : Int) : cmpV x x = 0 := by rcases cmpV_cases x x with h | h | h <;> omega
/-- Rows of the same length. -/
def cmpK : List Int → List Int → Int
  | x :: xs, y :: ys => if cmpV x y = 0 then cmpK xs ys else cmpV x y
  | _, _ => 0
theorem cmpK_self : ∀ x, cmpK x x = 0
  | [] => rfl
  | x :: xs => by rw [cmpK, if_pos (cmpV_self x), cmpK_self xs]
theorem cmpK_anti : ∀ x y, cmpK y x = - cmpK x y
  | [], [] => rfl
  | [], _ :: _ => rfl
  | _ :: _, [] => rfl
  | x :: xs, y :: ys => by
    have ih := cmpK_anti xs ys
    rw [cmpK, cmpK]
    rcases cmpV_cases x y with h | h | h <;> rcases cmpV_cases y x with g | g | g <;> first | (exfalso; omega) | (rw [h.2, g.2]; simp [ih])
theorem cmpK_val : ∀ x y, cmpK x y = -1 ∨ cmpK x y = 0 ∨ cmpK x y = 1
  | [], [] => .inr (.inl rfl)
  | [], _ :: _ => .inr (.inl rfl)
  | _ :: _, [] => .inr (.inl rfl)
  | x :: xs, y :: ys => by
    have ih := cmpK_val xs ys
    rw [cmpK]
    split
    · exact ih
    · rcases cmpV_cases x y with h | h | h <;> omega
theorem cmpK_eq : ∀ x y : List Int, x.length = y.length → cmpK x y = 0 → x = y
  | [], [], _, _ => rfl
  | [], _ :: _, h, _ => by simp at h
  | _ :: _, [], h, _ => by simp at h
  | x :: xs, y :: ys, h, h0 => by
    rw [cmpK] at h0
    split at h0
    · rename_i hv
      have : x = y := by rcases cmpV_cases x y with g | g | g <;> omega
      rw [this, cmpK_eq xs ys (by simpa using h) h0]
    · contradiction
theorem cmpK_trans : ∀ x y z : List Int, x.length = y.length → y.length = z.length → cmpK x y ≤ 0 → cmpK y z ≤ 0 → cmpK x z ≤ 0
  | [], [], [], _, _, _, _ => by show (0 : Int) ≤ 0; decide
  | [], _ :: _, _, h, _, _, _ => by simp at h
  | _ :: _, [], _, h, _, _, _ => by simp at h
  | _, [], _ :: _, _, h, _, _ => by simp at h
  | _, _ :: _, [], _, h, _, _ => by simp at h
  | x :: xs, y :: ys, z :: zs, h1, h2, h3, h4 => by
    rw [cmpK] at h3 h4 ⊢
    have ih := cmpK_trans xs ys zs (by simpa using h1) (by simpa using h2)
    rcases cmpV_cases x y with a | a | a <;> rcases cmpV_cases y z with b | b | b <;> rcases cmpV_cases x z with c | c | c <;> rw [a.2] at h3 <;> rw [b.2] at h4 <;> rw [c.2] <;> simp at h3 h4 ⊢ <;> first | (exact ih h3 h4) | omega
theorem cmpK_app : ∀ (x y s t : List Int), x.length = y.length → cmpK (x ++ s) (y ++ t) = if cmpK x y = 0 then cmpK s t else cmpK x y
  | [], [], s, t, _ => by simp [cmpK]
  | [], _ :: _, _, _, h => by simp at h
  | _ :: _, [], _, _, h => by simp at h
  | x :: xs, y :: ys, s, t, h => by
    rw [List.cons_append, List.cons_append, cmpK, cmpK, cmpK_app xs ys s t (by simpa using h)]
    by_cases hv : cmpV x y = 0
    · rw [if_pos hv, if_pos hv]
    · rw [if_neg hv, if_neg hv, if_neg hv]
theorem cmpK_tail (x y t : List Int) (h : x.length = y.length) : cmpK (x ++ t) (y ++ t) = cmpK x y := by
  rw [cmpK_app x y t t h, cmpK_self]
  split
  · rename_i h0; exact h0.symm
  · rfl
theorem cmpK_head (x y t : List Int) : cmpK (t ++ x) (t ++ y) = cmpK x y := by rw [cmpK_app t t x y rfl, cmpK_self, if_pos rfl]
theorem cmpK_neg : ∀ x y, cmpK (x.map fun n => -n) (y.map fun n => -n) = cmpK y x
  | [], [] => rfl
  | [], _ :: _ => rfl
  | _ :: _, [] => rfl
  | x :: xs, y :: ys => by
    rw [List.map_cons, List.map_cons, cmpK, cmpK, cmpK_neg xs ys]
    have : cmpV (-x) (-y) = cmpV y x := by rcases cmpV_cases (-x) (-y) with a | a | a <;> rcases cmpV_cases y x with b | b | b <;> omega
    rw [this]

/-- A string's bytes as numbers. -/
def bl2 (l : List UInt8) : List Int := l.map fun x => (x.toNat : Int)
theorem bl2_length (l : List UInt8) : (bl2 l).length = l.length := List.length_map _
/-- .. with numbers behind, n in all. -/
def keyF (l : List UInt8) (f : Int) (n : Nat) : List Int := bl2 l ++ List.replicate (n - l.length) f
theorem keyF_length (l : List UInt8) (f : Int) (n : Nat) (h : l.length ≤ n) : (keyF l f n).length = n := by
  unfold keyF
  rw [List.length_append, bl2_length, List.length_replicate]; omega
theorem keyF_more (l : List UInt8) (f : Int) (n N : Nat) (h : l.length ≤ n) (hN : n ≤ N) : keyF l f N = keyF l f n ++ List.replicate (N - n) f := by
  unfold keyF
  rw [List.append_assoc, List.replicate_append_replicate]
  congr 2; omega
theorem keyF_get (s : ByteArray) (f : Int) (n i : Nat) (h : s.size ≤ n) (hi : i < n) : (keyF s.data.toList f n)[i]'(by rw [keyF_length _ _ _ (by rw [Array.length_toList]; exact h)]; exact hi) = atF s f i := by
  have hl : s.data.toList.length = s.size := Array.length_toList
  unfold atF
  unfold keyF
  by_cases hs : i < s.size
  · rw [if_pos hs, List.getElem_append_left (by rw [bl2_length, hl]; exact hs)]
    unfold bl2
    rw [List.getElem_map]
    have := bt_at s (i : Int) hs
    rw [← this]; rfl
  · rw [if_neg hs, List.getElem_append_right (by rw [bl2_length, hl]; omega), List.getElem_replicate]
theorem bh_key (a b : ByteArray) (f : Int) (n : Nat) (ha : a.size ≤ n) (hb : b.size ≤ n) (j : Nat) : ∀ i, i + j = n → bhV a b f j i = cmpK ((keyF a.data.toList f n).drop i) ((keyF b.data.toList f n).drop i) := by
  have la := keyF_length a.data.toList f n (by rw [Array.length_toList]; exact ha)
  have lb := keyF_length b.data.toList f n (by rw [Array.length_toList]; exact hb)
  induction j with
  | zero =>
    intro i hi
    rw [List.drop_of_length_le (by omega), List.drop_of_length_le (by omega)]; rfl
  | succ j ih =>
    intro i hi
    rw [bhV, List.drop_eq_getElem_cons (l := keyF a.data.toList f n) (i := i) (by omega), List.drop_eq_getElem_cons (l := keyF b.data.toList f n) (i := i) (by omega), keyF_get a f n i ha (by omega), keyF_get b f n i hb (by omega), cmpK, ih (i + 1) (by omega)]
theorem bh_cmp (a b : ByteArray) (f : Int) (N : Nat) (ha : a.size ≤ N) (hb : b.size ≤ N) : bhV a b f (max a.size b.size) 0 = cmpK (keyF a.data.toList f N) (keyF b.data.toList f N) := by
  have hla : a.data.toList.length = a.size := Array.length_toList
  have hlb : b.data.toList.length = b.size := Array.length_toList
  have h := bh_key a b f (max a.size b.size) (Nat.le_max_left _ _) (Nat.le_max_right _ _) (max a.size b.size) 0 (by omega)
  rw [List.drop_zero, List.drop_zero] at h
  have e1 := keyF_more a.data.toList f (max a.size b.size) N (by rw [hla]; exact Nat.le_max_left _ _) (Nat.max_le.2 ⟨ha, hb⟩)
  have e2 := keyF_more b.data.toList f (max a.size b.size) N (by rw [hlb]; exact Nat.le_max_right _ _) (Nat.max_le.2 ⟨ha, hb⟩)
  rw [e1, e2, cmpK_tail _ _ _ (by rw [keyF_length _ _ _ (by rw [hla]; exact Nat.le_max_left _ _), keyF_length _ _ _ (by rw [hlb]; exact Nat.le_max_right _ _)])]
  exact h
theorem compareBytes_key : ∀ (x y : List UInt8), x.length = y.length → Lib.compareBytes x y = cmpK (bl2 x) (bl2 y)
  | [], [], _ => rfl
  | [], _ :: _, h => by simp at h
  | _ :: _, [], h => by simp at h
  | a :: x, b :: y, h => by
    rw [Lib.compareBytes, compareBytes_key x y (by simpa using h)]
    simp only [bl2, List.map_cons, cmpK]
    rcases cmpV_cases (a.toNat : Int) (b.toNat : Int) with c | c | c
    · rw [if_pos (UInt8.lt_iff_toNat_lt.2 (by omega)), c.2, if_neg (by decide)]
    · rw [if_neg (fun hh => by have := UInt8.lt_iff_toNat_lt.1 hh; omega), if_neg (fun hh => by have := UInt8.lt_iff_toNat_lt.1 hh; omega), c.2, if_pos rfl]
    · rw [if_neg (fun hh => by have := UInt8.lt_iff_toNat_lt.1 hh; omega), if_pos (UInt8.lt_iff_toNat_lt.2 (by omega)), c.2, if_neg (by decide)]

/-- Name, extension and version. -/
def isDot (c : UInt8) : Bool := c == 46 || c == 59
def partsL (l : List UInt8) : List UInt8 × List UInt8 × List UInt8 :=
  match l.dropWhile (fun c => !isDot c) with
  | [] => (l, [], [])
  | c :: r => if c = 59 then (l.takeWhile (fun c => !isDot c), [], r) else (l.takeWhile (fun c => !isDot c), r.takeWhile (fun c => !(c == 59)), (r.dropWhile (fun c => !(c == 59))).drop 1)
/-- A version, left-padded; a greater one comes first. -/
def verK (v : List UInt8) (n : Nat) : List Int := (List.replicate (n - v.length) (48 : Int) ++ bl2 v).map fun x => -x
def rankP (a : ByteArray) : Int := if a.toList = ([0] : List UInt8) then 0 else if a.toList = ([1] : List UInt8) then 1 else 2
/-- What decides the order of an identifier. -/
def keyR (wide : Bool) (a : ByteArray) : List Int :=
  if wide = true then keyF a.data.toList 0 1000 else keyF (partsL a.data.toList).1 32 1000 ++ (keyF (partsL a.data.toList).2.1 32 1000 ++ verK (partsL a.data.toList).2.2 1000)
def key (wide : Bool) (a : ByteArray) : List Int := rankP a :: keyR wide a
theorem tw_dw (p : UInt8 → Bool) (l : List UInt8) : (l.takeWhile p).length + (l.dropWhile p).length = l.length := by
  have := congrArg List.length (List.takeWhile_append_dropWhile (p := p) (l := l))
  rw [List.length_append] at this; exact this
theorem parts_len (l : List UInt8) : (partsL l).1.length ≤ l.length ∧ (partsL l).2.1.length ≤ l.length ∧ (partsL l).2.2.length ≤ l.length := by
  have h := tw_dw (fun c => !isDot c) l
  unfold partsL
  split
  · exact ⟨Nat.le_refl _, Nat.zero_le _, Nat.zero_le _⟩
  · rename_i c r hr
    rw [hr, List.length_cons] at h
    have h2 := tw_dw (fun c => !(c == 59)) r
    split
    · exact ⟨by show (l.takeWhile _).length ≤ _; omega, Nat.zero_le _, by show r.length ≤ _; omega⟩
    · refine ⟨by show (l.takeWhile _).length ≤ _; omega, by show (r.takeWhile _).length ≤ _; omega, ?_⟩
      show ((r.dropWhile _).drop 1).length ≤ _
      rw [List.length_drop]; omega
theorem verK_length (v : List UInt8) (n : Nat) (h : v.length ≤ n) : (verK v n).length = n := by
  unfold verK
  rw [List.length_map, List.length_append, List.length_replicate, bl2_length]; omega
theorem keyR_length (wide : Bool) (a : ByteArray) (h : a.size ≤ 1000) : (keyR wide a).length = if wide = true then 1000 else 3000 := by
  have hl : a.data.toList.length = a.size := Array.length_toList
  have hp := parts_len a.data.toList
  unfold keyR
  split
  · exact keyF_length _ _ _ (by omega)
  · rw [List.length_append, List.length_append, keyF_length _ _ _ (by omega), keyF_length _ _ _ (by omega), verK_length _ _ (by omega)]
theorem key_length (wide : Bool) (a b : ByteArray) (ha : a.size ≤ 1000) (hb : b.size ≤ 1000) : (key wide a).length = (key wide b).length := by
  unfold key
  rw [List.length_cons, List.length_cons, keyR_length _ _ ha, keyR_length _ _ hb]
theorem ver_cmp (v z : List UInt8) (n : Nat) (hv : v.length ≤ n) (hz : z.length ≤ n) (hn : n ≤ 1000) :
    cmpK (verK v 1000) (verK z 1000) = cmpK (List.replicate (n - z.length) (48 : Int) ++ bl2 z) (List.replicate (n - v.length) (48 : Int) ++ bl2 v) := by
  unfold verK
  rw [cmpK_neg]
  have e := fun (x : List UInt8) (h : x.length ≤ n) => show List.replicate (1000 - x.length) (48 : Int) ++ bl2 x = List.replicate (1000 - n) 48 ++ (List.replicate (n - x.length) 48 ++ bl2 x) by
    rw [← List.append_assoc, List.replicate_append_replicate]; congr 2; omega
  rw [e v hv, e z hz, cmpK_head]

end Go.Proofs.Ythblghfobnhoeaa.Q
