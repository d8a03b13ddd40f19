import Derived.Test.YtagnefbgclpccaaH1f
import Derived.Test.YtagnefbgclpccaaAx7
import Derived.Test.YtagnefbgclpccaaAx2
import Derived.StillTailTactics
import Derived.BigQuiet
namespace Go.Proofs.Ytagnefbgclpccaa.H
open Go.RowKit Go.Proofs.YtagnefbgclpccaaW.PrintWords Go.Proofs.YtagnefbgclpccaaW.PrintLast Go.Proofs.Ytagnefbgclpccaa.A
set_option linter.unusedVariables false

set_option maxRecDepth 100000 in
set_option maxHeartbeats 1000000 in
theorem rl4_same (s : ByteArray) (a : Int) (w : World) (hs : s.size ≤ 9223372036854775000) (h0 : 0 ≤ a) (h1 : a + 4 ≤ s.size) :
    Calls Try.prog 34 #[.string s, .int .i64 a, .int .i64 4] w fun e w' => e = .returned (.tuple #[.int .i64 (bt s a + bt s (a + 1) * 256 + bt s (a + 2) * 65536 + bt s (a + 3) * 16777216), .int .i64 0]) ∧ w = w' := by
  go_enter Try.func34, Try.ntmps34
  go_wp2_with (go_at_call 44; refine (up_mk _ _).mono ?_; rintro e w' ⟨rfl, rfl⟩)
  refine (read_up4 _ _ _ hs h0 h1).mono ?_
  rintro e w1 ⟨rfl, rfl⟩
  go_wp2
  go_ret2
  exact ⟨rfl, rfl⟩
set_option maxRecDepth 100000 in
set_option maxHeartbeats 1000000 in
theorem rl2_same (s : ByteArray) (a : Int) (w : World) (hs : s.size ≤ 9223372036854775000) (h0 : 0 ≤ a) (h1 : a + 2 ≤ s.size) :
    Calls Try.prog 34 #[.string s, .int .i64 a, .int .i64 2] w fun e w' => e = .returned (.tuple #[.int .i64 (bt s a + bt s (a + 1) * 256), .int .i64 0]) ∧ w = w' := by
  go_enter Try.func34, Try.ntmps34
  go_wp2_with (go_at_call 44; refine (up_mk _ _).mono ?_; rintro e w' ⟨rfl, rfl⟩)
  refine (read_up2 _ _ _ hs h0 h1).mono ?_
  rintro e w1 ⟨rfl, rfl⟩
  go_wp2
  go_ret2
  exact ⟨rfl, rfl⟩

/-- The numbers of a record. -/
def num4 (s : ByteArray) (a : Int) : Int := bt s a + bt s (a + 1) * 256 + bt s (a + 2) * 65536 + bt s (a + 3) * 16777216
def num2 (s : ByteArray) (a : Int) : Int := bt s a + bt s (a + 1) * 256
theorem number4 (s : ByteArray) (a : Int) (c : Addr) (w : World) (hc : w.cell? c = some (.string s)) (hs : s.size ≤ 9223372036854775000) (h0 : 0 ≤ a) (h1 : a + 4 ≤ s.size) :
    Calls Try.prog 33 #[.int .i64 a, .int .i64 4, .pointer (some c)] w fun e w' => e = .returned (.int .i64 (num4 s a)) ∧ w' = w := by
  go_enter Try.func33, Try.ntmps33
  go_wp2_with (go_at_call 34; refine (rl4_same _ _ _ hs h0 h1).mono ?_; rintro e w' ⟨rfl, rfl⟩)
  go_ret
  exact ⟨rfl, rfl⟩
theorem number2 (s : ByteArray) (a : Int) (c : Addr) (w : World) (hc : w.cell? c = some (.string s)) (hs : s.size ≤ 9223372036854775000) (h0 : 0 ≤ a) (h1 : a + 2 ≤ s.size) :
    Calls Try.prog 33 #[.int .i64 a, .int .i64 2, .pointer (some c)] w fun e w' => e = .returned (.int .i64 (num2 s a)) ∧ w' = w := by
  go_enter Try.func33, Try.ntmps33
  go_wp2_with (go_at_call 34; refine (rl2_same _ _ _ hs h0 h1).mono ?_; rintro e w' ⟨rfl, rfl⟩)
  go_ret
  exact ⟨rfl, rfl⟩

def numK (s : ByteArray) (a k : Int) : Int := if k = 4 then num4 s a else num2 s a
theorem number_any (s : ByteArray) (a k : Int) (c : Addr) (w : World) (hc : w.cell? c = some (.string s)) (hs : s.size ≤ 9223372036854775000) (h0 : 0 ≤ a) (h1 : a + k ≤ s.size) (hk : k = 4 ∨ k = 2) :
    Calls Try.prog 33 #[.int .i64 a, .int .i64 k, .pointer (some c)] w fun e w' => e = .returned (.int .i64 (numK s a k)) ∧ w' = w := by
  unfold numK
  rcases hk with rfl | rfl
  · rw [if_pos rfl]
    exact number4 s a c w hc hs h0 h1
  · rw [if_neg (by omega)]
    exact number2 s a c w hc hs h0 h1

/-- dirrecord.padded, at a small number. -/
def padE (n : Int) : Int := (34 + n) / 2 * 2
theorem padded_any (n : Int) (w : World) (h0 : 0 ≤ n) (h1 : n ≤ 255) : Calls Try.prog 31 #[.int .i64 n] w fun e w' => e = .returned (.int .i64 (padE n)) ∧ w' = w := by
  go_enter Try.func31, Try.ntmps31
  go_wp2
  go_ret
  refine ⟨congrArg (fun z => Ending.returned (.int .i64 z)) ?_, rfl⟩
  show _ = padE n
  unfold padE
  omega

theorem blk_put8 {w : World} {g : Nat} {t : TypeId} {c0 c1 c2 c3 c4 c5 c6 c7 : Value} (h : w.heap[g]? = some (.cells #[c0, c1, c2, c3, c4, c5, c6, c7] t (0, 0))) (v0 v1 v2 v3 v4 v5 v6 v7 : Value) :
    ((((((((w.setCell ⟨g, 0, none⟩ v0).setCell ⟨g, 1, none⟩ v1).setCell ⟨g, 2, none⟩ v2).setCell ⟨g, 3, none⟩ v3).setCell ⟨g, 4, none⟩ v4).setCell ⟨g, 5, none⟩ v5).setCell ⟨g, 6, none⟩ v6).setCell ⟨g, 7, none⟩ v7).heap[g]? = some (.cells #[v0, v1, v2, v3, v4, v5, v6, v7] t (0, 0)) := by
  have h1 : (w.setCell ⟨g, 0, none⟩ v0).heap[g]? = some (.cells #[v0, c1, c2, c3, c4, c5, c6, c7] t (0, 0)) := blk_put h 0 v0 rfl
  have h2 : ((w.setCell ⟨g, 0, none⟩ v0).setCell ⟨g, 1, none⟩ v1).heap[g]? = some (.cells #[v0, v1, c2, c3, c4, c5, c6, c7] t (0, 0)) := blk_put h1 1 v1 rfl
  have h3 : (((w.setCell ⟨g, 0, none⟩ v0).setCell ⟨g, 1, none⟩ v1).setCell ⟨g, 2, none⟩ v2).heap[g]? = some (.cells #[v0, v1, v2, c3, c4, c5, c6, c7] t (0, 0)) := blk_put h2 2 v2 rfl
  have h4 : ((((w.setCell ⟨g, 0, none⟩ v0).setCell ⟨g, 1, none⟩ v1).setCell ⟨g, 2, none⟩ v2).setCell ⟨g, 3, none⟩ v3).heap[g]? = some (.cells #[v0, v1, v2, v3, c4, c5, c6, c7] t (0, 0)) := blk_put h3 3 v3 rfl
  have h5 : (((((w.setCell ⟨g, 0, none⟩ v0).setCell ⟨g, 1, none⟩ v1).setCell ⟨g, 2, none⟩ v2).setCell ⟨g, 3, none⟩ v3).setCell ⟨g, 4, none⟩ v4).heap[g]? = some (.cells #[v0, v1, v2, v3, v4, c5, c6, c7] t (0, 0)) := blk_put h4 4 v4 rfl
  have h6 : ((((((w.setCell ⟨g, 0, none⟩ v0).setCell ⟨g, 1, none⟩ v1).setCell ⟨g, 2, none⟩ v2).setCell ⟨g, 3, none⟩ v3).setCell ⟨g, 4, none⟩ v4).setCell ⟨g, 5, none⟩ v5).heap[g]? = some (.cells #[v0, v1, v2, v3, v4, v5, c6, c7] t (0, 0)) := blk_put h5 5 v5 rfl
  have h7 : (((((((w.setCell ⟨g, 0, none⟩ v0).setCell ⟨g, 1, none⟩ v1).setCell ⟨g, 2, none⟩ v2).setCell ⟨g, 3, none⟩ v3).setCell ⟨g, 4, none⟩ v4).setCell ⟨g, 5, none⟩ v5).setCell ⟨g, 6, none⟩ v6).heap[g]? = some (.cells #[v0, v1, v2, v3, v4, v5, v6, c7] t (0, 0)) := blk_put h6 6 v6 rfl
  have h8 : ((((((((w.setCell ⟨g, 0, none⟩ v0).setCell ⟨g, 1, none⟩ v1).setCell ⟨g, 2, none⟩ v2).setCell ⟨g, 3, none⟩ v3).setCell ⟨g, 4, none⟩ v4).setCell ⟨g, 5, none⟩ v5).setCell ⟨g, 6, none⟩ v6).setCell ⟨g, 7, none⟩ v7).heap[g]? = some (.cells #[v0, v1, v2, v3, v4, v5, v6, v7] t (0, 0)) := blk_put h7 7 v7 rfl
  exact h8
theorem below_put8 {B : Nat} {w0 w : World} {g : Nat} (h : Below B w0 w) (hg : B ≤ g) (v0 v1 v2 v3 v4 v5 v6 v7 : Value) :
    Below B w0 ((((((((w.setCell ⟨g, 0, none⟩ v0).setCell ⟨g, 1, none⟩ v1).setCell ⟨g, 2, none⟩ v2).setCell ⟨g, 3, none⟩ v3).setCell ⟨g, 4, none⟩ v4).setCell ⟨g, 5, none⟩ v5).setCell ⟨g, 6, none⟩ v6).setCell ⟨g, 7, none⟩ v7) := by
  refine Below.setCell (p := ⟨g, 7, none⟩) ?_ hg _
  refine Below.setCell (p := ⟨g, 6, none⟩) ?_ hg _
  refine Below.setCell (p := ⟨g, 5, none⟩) ?_ hg _
  refine Below.setCell (p := ⟨g, 4, none⟩) ?_ hg _
  refine Below.setCell (p := ⟨g, 3, none⟩) ?_ hg _
  refine Below.setCell (p := ⟨g, 2, none⟩) ?_ hg _
  refine Below.setCell (p := ⟨g, 1, none⟩) ?_ hg _
  refine Below.setCell (p := ⟨g, 0, none⟩) ?_ hg _
  exact h

/-- What dirrecord.Decode tells of a record. -/
abbrev decAgg (s : ByteArray) (t z : Int) : Array Value :=
  #[.string (s.extract 33 (33 + bt s 32).toNat), .int .i64 (numK s 2 4), .int .i64 (numK s 10 4), .int .i64 t, .int .i64 z, .int .i64 (bt s 25), .int .i64 (numK s 28 2), .string (s.extract (padE (bt s 32)).toNat (bt s 0).toNat)]

end Go.Proofs.Ytagnefbgclpccaa.H
