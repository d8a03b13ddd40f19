-- Turned by a program of this session's, gen21.py, out of hprint.py's print. Not trusted: Lean checks it.
import Derived.Test.YthblghfobnhoeaaGreatKe7e6dfb4
import Derived.Test.YthblghfobnhoeaaGreatKebf21747
import Derived.Test.YthblghfobnhoeaaGreatK34bd3b12
import Derived.Test.YthblghfobnhoeaaGreatK4ce3f8eb
import Derived.Test.YthblghfobnhoeaaGreatK47d75a5b
namespace Go.Proofs.YthblghfobnhoeaaGreat.H
open Go.RowKit Go.Proofs.YthblghfobnhoeaaGreat.A Go.Proofs.YthblghfobnhoeaaGreatW.PrintWords Go.Proofs.YthblghfobnhoeaaGreatW.PrintLast Go.Proofs.YthblghfobnhoeaaGreatW.PrintMore
attribute [local go_sem] max2_int min2_int max_two min_two max_three min_three max_four min_four   -- for this text's walks alone
set_option linter.unusedVariables false
set_option linter.unusedSimpArgs false

def awakeP.l0 : Nat → List ByteArray → Int → Int → Option (Bool)
 | 0, _, _, _ => none
 | k + 1, x1, x17, x18 => if x18 < x17 then (if 0 ≤ x18 then (if x18 < (x1.length : Int) then (if 0 ≤ (wrap64 (x18 + 1)) then (if (wrap64 (x18 + 1)) < (x1.length : Int) then ((directory_Compare.f k (rdOf ByteArray.empty x1 x18) (rdOf ByteArray.empty x1 (wrap64 (x18 + 1))) false).bind fun t196 => (if t196 ≥ 0 then (some false) else ((directory_Compare.f k (rdOf ByteArray.empty x1 (wrap64 (x18 + 1))) (rdOf ByteArray.empty x1 x18) false).bind fun t199 => (if t199 ≤ 0 then (some false) else (awakeP.l0 k x1 x17 (wrap64 (x18 + 1))))))) else (none)) else (none)) else (none)) else (none)) else ((slices_Repeat_int_int.f (([34] : List Int)) 60).bind fun t203 => (if t203.length < 17592186044416 then ((some (t203 ++ [36] : List Int)).bind fun y206 => ((directory_Offsets.f k y206).bind fun t209 => ((directory_Encode.f k (([(⟨(⟨#[0]⟩ : ByteArray), 0, 0, 315532800, 0, 0, 0, (⟨#[]⟩ : ByteArray)⟩ : S45), (⟨(⟨#[65]⟩ : ByteArray), 0, 0, 315532800, 0, 0, 0, (⟨#[]⟩ : ByteArray)⟩ : S45)] : List (S45)))).bind fun bt217 => ((directory_Decode.f k bt217.1).bind fun bt219 => ((directory_Find.f bt219.1 (⟨#[65]⟩ : ByteArray)).bind fun bt226 => ((directory_Blocks.f k y206).bind fun t228 => (if t228 = 2 then (if (t209.length : Int) = 61 then (if 60 < (t209.length : Int) then (if (rd t209 60) = 2048 then (if bt217.2 = 0 then (if (bt217.1.size : Int) = 2048 then (if bt219.2.2 = 0 then ((masterdiscref21_Same.f k bt219.1 (([(⟨(⟨#[0]⟩ : ByteArray), 0, 0, 315532800, 0, 0, 0, (⟨#[]⟩ : ByteArray)⟩ : S45), (⟨(⟨#[65]⟩ : ByteArray), 0, 0, 315532800, 0, 0, 0, (⟨#[]⟩ : ByteArray)⟩ : S45)] : List (S45)))).bind fun t233 => (if t233 = true then ((slices_Equal_int_int.f k bt219.2.1 (([0, 34] : List Int))).bind fun t237 => (if t237 = true then (if bt226.2 = true then (if bt226.1 = 1 then ((directory_Sort.f k (([(⟨(⟨#[65]⟩ : ByteArray), 0, 0, 315532800, 0, 0, 0, (⟨#[]⟩ : ByteArray)⟩ : S45), (⟨(⟨#[0]⟩ : ByteArray), 0, 0, 315532800, 0, 0, 0, (⟨#[]⟩ : ByteArray)⟩ : S45)] : List (S45))) true).bind fun t241 => ((masterdiscref21_Same.f k t241 (([(⟨(⟨#[0]⟩ : ByteArray), 0, 0, 315532800, 0, 0, 0, (⟨#[]⟩ : ByteArray)⟩ : S45), (⟨(⟨#[65]⟩ : ByteArray), 0, 0, 315532800, 0, 0, 0, (⟨#[]⟩ : ByteArray)⟩ : S45)] : List (S45)))).bind fun t247 => (some t247))) else (some false)) else (some false)) else (some false))) else (some false))) else (some false)) else (some false)) else (some false)) else (some false)) else (none)) else (some false)) else (some false)))))))) else (none)))
def awakeP.f (k : Nat)  : Option (Bool) := (some (([(⟨#[0]⟩ : ByteArray), (⟨#[1]⟩ : ByteArray), (⟨#[65, 46, 59, 49]⟩ : ByteArray), (⟨#[65]⟩ : ByteArray), (⟨#[65, 46, 66, 59, 50]⟩ : ByteArray), (⟨#[65, 46, 66, 59, 49]⟩ : ByteArray), (⟨#[65, 65, 46, 59, 49]⟩ : ByteArray), (⟨#[66]⟩ : ByteArray)] : List ByteArray) : List ByteArray)).bind fun y191 => (awakeP.l0 k y191 (wrap64 ((y191.length : Int) - 1)) 0)
def awakeP.T5 : Bool × List (List Nat × List Nat) := (true, [([], []), ([], []), ([0, 1], [0, 1]), ([2], [2]), ([], []), ([], []), ([5], [5]), ([4, 6], [4, 6]), ([7], [7]), ([3, 8], [3, 8]), ([9], [9]), ([10, 9], [10]), ([11], [11]), ([11], [11]), ([13, 11], [11, 13]), ([12, 14, 11], [11, 12, 14]), ([15, 11], [11, 15]), ([11], [11]), ([11], [11]), ([17, 18, 11], [11, 17, 18]), ([19, 11], [11, 19]), ([16, 20, 11, 11], [11, 16, 20]), ([21, 11], [11, 21]), ([11, 22], [11, 22])])
def awakeP.B5 : List Nat := [0, 0, 3, 7, 0, 0, 32, 112, 240, 511, 1023, 2047, 4095, 4095, 12287, 32767, 65535, 4095, 4095, 397311, 921599, 2097151, 4194303, 8388607]
theorem awakeP.tab5 : rtab .any (opsOf Tryz.f9 5) = awakeP.T5 := by kernel_rfl
theorem awakeP.bits5 : waitsOk awakeP.T5.2 awakeP.B5 = true := by kernel_rfl
def awakeP.T15 : Bool × List (List Nat × List Nat) := (true, [([], []), ([0], [0]), ([1], [1]), ([2, 1], [2]), ([3], [3]), ([4, 3], [3, 4]), ([5, 3], [3, 5]), ([3, 6], [3, 6]), ([7, 3], [7]), ([8], [8]), ([9, 8], [8, 9]), ([10, 8], [8, 10]), ([11, 8], [8, 11]), ([8, 12], [8, 12]), ([13, 8], [13]), ([14], [14]), ([15, 14], [14, 15]), ([14, 16], [14, 16]), ([17, 14], [17]), ([18], [18]), ([19, 18], [18, 19]), ([20, 18], [18, 20]), ([18, 21], [18, 21]), ([22, 18], [22]), ([23], [23]), ([24, 23], [23, 24]), ([23, 25], [23, 25]), ([26, 23], [26]), ([27], [27]), ([27], [27]), ([27], [27]), ([29, 30, 27], [27, 29, 30]), ([28, 31, 27, 27], [27, 28, 31]), ([27, 32], [27, 32]), ([33, 32], [33]), ([34], [34]), ([34], [34]), ([35, 36, 34, 34], [34, 35, 36]), ([34, 37], [34, 37]), ([38, 37], [38]), ([39], [39]), ([39, 40], [39, 40]), ([41, 39], [41]), ([42], [42]), ([43, 42], [42, 43]), ([42, 44], [42, 44]), ([45, 42], [45]), ([46], [46]), ([46], [46]), ([47, 48, 46], [46, 47, 48]), ([49, 46, 46], [46, 49]), ([46], [46]), ([46], [46]), ([51, 52, 46], [46, 51, 52]), ([50, 53, 50, 46], [46, 50, 53]), ([46, 54], [46, 54]), ([55, 54, 0, 1, 2, 3, 4, 5, 6, 7, 8, 9, 10, 11, 12, 13, 14, 15, 16, 17, 18, 19, 20, 21, 22, 23, 24, 25, 26, 27, 28, 29, 30, 31, 32, 33, 34, 35, 36, 37, 38, 39, 40, 41, 42, 43, 44, 45, 46, 47, 48, 49, 50, 51, 52, 53, 54, 55], [55])])
def awakeP.B15 : List Nat := [0, 1, 3, 7, 15, 31, 63, 127, 255, 511, 1023, 2047, 4095, 8191, 16383, 32767, 65535, 131071, 262143, 524287, 1048575, 2097151, 4194303, 8388607, 16777215, 33554431, 67108863, 134217727, 268435455, 268435455, 268435455, 1879048191, 4294967295, 8589934591, 17179869183, 34359738367, 34359738367, 137438953471, 274877906943, 549755813887, 1099511627775, 2199023255551, 4398046511103, 8796093022207, 17592186044415, 35184372088831, 70368744177663, 140737488355327, 140737488355327, 562949953421311, 1125899906842623, 140737488355327, 140737488355327, 6896136929411071, 18014398509481983, 36028797018963967, 72057594037927935]
theorem awakeP.tab15 : rtab .any (opsOf Tryz.f9 15) = awakeP.T15 := by kernel_rfl
theorem awakeP.bits15 : waitsOk awakeP.T15.2 awakeP.B15 = true := by kernel_rfl
set_option maxHeartbeats 8000000 in
set_option maxRecDepth 100000 in
theorem awakeP.calls (k : Nat)  (w : World) (h : awakeP.f k  = some true) :
  Calls Tryz.prog 9 #[] w fun e w' => e = .returned (.bool true) ∧ Below w.heap.size w w' := by
 have hu45 := Tryz.underlying45
 have HB := Aside0.mk (Below.refl w.heap.size w)
 have H : ((some (([(⟨#[0]⟩ : ByteArray), (⟨#[1]⟩ : ByteArray), (⟨#[65, 46, 59, 49]⟩ : ByteArray), (⟨#[65]⟩ : ByteArray), (⟨#[65, 46, 66, 59, 50]⟩ : ByteArray), (⟨#[65, 46, 66, 59, 49]⟩ : ByteArray), (⟨#[65, 65, 46, 59, 49]⟩ : ByteArray), (⟨#[66]⟩ : ByteArray)] : List ByteArray) : List ByteArray)).bind fun y191 => (awakeP.l0 k y191 (wrap64 ((y191.length : Int) - 1)) 0)) = some true := h
 clear h
 obtain ⟨y191, hy191⟩ : ∃ y_ : List ByteArray, y_ = (([(⟨#[0]⟩ : ByteArray), (⟨#[1]⟩ : ByteArray), (⟨#[65, 46, 59, 49]⟩ : ByteArray), (⟨#[65]⟩ : ByteArray), (⟨#[65, 46, 66, 59, 50]⟩ : ByteArray), (⟨#[65, 46, 66, 59, 49]⟩ : ByteArray), (⟨#[65, 65, 46, 59, 49]⟩ : ByteArray), (⟨#[66]⟩ : ByteArray)] : List ByteArray)) := ⟨_, rfl⟩
 replace H : (awakeP.l0 k y191 (wrap64 ((y191.length : Int) - 1)) 0) = some true := by first | (rw [hy191]; with_reducible exact H) | (have H2_ := (Option.bind_some _ _).symm.trans H; rw [hy191]; with_reducible exact H2_) | (have H2_ := (Option.bind_some _ _).symm.trans H; with_reducible exact H2_) | with_reducible exact H | (rw [hy191]; exact H) | exact H
 have Ny191 := Aside0.mk hy191
 clear hy191
 have H' := Aside0.mk H
 clear H
 go_enter Tryz.func9, Tryz.ntmps9
 go_wp2_with (first | ((with_reducible refine gate_dst (N := 14) rfl ?_); (try (refine gate_guard (by rfl) ?_; dsimp only)); refine Kd.R_lit Kd.string _ 9 ?hg (N := 14) ?hd (xs := ([(⟨#[0]⟩ : ByteArray), (⟨#[1]⟩ : ByteArray), (⟨#[65, 46, 59, 49]⟩ : ByteArray), (⟨#[65]⟩ : ByteArray), (⟨#[65, 46, 66, 59, 50]⟩ : ByteArray), (⟨#[65, 46, 66, 59, 49]⟩ : ByteArray), (⟨#[65, 65, 46, 59, 49]⟩ : ByteArray), (⟨#[66]⟩ : ByteArray)] : List ByteArray)) (inner := [.string (⟨#[0]⟩ : ByteArray), .string (⟨#[1]⟩ : ByteArray), .string (⟨#[65, 46, 59, 49]⟩ : ByteArray), .string (⟨#[65]⟩ : ByteArray), .string (⟨#[65, 46, 66, 59, 50]⟩ : ByteArray), .string (⟨#[65, 46, 66, 59, 49]⟩ : ByteArray), .string (⟨#[65, 65, 46, 59, 49]⟩ : ByteArray), .string (⟨#[66]⟩ : ByteArray)]) (ok := fun _ => True) (okp := fun _ => True) ?hr ?hp (fun _ hk => hk) trivial (Below.refl _ _) (Nat.le_refl _) (by simp) ?_; (case hd => rfl); (case hg => rfl); (case hr => first | (go_simp; done) | (go_simp; rfl)); (case hp => exact (Reps.one (show Kd.M Kd.string _ _ _ (⟨#[0]⟩ : ByteArray) [.string (⟨#[0]⟩ : ByteArray)] from rfl) (Reps.one (show Kd.M Kd.string _ _ _ (⟨#[1]⟩ : ByteArray) [.string (⟨#[1]⟩ : ByteArray)] from rfl) (Reps.one (show Kd.M Kd.string _ _ _ (⟨#[65, 46, 59, 49]⟩ : ByteArray) [.string (⟨#[65, 46, 59, 49]⟩ : ByteArray)] from rfl) (Reps.one (show Kd.M Kd.string _ _ _ (⟨#[65]⟩ : ByteArray) [.string (⟨#[65]⟩ : ByteArray)] from rfl) (Reps.one (show Kd.M Kd.string _ _ _ (⟨#[65, 46, 66, 59, 50]⟩ : ByteArray) [.string (⟨#[65, 46, 66, 59, 50]⟩ : ByteArray)] from rfl) (Reps.one (show Kd.M Kd.string _ _ _ (⟨#[65, 46, 66, 59, 49]⟩ : ByteArray) [.string (⟨#[65, 46, 66, 59, 49]⟩ : ByteArray)] from rfl) (Reps.one (show Kd.M Kd.string _ _ _ (⟨#[65, 65, 46, 59, 49]⟩ : ByteArray) [.string (⟨#[65, 65, 46, 59, 49]⟩ : ByteArray)] from rfl) (Reps.one (show Kd.M Kd.string _ _ _ (⟨#[66]⟩ : ByteArray) [.string (⟨#[66]⟩ : ByteArray)] from rfl) (Reps.none _ _)))))))))); intro v192 w1 ho2 hb hg_ hnew_; clear hg_ hnew_; (first | rw [← Ny191.out] at ho2 | (simp only [Int.reduceToNat] at ho2; rw [← Ny191.out] at ho2)); have n0_ := Aside0.mk (Kd.R_lower ho2 (below_size (uB HB.out))); have n1_ := Aside0.mk (below_step (uB HB.out) hb); clear HB; have HO193 := n0_; have HB := n1_; clear n0_ n1_; clear hb ho2; obtain ⟨Ao3, co3, eo3⟩ := Kd.R_slice HO193.out; subst eo3))
 go_loopg [18] k (fun kq v18 w' => ∃ (x18_1 : Int), v18 = .int .i64 x18_1 ∧ Aside0 (awakeP.l0 kq y191 (wrap64 ((y191.length : Int) - 1)) x18_1 = some true) ∧ Aside0 (kq ≤ k) ∧ Aside0 (Kd.R Kd.string 9 w' w.heap.size (fun _ => True) (.slice Ao3 y191.length co3) y191) ∧ Aside0 (Below w.heap.size w w'))
 case atStart => exact ⟨(0), (by first | rfl | (simp; done) | (simp [*]; done)), H', ⟨Nat.le_refl _⟩, ⟨uR HO193.out⟩, ⟨uB HB.out⟩⟩
 case round =>
  clear H'
  try clear p2
  obtain ⟨x18_1, rfl, HA, HK1, HO_1, HB⟩ := hrel
  cases gk with
  | zero => exact absurd HA.out (by simp [awakeP.l0])
  | succ k1 =>
   have H := HA.out
   clear HA
   simp only [awakeP.l0] at H
   by_cases c4 : x18_1 < (wrap64 ((y191.length : Int) - 1))
   ·rw [if_pos c4] at H
    have c4b0 : decide (x18_1 < (wrap64 ((y191.length : Int) - 1))) = true := decide_eq_true c4
    clear c4
    by_cases c5 : 0 ≤ x18_1
    rotate_left
    ·rw [if_neg c5] at H
     exact absurd H (by simp)
    rw [if_pos c5] at H
    have c5b0 : decide (0 ≤ x18_1) = true := decide_eq_true c5
    clear c5
    by_cases c6 : x18_1 < (y191.length : Int)
    rotate_left
    ·rw [if_neg c6] at H
     exact absurd H (by simp)
    rw [if_pos c6] at H
    have c6b0 : decide (x18_1 < (y191.length : Int)) = true := decide_eq_true c6
    clear c6
    obtain ⟨ji7, hji7⟩ : ∃ j_ : Int, (wrap64 (x18_1 + 1)) = j_ := ⟨_, rfl⟩
    replace H : (if 0 ≤ (ji7) then (if (ji7) < (y191.length : Int) then ((directory_Compare.f k1 (rdOf ByteArray.empty y191 x18_1) (rdOf ByteArray.empty y191 (ji7)) false).bind fun t196 => (if t196 ≥ 0 then (some false) else ((directory_Compare.f k1 (rdOf ByteArray.empty y191 (ji7)) (rdOf ByteArray.empty y191 x18_1) false).bind fun t199 => (if t199 ≤ 0 then (some false) else (awakeP.l0 k1 y191 (wrap64 ((y191.length : Int) - 1)) ji7))))) else (none)) else (none)) = some true := by first | (rw [hji7] at H; exact H) | (simp only [hji7] at H ⊢; exact H)
    have hji7w : (IntKind.i64.wrap (x18_1 + 1)) = ji7 := (i64_w _).trans hji7
    by_cases c8 : 0 ≤ (ji7)
    rotate_left
    ·rw [if_neg c8] at H
     exact absurd H (by simp)
    rw [if_pos c8] at H
    have c8b0 : decide (0 ≤ (ji7)) = true := decide_eq_true c8
    clear c8
    by_cases c9 : (ji7) < (y191.length : Int)
    rotate_left
    ·rw [if_neg c9] at H
     exact absurd H (by simp)
    rw [if_pos c9] at H
    have c9b0 : decide ((ji7) < (y191.length : Int)) = true := decide_eq_true c9
    clear c9
    replace H := Option.bind_eq_some_iff.mp H
    obtain ⟨t196, A100, H⟩ := H
    replace H : (if t196 ≥ 0 then (some false) else ((directory_Compare.f k1 (rdOf ByteArray.empty y191 (ji7)) (rdOf ByteArray.empty y191 x18_1) false).bind fun t199 => (if t199 ≤ 0 then (some false) else (awakeP.l0 k1 y191 (wrap64 ((y191.length : Int) - 1)) ji7)))) = some true := H
    have A10 := Aside0.mk A100
    clear A100
    by_cases c11 : t196 ≥ 0
    ·rw [if_pos c11] at H
     cases H
    ·rw [if_neg c11] at H
     have c11b0 : decide (0 ≤ t196) = false := decide_eq_false c11
     clear c11
     replace H := Option.bind_eq_some_iff.mp H
     obtain ⟨t199, A140, H⟩ := H
     replace H : (if t199 ≤ 0 then (some false) else (awakeP.l0 k1 y191 (wrap64 ((y191.length : Int) - 1)) ji7)) = some true := H
     have A14 := Aside0.mk A140
     clear A140
     by_cases c15 : t199 ≤ 0
     ·rw [if_pos c15] at H
      cases H
     ·rw [if_neg c15] at H
      have c15b0 : decide (t199 ≤ 0) = false := decide_eq_false c15
      clear c15
      have H' := Aside0.mk H
      clear H
      try go_wp2
      replace HO_1 := Aside0.mk (Kd.R_drew HO_1.out)
      replace HB := Aside0.mk (below_drew1 HB.out)
      have p194 : 0 ≤ (x18_1 : Int) := of_decide_eq_true (by first | (with_reducible assumption) | assumption)
      have q194 : x18_1 < (y191.length : Int) := of_decide_eq_true (by first | (with_reducible assumption) | assumption)
      obtain ⟨ad194, e194, hx194_0⟩ := Kd.at_string (Kd.R_reads' HO_1.out).2.2 x18_1 p194 q194
      cases e194
      replace p194 := eq_true p194
      replace q194 := eq_true q194
      have p195 : 0 ≤ ((ji7) : Int) := of_decide_eq_true (by first | (with_reducible assumption) | assumption)
      have q195 : (ji7) < (y191.length : Int) := of_decide_eq_true (by first | (with_reducible assumption) | assumption)
      obtain ⟨ad195, e195, hx195_0⟩ := Kd.at_string (Kd.R_reads' HO_1.out).2.2 (ji7) p195 q195
      obtain rfl : ad194 = ad195 := (by injection e195)
      replace p195 := eq_true p195
      replace q195 := eq_true q195
      have p197 : 0 ≤ ((ji7) : Int) := of_decide_eq_true (by first | (with_reducible assumption) | assumption)
      have q197 : (ji7) < (y191.length : Int) := of_decide_eq_true (by first | (with_reducible assumption) | assumption)
      obtain ⟨ad197, e197, hx197_0⟩ := Kd.at_string (Kd.R_reads' HO_1.out).2.2 (ji7) p197 q197
      obtain rfl : ad194 = ad197 := (by injection e197)
      replace p197 := eq_true p197
      replace q197 := eq_true q197
      have p198 : 0 ≤ (x18_1 : Int) := of_decide_eq_true (by first | (with_reducible assumption) | assumption)
      have q198 : x18_1 < (y191.length : Int) := of_decide_eq_true (by first | (with_reducible assumption) | assumption)
      obtain ⟨ad198, e198, hx198_0⟩ := Kd.at_string (Kd.R_reads' HO_1.out).2.2 x18_1 p198 q198
      obtain rfl : ad194 = ad198 := (by injection e198)
      replace p198 := eq_true p198
      replace q198 := eq_true q198
      refine start_ (n := 24) (S := fun w' => w'.cell? (ad194.add (x18_1).toNat) = some (.string (rdOf ByteArray.empty y191 x18_1)) ∧ w'.cell? (ad194.add ((ji7)).toNat) = some (.string (rdOf ByteArray.empty y191 (ji7))) ∧ w'.cell? (ad194.add ((ji7)).toNat) = some (.string (rdOf ByteArray.empty y191 (ji7))) ∧ w'.cell? (ad194.add (x18_1).toNat) = some (.string (rdOf ByteArray.empty y191 x18_1))) (ds := []) #[false, false, false, false, false, false, false, false, false, false, false, false, false, false, false, false, false, false, false, false, false, false, false, false] (by kernel_rfl) rfl rfl ⟨hx194_0, hx195_0, hx197_0, hx198_0⟩ (fun hHeld => ?_); refine with_tabW awakeP.tab5 awakeP.bits5 (fun HT_ HW_ => ?_)
      generalize wr.drew = w19 at HO_1 HB hx194_0 hx195_0 hx197_0 hx198_0 hHeld ⊢
      refine pA (i := 0) (N := some 21) (tb 24 1) (any_of HT_.out (by kernel_rfl)) ?_
      refine pA (i := 1) (N := some 22) (tb 24 3) (any_of HT_.out (by kernel_rfl)) ?_
      refine pA (i := 2) (N := some 23) (tb 24 7) (any_of HT_.out (by kernel_rfl)) ?_
      refine pA (i := 4) (N := some 25) (tb 24 23) (any_of HT_.out (by kernel_rfl)) ?_
      refine pA (i := 5) (N := some 26) (tb 24 55) (any_of HT_.out (by kernel_rfl)) ?_
      refine pA (i := 6) (N := some 27) (tb 24 119) (any_of HT_.out (by kernel_rfl)) ?_
      refine pA (i := 7) (N := some 28) (tb 24 247) (any_of HT_.out (by kernel_rfl)) ?_
      refine take_ (i := 3) (N := some 24) (v := ?_) (a' := ?_) (tb 24 255) rfl rfl (take_ofW HT_.out HW_.out (by kernel_rfl)) (fun _ _ _ h => h) (Or.inl ⟨by rfl, ?_⟩) hHeld ?_ ?_
      rotate_left
      ·rintro w' ⟨s0, s1, s2, s3⟩
       go_simp
       with_reducible rfl
      rotate_left
      ·simp only [Act.put, List.setIfInBounds_toArray, List.set_cons_zero, List.set_cons_succ, i64_w, i32_w]
       rfl
      refine take_ (i := 8) (N := some 29) (v := ?_) (a' := ?_) (tb 24 511) rfl rfl (take_ofW HT_.out HW_.out (by kernel_rfl)) (fun _ _ _ h => h) (Or.inl ⟨by rfl, ?_⟩) hHeld ?_ ?_
      rotate_left
      ·rintro w' ⟨s0, s1, s2, s3⟩
       go_simp
       with_reducible rfl
      rotate_left
      ·simp only [Act.put, List.setIfInBounds_toArray, List.set_cons_zero, List.set_cons_succ, i64_w, i32_w]
       rfl
      refine one_ (i := 9) (N := some 30) (tb 24 1023) rfl rfl (one_of HT_.out (by kernel_rfl)) (by decide) (fun K hK => ?_)
      refine goes_ Tryz.func11 (by kernel_rfl) rfl #[.string (rdOf ByteArray.empty y191 x18_1), .string (rdOf ByteArray.empty y191 (ji7)), .bool false] (by rfl) rfl rfl (by (try simp only [List.map_toArray, List.map_cons, List.map_nil]); first | done | (simp only [hji7]; rfl) | rfl | (simp only [List.length_drop, List.length_take]; rfl)) ?_
      with_reducible refine (directory_Compare.calls k1 (rdOf ByteArray.empty y191 x18_1) (rdOf ByteArray.empty y191 (ji7)) false t196 _ A10.out).mono ?_
      rintro e w20 ⟨rfl, hb⟩
      have HS0_ := (hb.cell (World.block_lt_of_cell? _ _ (hHeld.1))).trans (hHeld.1)
      have HS1_ := (hb.cell (World.block_lt_of_cell? _ _ (hHeld.2.1))).trans (hHeld.2.1)
      have HS2_ := (hb.cell (World.block_lt_of_cell? _ _ (hHeld.2.2.1))).trans (hHeld.2.2.1)
      have HS3_ := (hb.cell (World.block_lt_of_cell? _ _ (hHeld.2.2.2))).trans (hHeld.2.2.2)
      refine ⟨_, rfl, ?_⟩
      replace HO_1 := Aside0.mk (Kd.R_below (uR HO_1.out) hb)
      replace HB := Aside0.mk (below_step (uB HB.out) hb)
      (try clear hb)
      (try clear hb2)
      (try clear hk)
      (try clear hi)
      refine hK.out _ _ ⟨HS0_, HS1_, HS2_, HS3_⟩ (fun hHeld => ?_)
      clear hK K
      refine norm_ (a' := ?_) ?_ ?_
      rotate_left
      ·show Act.put _ (some 30) _ = _
       simp only [Act.put, List.setIfInBounds_toArray, List.set_cons_zero, List.set_cons_succ, i64_w, i32_w]
       rfl
      refine pA (i := 10) (N := some 31) (tb 24 2047) (any_of HT_.out (by kernel_rfl)) ?_
      refine pA (i := 11) (N := some 32) (tb 24 4095) (any_of HT_.out (by kernel_rfl)) ?_
      refine pA (i := 12) (N := some 33) (tb 24 8191) (any_of HT_.out (by kernel_rfl)) ?_
      refine pA (i := 13) (N := some 34) (tb 24 16383) (any_of HT_.out (by kernel_rfl)) ?_
      refine pA (i := 14) (N := some 35) (tb 24 32767) (any_of HT_.out (by kernel_rfl)) ?_
      refine pA (i := 15) (N := some 36) (tb 24 65535) (any_of HT_.out (by kernel_rfl)) ?_
      refine pA (i := 17) (N := some 38) (tb 24 196607) (any_of HT_.out (by kernel_rfl)) ?_
      refine pA (i := 18) (N := some 39) (tb 24 458751) (any_of HT_.out (by kernel_rfl)) ?_
      refine pA (i := 19) (N := some 40) (tb 24 983039) (any_of HT_.out (by kernel_rfl)) ?_
      refine take_ (i := 16) (N := some 37) (v := ?_) (a' := ?_) (tb 24 1048575) rfl rfl (take_ofW HT_.out HW_.out (by kernel_rfl)) (fun _ _ _ h => h) (Or.inl ⟨by rfl, ?_⟩) hHeld ?_ ?_
      rotate_left
      ·rintro w' ⟨s0, s1, s2, s3⟩
       go_simp
       with_reducible rfl
      rotate_left
      ·simp only [Act.put, List.setIfInBounds_toArray, List.set_cons_zero, List.set_cons_succ, i64_w, i32_w]
       rfl
      refine take_ (i := 20) (N := some 41) (v := ?_) (a' := ?_) (tb 24 2097151) rfl rfl (take_ofW HT_.out HW_.out (by kernel_rfl)) (fun _ _ _ h => h) (Or.inl ⟨by rfl, ?_⟩) hHeld ?_ ?_
      rotate_left
      ·rintro w' ⟨s0, s1, s2, s3⟩
       go_simp
       with_reducible rfl
      rotate_left
      ·simp only [Act.put, List.setIfInBounds_toArray, List.set_cons_zero, List.set_cons_succ, i64_w, i32_w]
       rfl
      refine one_ (i := 21) (N := some 42) (tb 24 4194303) rfl rfl (one_of HT_.out (by kernel_rfl)) (by decide) (fun K hK => ?_)
      refine goes_ Tryz.func11 (by kernel_rfl) rfl #[.string (rdOf ByteArray.empty y191 (ji7)), .string (rdOf ByteArray.empty y191 x18_1), .bool false] (by rfl) rfl rfl (by (try simp only [List.map_toArray, List.map_cons, List.map_nil]); first | done | (simp only [hji7]; rfl) | rfl | (simp only [List.length_drop, List.length_take]; rfl)) ?_
      with_reducible refine (directory_Compare.calls k1 (rdOf ByteArray.empty y191 (ji7)) (rdOf ByteArray.empty y191 x18_1) false t199 _ A14.out).mono ?_
      rintro e w21 ⟨rfl, hb⟩
      have HS0_ := (hb.cell (World.block_lt_of_cell? _ _ (hHeld.1))).trans (hHeld.1)
      have HS1_ := (hb.cell (World.block_lt_of_cell? _ _ (hHeld.2.1))).trans (hHeld.2.1)
      have HS2_ := (hb.cell (World.block_lt_of_cell? _ _ (hHeld.2.2.1))).trans (hHeld.2.2.1)
      have HS3_ := (hb.cell (World.block_lt_of_cell? _ _ (hHeld.2.2.2))).trans (hHeld.2.2.2)
      refine ⟨_, rfl, ?_⟩
      replace HO_1 := Aside0.mk (Kd.R_below (uR HO_1.out) hb)
      replace HB := Aside0.mk (below_step (uB HB.out) hb)
      (try clear hb)
      (try clear hb2)
      (try clear hk)
      (try clear hi)
      refine hK.out _ _ ⟨HS0_, HS1_, HS2_, HS3_⟩ (fun hHeld => ?_)
      clear hK K
      refine norm_ (a' := ?_) ?_ ?_
      rotate_left
      ·show Act.put _ (some 42) _ = _
       simp only [Act.put, List.setIfInBounds_toArray, List.set_cons_zero, List.set_cons_succ, i64_w, i32_w]
       rfl
      refine pA (i := 22) (N := some 43) (tb 24 8388607) (any_of HT_.out (by kernel_rfl)) ?_
      refine pA (i := 23) (N := some 44) (tb 24 16777215) (any_of HT_.out (by kernel_rfl)) ?_
      refine done_ (done_of HT_.out (by kernel_rfl)) ?_
      try go_wp2
      go_roundg k1
      case measure => have := HK1.out; omega
      case rel => exact ⟨(ji7), (by first | rfl | (simp; done) | (simp only [← hji7] <;> (first | rfl | simp)) | (simp [*]; done)), H', ⟨by have := HK1.out; omega⟩, ⟨uR HO_1.out⟩, ⟨uB HB.out⟩⟩
   ·rw [if_neg c4] at H
    have c4b0 : decide (x18_1 < (wrap64 ((y191.length : Int) - 1))) = false := decide_eq_false c4
    clear c4
    obtain ⟨y200, hy200⟩ : ∃ y_ : List Int, y_ = (([34] : List Int)) := ⟨_, rfl⟩
    replace H : ((slices_Repeat_int_int.f y200 60).bind fun t203 => (if t203.length < 17592186044416 then ((some (t203 ++ [36] : List Int)).bind fun y206 => ((directory_Offsets.f k1 y206).bind fun t209 => ((directory_Encode.f k1 (([(⟨(⟨#[0]⟩ : ByteArray), 0, 0, 315532800, 0, 0, 0, (⟨#[]⟩ : ByteArray)⟩ : S45), (⟨(⟨#[65]⟩ : ByteArray), 0, 0, 315532800, 0, 0, 0, (⟨#[]⟩ : ByteArray)⟩ : S45)] : List (S45)))).bind fun bt217 => ((directory_Decode.f k1 bt217.1).bind fun bt219 => ((directory_Find.f bt219.1 (⟨#[65]⟩ : ByteArray)).bind fun bt226 => ((directory_Blocks.f k1 y206).bind fun t228 => (if t228 = 2 then (if (t209.length : Int) = 61 then (if 60 < (t209.length : Int) then (if (rd t209 60) = 2048 then (if bt217.2 = 0 then (if (bt217.1.size : Int) = 2048 then (if bt219.2.2 = 0 then ((masterdiscref21_Same.f k1 bt219.1 (([(⟨(⟨#[0]⟩ : ByteArray), 0, 0, 315532800, 0, 0, 0, (⟨#[]⟩ : ByteArray)⟩ : S45), (⟨(⟨#[65]⟩ : ByteArray), 0, 0, 315532800, 0, 0, 0, (⟨#[]⟩ : ByteArray)⟩ : S45)] : List (S45)))).bind fun t233 => (if t233 = true then ((slices_Equal_int_int.f k1 bt219.2.1 (([0, 34] : List Int))).bind fun t237 => (if t237 = true then (if bt226.2 = true then (if bt226.1 = 1 then ((directory_Sort.f k1 (([(⟨(⟨#[65]⟩ : ByteArray), 0, 0, 315532800, 0, 0, 0, (⟨#[]⟩ : ByteArray)⟩ : S45), (⟨(⟨#[0]⟩ : ByteArray), 0, 0, 315532800, 0, 0, 0, (⟨#[]⟩ : ByteArray)⟩ : S45)] : List (S45))) true).bind fun t241 => ((masterdiscref21_Same.f k1 t241 (([(⟨(⟨#[0]⟩ : ByteArray), 0, 0, 315532800, 0, 0, 0, (⟨#[]⟩ : ByteArray)⟩ : S45), (⟨(⟨#[65]⟩ : ByteArray), 0, 0, 315532800, 0, 0, 0, (⟨#[]⟩ : ByteArray)⟩ : S45)] : List (S45)))).bind fun t247 => (some t247))) else (some false)) else (some false)) else (some false))) else (some false))) else (some false)) else (some false)) else (some false)) else (some false)) else (none)) else (some false)) else (some false)))))))) else (none))) = some true := by first | (rw [hy200]; with_reducible exact H) | (have H2_ := (Option.bind_some _ _).symm.trans H; rw [hy200]; with_reducible exact H2_) | (have H2_ := (Option.bind_some _ _).symm.trans H; with_reducible exact H2_) | with_reducible exact H | (rw [hy200]; exact H) | exact H
    have Ny200 := Aside0.mk hy200
    clear hy200
    replace H := Option.bind_eq_some_iff.mp H
    obtain ⟨t203, A220, H⟩ := H
    replace H : (if t203.length < 17592186044416 then ((some (t203 ++ [36] : List Int)).bind fun y206 => ((directory_Offsets.f k1 y206).bind fun t209 => ((directory_Encode.f k1 (([(⟨(⟨#[0]⟩ : ByteArray), 0, 0, 315532800, 0, 0, 0, (⟨#[]⟩ : ByteArray)⟩ : S45), (⟨(⟨#[65]⟩ : ByteArray), 0, 0, 315532800, 0, 0, 0, (⟨#[]⟩ : ByteArray)⟩ : S45)] : List (S45)))).bind fun bt217 => ((directory_Decode.f k1 bt217.1).bind fun bt219 => ((directory_Find.f bt219.1 (⟨#[65]⟩ : ByteArray)).bind fun bt226 => ((directory_Blocks.f k1 y206).bind fun t228 => (if t228 = 2 then (if (t209.length : Int) = 61 then (if 60 < (t209.length : Int) then (if (rd t209 60) = 2048 then (if bt217.2 = 0 then (if (bt217.1.size : Int) = 2048 then (if bt219.2.2 = 0 then ((masterdiscref21_Same.f k1 bt219.1 (([(⟨(⟨#[0]⟩ : ByteArray), 0, 0, 315532800, 0, 0, 0, (⟨#[]⟩ : ByteArray)⟩ : S45), (⟨(⟨#[65]⟩ : ByteArray), 0, 0, 315532800, 0, 0, 0, (⟨#[]⟩ : ByteArray)⟩ : S45)] : List (S45)))).bind fun t233 => (if t233 = true then ((slices_Equal_int_int.f k1 bt219.2.1 (([0, 34] : List Int))).bind fun t237 => (if t237 = true then (if bt226.2 = true then (if bt226.1 = 1 then ((directory_Sort.f k1 (([(⟨(⟨#[65]⟩ : ByteArray), 0, 0, 315532800, 0, 0, 0, (⟨#[]⟩ : ByteArray)⟩ : S45), (⟨(⟨#[0]⟩ : ByteArray), 0, 0, 315532800, 0, 0, 0, (⟨#[]⟩ : ByteArray)⟩ : S45)] : List (S45))) true).bind fun t241 => ((masterdiscref21_Same.f k1 t241 (([(⟨(⟨#[0]⟩ : ByteArray), 0, 0, 315532800, 0, 0, 0, (⟨#[]⟩ : ByteArray)⟩ : S45), (⟨(⟨#[65]⟩ : ByteArray), 0, 0, 315532800, 0, 0, 0, (⟨#[]⟩ : ByteArray)⟩ : S45)] : List (S45)))).bind fun t247 => (some t247))) else (some false)) else (some false)) else (some false))) else (some false))) else (some false)) else (some false)) else (some false)) else (some false)) else (none)) else (some false)) else (some false)))))))) else (none)) = some true := H
    have A22 := Aside0.mk A220
    clear A220
    by_cases c23 : t203.length < 17592186044416
    rotate_left
    ·rw [if_neg c23] at H
     exact absurd H (by simp)
    rw [if_pos c23] at H
    have LMc23 := Aside0.mk c23
    clear c23
    obtain ⟨y206, hy206⟩ : ∃ y_ : List Int, y_ = (t203 ++ [36]) := ⟨_, rfl⟩
    replace H : ((directory_Offsets.f k1 y206).bind fun t209 => ((directory_Encode.f k1 (([(⟨(⟨#[0]⟩ : ByteArray), 0, 0, 315532800, 0, 0, 0, (⟨#[]⟩ : ByteArray)⟩ : S45), (⟨(⟨#[65]⟩ : ByteArray), 0, 0, 315532800, 0, 0, 0, (⟨#[]⟩ : ByteArray)⟩ : S45)] : List (S45)))).bind fun bt217 => ((directory_Decode.f k1 bt217.1).bind fun bt219 => ((directory_Find.f bt219.1 (⟨#[65]⟩ : ByteArray)).bind fun bt226 => ((directory_Blocks.f k1 y206).bind fun t228 => (if t228 = 2 then (if (t209.length : Int) = 61 then (if 60 < (t209.length : Int) then (if (rd t209 60) = 2048 then (if bt217.2 = 0 then (if (bt217.1.size : Int) = 2048 then (if bt219.2.2 = 0 then ((masterdiscref21_Same.f k1 bt219.1 (([(⟨(⟨#[0]⟩ : ByteArray), 0, 0, 315532800, 0, 0, 0, (⟨#[]⟩ : ByteArray)⟩ : S45), (⟨(⟨#[65]⟩ : ByteArray), 0, 0, 315532800, 0, 0, 0, (⟨#[]⟩ : ByteArray)⟩ : S45)] : List (S45)))).bind fun t233 => (if t233 = true then ((slices_Equal_int_int.f k1 bt219.2.1 (([0, 34] : List Int))).bind fun t237 => (if t237 = true then (if bt226.2 = true then (if bt226.1 = 1 then ((directory_Sort.f k1 (([(⟨(⟨#[65]⟩ : ByteArray), 0, 0, 315532800, 0, 0, 0, (⟨#[]⟩ : ByteArray)⟩ : S45), (⟨(⟨#[0]⟩ : ByteArray), 0, 0, 315532800, 0, 0, 0, (⟨#[]⟩ : ByteArray)⟩ : S45)] : List (S45))) true).bind fun t241 => ((masterdiscref21_Same.f k1 t241 (([(⟨(⟨#[0]⟩ : ByteArray), 0, 0, 315532800, 0, 0, 0, (⟨#[]⟩ : ByteArray)⟩ : S45), (⟨(⟨#[65]⟩ : ByteArray), 0, 0, 315532800, 0, 0, 0, (⟨#[]⟩ : ByteArray)⟩ : S45)] : List (S45)))).bind fun t247 => (some t247))) else (some false)) else (some false)) else (some false))) else (some false))) else (some false)) else (some false)) else (some false)) else (some false)) else (none)) else (some false)) else (some false))))))) = some true := by first | (rw [hy206]; with_reducible exact H) | (have H2_ := (Option.bind_some _ _).symm.trans H; rw [hy206]; with_reducible exact H2_) | (have H2_ := (Option.bind_some _ _).symm.trans H; with_reducible exact H2_) | with_reducible exact H | (rw [hy206]; exact H) | exact H
    have Ny206 := Aside0.mk hy206
    clear hy206
    replace H := Option.bind_eq_some_iff.mp H
    obtain ⟨t209, A240, H⟩ := H
    replace H : ((directory_Encode.f k1 (([(⟨(⟨#[0]⟩ : ByteArray), 0, 0, 315532800, 0, 0, 0, (⟨#[]⟩ : ByteArray)⟩ : S45), (⟨(⟨#[65]⟩ : ByteArray), 0, 0, 315532800, 0, 0, 0, (⟨#[]⟩ : ByteArray)⟩ : S45)] : List (S45)))).bind fun bt217 => ((directory_Decode.f k1 bt217.1).bind fun bt219 => ((directory_Find.f bt219.1 (⟨#[65]⟩ : ByteArray)).bind fun bt226 => ((directory_Blocks.f k1 y206).bind fun t228 => (if t228 = 2 then (if (t209.length : Int) = 61 then (if 60 < (t209.length : Int) then (if (rd t209 60) = 2048 then (if bt217.2 = 0 then (if (bt217.1.size : Int) = 2048 then (if bt219.2.2 = 0 then ((masterdiscref21_Same.f k1 bt219.1 (([(⟨(⟨#[0]⟩ : ByteArray), 0, 0, 315532800, 0, 0, 0, (⟨#[]⟩ : ByteArray)⟩ : S45), (⟨(⟨#[65]⟩ : ByteArray), 0, 0, 315532800, 0, 0, 0, (⟨#[]⟩ : ByteArray)⟩ : S45)] : List (S45)))).bind fun t233 => (if t233 = true then ((slices_Equal_int_int.f k1 bt219.2.1 (([0, 34] : List Int))).bind fun t237 => (if t237 = true then (if bt226.2 = true then (if bt226.1 = 1 then ((directory_Sort.f k1 (([(⟨(⟨#[65]⟩ : ByteArray), 0, 0, 315532800, 0, 0, 0, (⟨#[]⟩ : ByteArray)⟩ : S45), (⟨(⟨#[0]⟩ : ByteArray), 0, 0, 315532800, 0, 0, 0, (⟨#[]⟩ : ByteArray)⟩ : S45)] : List (S45))) true).bind fun t241 => ((masterdiscref21_Same.f k1 t241 (([(⟨(⟨#[0]⟩ : ByteArray), 0, 0, 315532800, 0, 0, 0, (⟨#[]⟩ : ByteArray)⟩ : S45), (⟨(⟨#[65]⟩ : ByteArray), 0, 0, 315532800, 0, 0, 0, (⟨#[]⟩ : ByteArray)⟩ : S45)] : List (S45)))).bind fun t247 => (some t247))) else (some false)) else (some false)) else (some false))) else (some false))) else (some false)) else (some false)) else (some false)) else (some false)) else (none)) else (some false)) else (some false)))))) = some true := H
    have A24 := Aside0.mk A240
    clear A240
    obtain ⟨y214, hy214⟩ : ∃ y_ : List (S45), y_ = (([(⟨(⟨#[0]⟩ : ByteArray), 0, 0, 315532800, 0, 0, 0, (⟨#[]⟩ : ByteArray)⟩ : S45), (⟨(⟨#[65]⟩ : ByteArray), 0, 0, 315532800, 0, 0, 0, (⟨#[]⟩ : ByteArray)⟩ : S45)] : List (S45))) := ⟨_, rfl⟩
    replace H : ((directory_Encode.f k1 y214).bind fun bt217 => ((directory_Decode.f k1 bt217.1).bind fun bt219 => ((directory_Find.f bt219.1 (⟨#[65]⟩ : ByteArray)).bind fun bt226 => ((directory_Blocks.f k1 y206).bind fun t228 => (if t228 = 2 then (if (t209.length : Int) = 61 then (if 60 < (t209.length : Int) then (if (rd t209 60) = 2048 then (if bt217.2 = 0 then (if (bt217.1.size : Int) = 2048 then (if bt219.2.2 = 0 then ((masterdiscref21_Same.f k1 bt219.1 (([(⟨(⟨#[0]⟩ : ByteArray), 0, 0, 315532800, 0, 0, 0, (⟨#[]⟩ : ByteArray)⟩ : S45), (⟨(⟨#[65]⟩ : ByteArray), 0, 0, 315532800, 0, 0, 0, (⟨#[]⟩ : ByteArray)⟩ : S45)] : List (S45)))).bind fun t233 => (if t233 = true then ((slices_Equal_int_int.f k1 bt219.2.1 (([0, 34] : List Int))).bind fun t237 => (if t237 = true then (if bt226.2 = true then (if bt226.1 = 1 then ((directory_Sort.f k1 (([(⟨(⟨#[65]⟩ : ByteArray), 0, 0, 315532800, 0, 0, 0, (⟨#[]⟩ : ByteArray)⟩ : S45), (⟨(⟨#[0]⟩ : ByteArray), 0, 0, 315532800, 0, 0, 0, (⟨#[]⟩ : ByteArray)⟩ : S45)] : List (S45))) true).bind fun t241 => ((masterdiscref21_Same.f k1 t241 (([(⟨(⟨#[0]⟩ : ByteArray), 0, 0, 315532800, 0, 0, 0, (⟨#[]⟩ : ByteArray)⟩ : S45), (⟨(⟨#[65]⟩ : ByteArray), 0, 0, 315532800, 0, 0, 0, (⟨#[]⟩ : ByteArray)⟩ : S45)] : List (S45)))).bind fun t247 => (some t247))) else (some false)) else (some false)) else (some false))) else (some false))) else (some false)) else (some false)) else (some false)) else (some false)) else (none)) else (some false)) else (some false)))))) = some true := by first | (rw [hy214]; with_reducible exact H) | (have H2_ := (Option.bind_some _ _).symm.trans H; rw [hy214]; with_reducible exact H2_) | (have H2_ := (Option.bind_some _ _).symm.trans H; with_reducible exact H2_) | with_reducible exact H | (rw [hy214]; exact H) | exact H
    have Ny214 := Aside0.mk hy214
    clear hy214
    replace H := Option.bind_eq_some_iff.mp H
    obtain ⟨⟨t217, t218⟩, A250, H⟩ := H
    replace H : ((directory_Decode.f k1 t217).bind fun bt219 => ((directory_Find.f bt219.1 (⟨#[65]⟩ : ByteArray)).bind fun bt226 => ((directory_Blocks.f k1 y206).bind fun t228 => (if t228 = 2 then (if (t209.length : Int) = 61 then (if 60 < (t209.length : Int) then (if (rd t209 60) = 2048 then (if t218 = 0 then (if (t217.size : Int) = 2048 then (if bt219.2.2 = 0 then ((masterdiscref21_Same.f k1 bt219.1 (([(⟨(⟨#[0]⟩ : ByteArray), 0, 0, 315532800, 0, 0, 0, (⟨#[]⟩ : ByteArray)⟩ : S45), (⟨(⟨#[65]⟩ : ByteArray), 0, 0, 315532800, 0, 0, 0, (⟨#[]⟩ : ByteArray)⟩ : S45)] : List (S45)))).bind fun t233 => (if t233 = true then ((slices_Equal_int_int.f k1 bt219.2.1 (([0, 34] : List Int))).bind fun t237 => (if t237 = true then (if bt226.2 = true then (if bt226.1 = 1 then ((directory_Sort.f k1 (([(⟨(⟨#[65]⟩ : ByteArray), 0, 0, 315532800, 0, 0, 0, (⟨#[]⟩ : ByteArray)⟩ : S45), (⟨(⟨#[0]⟩ : ByteArray), 0, 0, 315532800, 0, 0, 0, (⟨#[]⟩ : ByteArray)⟩ : S45)] : List (S45))) true).bind fun t241 => ((masterdiscref21_Same.f k1 t241 (([(⟨(⟨#[0]⟩ : ByteArray), 0, 0, 315532800, 0, 0, 0, (⟨#[]⟩ : ByteArray)⟩ : S45), (⟨(⟨#[65]⟩ : ByteArray), 0, 0, 315532800, 0, 0, 0, (⟨#[]⟩ : ByteArray)⟩ : S45)] : List (S45)))).bind fun t247 => (some t247))) else (some false)) else (some false)) else (some false))) else (some false))) else (some false)) else (some false)) else (some false)) else (some false)) else (none)) else (some false)) else (some false))))) = some true := H
    have A25 := Aside0.mk A250
    clear A250
    replace H := Option.bind_eq_some_iff.mp H
    obtain ⟨⟨t219, t220, t221⟩, A260, H⟩ := H
    replace H : ((directory_Find.f t219 (⟨#[65]⟩ : ByteArray)).bind fun bt226 => ((directory_Blocks.f k1 y206).bind fun t228 => (if t228 = 2 then (if (t209.length : Int) = 61 then (if 60 < (t209.length : Int) then (if (rd t209 60) = 2048 then (if t218 = 0 then (if (t217.size : Int) = 2048 then (if t221 = 0 then ((masterdiscref21_Same.f k1 t219 (([(⟨(⟨#[0]⟩ : ByteArray), 0, 0, 315532800, 0, 0, 0, (⟨#[]⟩ : ByteArray)⟩ : S45), (⟨(⟨#[65]⟩ : ByteArray), 0, 0, 315532800, 0, 0, 0, (⟨#[]⟩ : ByteArray)⟩ : S45)] : List (S45)))).bind fun t233 => (if t233 = true then ((slices_Equal_int_int.f k1 t220 (([0, 34] : List Int))).bind fun t237 => (if t237 = true then (if bt226.2 = true then (if bt226.1 = 1 then ((directory_Sort.f k1 (([(⟨(⟨#[65]⟩ : ByteArray), 0, 0, 315532800, 0, 0, 0, (⟨#[]⟩ : ByteArray)⟩ : S45), (⟨(⟨#[0]⟩ : ByteArray), 0, 0, 315532800, 0, 0, 0, (⟨#[]⟩ : ByteArray)⟩ : S45)] : List (S45))) true).bind fun t241 => ((masterdiscref21_Same.f k1 t241 (([(⟨(⟨#[0]⟩ : ByteArray), 0, 0, 315532800, 0, 0, 0, (⟨#[]⟩ : ByteArray)⟩ : S45), (⟨(⟨#[65]⟩ : ByteArray), 0, 0, 315532800, 0, 0, 0, (⟨#[]⟩ : ByteArray)⟩ : S45)] : List (S45)))).bind fun t247 => (some t247))) else (some false)) else (some false)) else (some false))) else (some false))) else (some false)) else (some false)) else (some false)) else (some false)) else (none)) else (some false)) else (some false)))) = some true := H
    have A26 := Aside0.mk A260
    clear A260
    replace H := Option.bind_eq_some_iff.mp H
    obtain ⟨⟨t226, t227⟩, A270, H⟩ := H
    replace H : ((directory_Blocks.f k1 y206).bind fun t228 => (if t228 = 2 then (if (t209.length : Int) = 61 then (if 60 < (t209.length : Int) then (if (rd t209 60) = 2048 then (if t218 = 0 then (if (t217.size : Int) = 2048 then (if t221 = 0 then ((masterdiscref21_Same.f k1 t219 (([(⟨(⟨#[0]⟩ : ByteArray), 0, 0, 315532800, 0, 0, 0, (⟨#[]⟩ : ByteArray)⟩ : S45), (⟨(⟨#[65]⟩ : ByteArray), 0, 0, 315532800, 0, 0, 0, (⟨#[]⟩ : ByteArray)⟩ : S45)] : List (S45)))).bind fun t233 => (if t233 = true then ((slices_Equal_int_int.f k1 t220 (([0, 34] : List Int))).bind fun t237 => (if t237 = true then (if t227 = true then (if t226 = 1 then ((directory_Sort.f k1 (([(⟨(⟨#[65]⟩ : ByteArray), 0, 0, 315532800, 0, 0, 0, (⟨#[]⟩ : ByteArray)⟩ : S45), (⟨(⟨#[0]⟩ : ByteArray), 0, 0, 315532800, 0, 0, 0, (⟨#[]⟩ : ByteArray)⟩ : S45)] : List (S45))) true).bind fun t241 => ((masterdiscref21_Same.f k1 t241 (([(⟨(⟨#[0]⟩ : ByteArray), 0, 0, 315532800, 0, 0, 0, (⟨#[]⟩ : ByteArray)⟩ : S45), (⟨(⟨#[65]⟩ : ByteArray), 0, 0, 315532800, 0, 0, 0, (⟨#[]⟩ : ByteArray)⟩ : S45)] : List (S45)))).bind fun t247 => (some t247))) else (some false)) else (some false)) else (some false))) else (some false))) else (some false)) else (some false)) else (some false)) else (some false)) else (none)) else (some false)) else (some false))) = some true := H
    have A27 := Aside0.mk A270
    clear A270
    replace H := Option.bind_eq_some_iff.mp H
    obtain ⟨t228, A280, H⟩ := H
    replace H : (if t228 = 2 then (if (t209.length : Int) = 61 then (if 60 < (t209.length : Int) then (if (rd t209 60) = 2048 then (if t218 = 0 then (if (t217.size : Int) = 2048 then (if t221 = 0 then ((masterdiscref21_Same.f k1 t219 (([(⟨(⟨#[0]⟩ : ByteArray), 0, 0, 315532800, 0, 0, 0, (⟨#[]⟩ : ByteArray)⟩ : S45), (⟨(⟨#[65]⟩ : ByteArray), 0, 0, 315532800, 0, 0, 0, (⟨#[]⟩ : ByteArray)⟩ : S45)] : List (S45)))).bind fun t233 => (if t233 = true then ((slices_Equal_int_int.f k1 t220 (([0, 34] : List Int))).bind fun t237 => (if t237 = true then (if t227 = true then (if t226 = 1 then ((directory_Sort.f k1 (([(⟨(⟨#[65]⟩ : ByteArray), 0, 0, 315532800, 0, 0, 0, (⟨#[]⟩ : ByteArray)⟩ : S45), (⟨(⟨#[0]⟩ : ByteArray), 0, 0, 315532800, 0, 0, 0, (⟨#[]⟩ : ByteArray)⟩ : S45)] : List (S45))) true).bind fun t241 => ((masterdiscref21_Same.f k1 t241 (([(⟨(⟨#[0]⟩ : ByteArray), 0, 0, 315532800, 0, 0, 0, (⟨#[]⟩ : ByteArray)⟩ : S45), (⟨(⟨#[65]⟩ : ByteArray), 0, 0, 315532800, 0, 0, 0, (⟨#[]⟩ : ByteArray)⟩ : S45)] : List (S45)))).bind fun t247 => (some t247))) else (some false)) else (some false)) else (some false))) else (some false))) else (some false)) else (some false)) else (some false)) else (some false)) else (none)) else (some false)) else (some false)) = some true := H
    have A28 := Aside0.mk A280
    clear A280
    by_cases c29 : t228 = 2
    rotate_left
    ·rw [if_neg c29] at H
     cases H
    rw [if_pos c29] at H
    have c29b0 : (t228 == 2) = true := beq_iff_eq.mpr c29
    have c29b1 : (t228 != 2) = false := bne_eq_false_iff_eq.mpr c29
    clear c29
    by_cases c30 : (t209.length : Int) = 61
    rotate_left
    ·rw [if_neg c30] at H
     cases H
    rw [if_pos c30] at H
    have c30b0 : ((t209.length : Int) == 61) = true := beq_iff_eq.mpr c30
    have c30b1 : ((t209.length : Int) != 61) = false := bne_eq_false_iff_eq.mpr c30
    clear c30
    by_cases c31 : 60 < (t209.length : Int)
    rotate_left
    ·rw [if_neg c31] at H
     exact absurd H (by simp)
    rw [if_pos c31] at H
    have c31b0 : decide (60 < (t209.length : Int)) = true := decide_eq_true c31
    have c31b1 : decide (60 < t209.length) = true := decide_eq_true (by omega)
    clear c31
    by_cases c32 : (rd t209 60) = 2048
    rotate_left
    ·rw [if_neg c32] at H
     cases H
    rw [if_pos c32] at H
    have c32b0 : ((rd t209 60) == 2048) = true := beq_iff_eq.mpr c32
    have c32b1 : ((rd t209 60) != 2048) = false := bne_eq_false_iff_eq.mpr c32
    clear c32
    by_cases c33 : t218 = 0
    rotate_left
    ·rw [if_neg c33] at H
     cases H
    rw [if_pos c33] at H
    have c33b0 : (t218 == 0) = true := beq_iff_eq.mpr c33
    have c33b1 : (t218 != 0) = false := bne_eq_false_iff_eq.mpr c33
    clear c33
    by_cases c34 : (t217.size : Int) = 2048
    rotate_left
    ·rw [if_neg c34] at H
     cases H
    rw [if_pos c34] at H
    have c34b0 : ((t217.size : Int) == 2048) = true := beq_iff_eq.mpr c34
    have c34b1 : ((t217.size : Int) != 2048) = false := bne_eq_false_iff_eq.mpr c34
    clear c34
    by_cases c35 : t221 = 0
    rotate_left
    ·rw [if_neg c35] at H
     cases H
    rw [if_pos c35] at H
    have c35b0 : (t221 == 0) = true := beq_iff_eq.mpr c35
    have c35b1 : (t221 != 0) = false := bne_eq_false_iff_eq.mpr c35
    clear c35
    obtain ⟨y230, hy230⟩ : ∃ y_ : List (S45), y_ = (([(⟨(⟨#[0]⟩ : ByteArray), 0, 0, 315532800, 0, 0, 0, (⟨#[]⟩ : ByteArray)⟩ : S45), (⟨(⟨#[65]⟩ : ByteArray), 0, 0, 315532800, 0, 0, 0, (⟨#[]⟩ : ByteArray)⟩ : S45)] : List (S45))) := ⟨_, rfl⟩
    replace H : ((masterdiscref21_Same.f k1 t219 y230).bind fun t233 => (if t233 = true then ((slices_Equal_int_int.f k1 t220 (([0, 34] : List Int))).bind fun t237 => (if t237 = true then (if t227 = true then (if t226 = 1 then ((directory_Sort.f k1 (([(⟨(⟨#[65]⟩ : ByteArray), 0, 0, 315532800, 0, 0, 0, (⟨#[]⟩ : ByteArray)⟩ : S45), (⟨(⟨#[0]⟩ : ByteArray), 0, 0, 315532800, 0, 0, 0, (⟨#[]⟩ : ByteArray)⟩ : S45)] : List (S45))) true).bind fun t241 => ((masterdiscref21_Same.f k1 t241 (([(⟨(⟨#[0]⟩ : ByteArray), 0, 0, 315532800, 0, 0, 0, (⟨#[]⟩ : ByteArray)⟩ : S45), (⟨(⟨#[65]⟩ : ByteArray), 0, 0, 315532800, 0, 0, 0, (⟨#[]⟩ : ByteArray)⟩ : S45)] : List (S45)))).bind fun t247 => (some t247))) else (some false)) else (some false)) else (some false))) else (some false))) = some true := by first | (rw [hy230]; with_reducible exact H) | (have H2_ := (Option.bind_some _ _).symm.trans H; rw [hy230]; with_reducible exact H2_) | (have H2_ := (Option.bind_some _ _).symm.trans H; with_reducible exact H2_) | with_reducible exact H | (rw [hy230]; exact H) | exact H
    have Ny230 := Aside0.mk hy230
    clear hy230
    replace H := Option.bind_eq_some_iff.mp H
    obtain ⟨t233, A360, H⟩ := H
    replace H : (if t233 = true then ((slices_Equal_int_int.f k1 t220 (([0, 34] : List Int))).bind fun t237 => (if t237 = true then (if t227 = true then (if t226 = 1 then ((directory_Sort.f k1 (([(⟨(⟨#[65]⟩ : ByteArray), 0, 0, 315532800, 0, 0, 0, (⟨#[]⟩ : ByteArray)⟩ : S45), (⟨(⟨#[0]⟩ : ByteArray), 0, 0, 315532800, 0, 0, 0, (⟨#[]⟩ : ByteArray)⟩ : S45)] : List (S45))) true).bind fun t241 => ((masterdiscref21_Same.f k1 t241 (([(⟨(⟨#[0]⟩ : ByteArray), 0, 0, 315532800, 0, 0, 0, (⟨#[]⟩ : ByteArray)⟩ : S45), (⟨(⟨#[65]⟩ : ByteArray), 0, 0, 315532800, 0, 0, 0, (⟨#[]⟩ : ByteArray)⟩ : S45)] : List (S45)))).bind fun t247 => (some t247))) else (some false)) else (some false)) else (some false))) else (some false)) = some true := H
    have A36 := Aside0.mk A360
    clear A360
    by_cases c37 : t233 = true
    ·subst c37
     have H1 : ((slices_Equal_int_int.f k1 t220 (([0, 34] : List Int))).bind fun t237 => (if t237 = true then (if t227 = true then (if t226 = 1 then ((directory_Sort.f k1 (([(⟨(⟨#[65]⟩ : ByteArray), 0, 0, 315532800, 0, 0, 0, (⟨#[]⟩ : ByteArray)⟩ : S45), (⟨(⟨#[0]⟩ : ByteArray), 0, 0, 315532800, 0, 0, 0, (⟨#[]⟩ : ByteArray)⟩ : S45)] : List (S45))) true).bind fun t241 => ((masterdiscref21_Same.f k1 t241 (([(⟨(⟨#[0]⟩ : ByteArray), 0, 0, 315532800, 0, 0, 0, (⟨#[]⟩ : ByteArray)⟩ : S45), (⟨(⟨#[65]⟩ : ByteArray), 0, 0, 315532800, 0, 0, 0, (⟨#[]⟩ : ByteArray)⟩ : S45)] : List (S45)))).bind fun t247 => (some t247))) else (some false)) else (some false)) else (some false))) = some true := by rw [if_pos rfl] at H; exact H
     clear H
     have H := H1
     clear H1
     obtain ⟨y234, hy234⟩ : ∃ y_ : List Int, y_ = (([0, 34] : List Int)) := ⟨_, rfl⟩
     replace H : ((slices_Equal_int_int.f k1 t220 y234).bind fun t237 => (if t237 = true then (if t227 = true then (if t226 = 1 then ((directory_Sort.f k1 (([(⟨(⟨#[65]⟩ : ByteArray), 0, 0, 315532800, 0, 0, 0, (⟨#[]⟩ : ByteArray)⟩ : S45), (⟨(⟨#[0]⟩ : ByteArray), 0, 0, 315532800, 0, 0, 0, (⟨#[]⟩ : ByteArray)⟩ : S45)] : List (S45))) true).bind fun t241 => ((masterdiscref21_Same.f k1 t241 (([(⟨(⟨#[0]⟩ : ByteArray), 0, 0, 315532800, 0, 0, 0, (⟨#[]⟩ : ByteArray)⟩ : S45), (⟨(⟨#[65]⟩ : ByteArray), 0, 0, 315532800, 0, 0, 0, (⟨#[]⟩ : ByteArray)⟩ : S45)] : List (S45)))).bind fun t247 => (some t247))) else (some false)) else (some false)) else (some false))) = some true := by first | (rw [hy234]; with_reducible exact H) | (have H2_ := (Option.bind_some _ _).symm.trans H; rw [hy234]; with_reducible exact H2_) | (have H2_ := (Option.bind_some _ _).symm.trans H; with_reducible exact H2_) | with_reducible exact H | (rw [hy234]; exact H) | exact H
     have Ny234 := Aside0.mk hy234
     clear hy234
     replace H := Option.bind_eq_some_iff.mp H
     obtain ⟨t237, A380, H⟩ := H
     replace H : (if t237 = true then (if t227 = true then (if t226 = 1 then ((directory_Sort.f k1 (([(⟨(⟨#[65]⟩ : ByteArray), 0, 0, 315532800, 0, 0, 0, (⟨#[]⟩ : ByteArray)⟩ : S45), (⟨(⟨#[0]⟩ : ByteArray), 0, 0, 315532800, 0, 0, 0, (⟨#[]⟩ : ByteArray)⟩ : S45)] : List (S45))) true).bind fun t241 => ((masterdiscref21_Same.f k1 t241 (([(⟨(⟨#[0]⟩ : ByteArray), 0, 0, 315532800, 0, 0, 0, (⟨#[]⟩ : ByteArray)⟩ : S45), (⟨(⟨#[65]⟩ : ByteArray), 0, 0, 315532800, 0, 0, 0, (⟨#[]⟩ : ByteArray)⟩ : S45)] : List (S45)))).bind fun t247 => (some t247))) else (some false)) else (some false)) else (some false)) = some true := H
     have A38 := Aside0.mk A380
     clear A380
     by_cases c39 : t237 = true
     ·subst c39
      have H1 : (if t227 = true then (if t226 = 1 then ((directory_Sort.f k1 (([(⟨(⟨#[65]⟩ : ByteArray), 0, 0, 315532800, 0, 0, 0, (⟨#[]⟩ : ByteArray)⟩ : S45), (⟨(⟨#[0]⟩ : ByteArray), 0, 0, 315532800, 0, 0, 0, (⟨#[]⟩ : ByteArray)⟩ : S45)] : List (S45))) true).bind fun t241 => ((masterdiscref21_Same.f k1 t241 (([(⟨(⟨#[0]⟩ : ByteArray), 0, 0, 315532800, 0, 0, 0, (⟨#[]⟩ : ByteArray)⟩ : S45), (⟨(⟨#[65]⟩ : ByteArray), 0, 0, 315532800, 0, 0, 0, (⟨#[]⟩ : ByteArray)⟩ : S45)] : List (S45)))).bind fun t247 => (some t247))) else (some false)) else (some false)) = some true := by rw [if_pos rfl] at H; exact H
      clear H
      have H := H1
      clear H1
      by_cases c40 : t227 = true
      ·subst c40
       have H1 : (if t226 = 1 then ((directory_Sort.f k1 (([(⟨(⟨#[65]⟩ : ByteArray), 0, 0, 315532800, 0, 0, 0, (⟨#[]⟩ : ByteArray)⟩ : S45), (⟨(⟨#[0]⟩ : ByteArray), 0, 0, 315532800, 0, 0, 0, (⟨#[]⟩ : ByteArray)⟩ : S45)] : List (S45))) true).bind fun t241 => ((masterdiscref21_Same.f k1 t241 (([(⟨(⟨#[0]⟩ : ByteArray), 0, 0, 315532800, 0, 0, 0, (⟨#[]⟩ : ByteArray)⟩ : S45), (⟨(⟨#[65]⟩ : ByteArray), 0, 0, 315532800, 0, 0, 0, (⟨#[]⟩ : ByteArray)⟩ : S45)] : List (S45)))).bind fun t247 => (some t247))) else (some false)) = some true := by rw [if_pos rfl] at H; exact H
       clear H
       have H := H1
       clear H1
       by_cases c41 : t226 = 1
       rotate_left
       ·rw [if_neg c41] at H
        cases H
       rw [if_pos c41] at H
       have c41b0 : (t226 == 1) = true := beq_iff_eq.mpr c41
       have c41b1 : (t226 != 1) = false := bne_eq_false_iff_eq.mpr c41
       clear c41
       obtain ⟨y238, hy238⟩ : ∃ y_ : List (S45), y_ = (([(⟨(⟨#[65]⟩ : ByteArray), 0, 0, 315532800, 0, 0, 0, (⟨#[]⟩ : ByteArray)⟩ : S45), (⟨(⟨#[0]⟩ : ByteArray), 0, 0, 315532800, 0, 0, 0, (⟨#[]⟩ : ByteArray)⟩ : S45)] : List (S45))) := ⟨_, rfl⟩
       replace H : ((directory_Sort.f k1 y238 true).bind fun t241 => ((masterdiscref21_Same.f k1 t241 (([(⟨(⟨#[0]⟩ : ByteArray), 0, 0, 315532800, 0, 0, 0, (⟨#[]⟩ : ByteArray)⟩ : S45), (⟨(⟨#[65]⟩ : ByteArray), 0, 0, 315532800, 0, 0, 0, (⟨#[]⟩ : ByteArray)⟩ : S45)] : List (S45)))).bind fun t247 => (some t247))) = some true := by first | (rw [hy238]; with_reducible exact H) | (have H2_ := (Option.bind_some _ _).symm.trans H; rw [hy238]; with_reducible exact H2_) | (have H2_ := (Option.bind_some _ _).symm.trans H; with_reducible exact H2_) | with_reducible exact H | (rw [hy238]; exact H) | exact H
       have Ny238 := Aside0.mk hy238
       clear hy238
       replace H := Option.bind_eq_some_iff.mp H
       obtain ⟨t241, A420, H⟩ := H
       replace H : ((masterdiscref21_Same.f k1 t241 (([(⟨(⟨#[0]⟩ : ByteArray), 0, 0, 315532800, 0, 0, 0, (⟨#[]⟩ : ByteArray)⟩ : S45), (⟨(⟨#[65]⟩ : ByteArray), 0, 0, 315532800, 0, 0, 0, (⟨#[]⟩ : ByteArray)⟩ : S45)] : List (S45)))).bind fun t247 => (some t247)) = some true := H
       have A42 := Aside0.mk A420
       clear A420
       obtain ⟨y244, hy244⟩ : ∃ y_ : List (S45), y_ = (([(⟨(⟨#[0]⟩ : ByteArray), 0, 0, 315532800, 0, 0, 0, (⟨#[]⟩ : ByteArray)⟩ : S45), (⟨(⟨#[65]⟩ : ByteArray), 0, 0, 315532800, 0, 0, 0, (⟨#[]⟩ : ByteArray)⟩ : S45)] : List (S45))) := ⟨_, rfl⟩
       replace H : ((masterdiscref21_Same.f k1 t241 y244).bind fun t247 => (some t247)) = some true := by first | (rw [hy244]; with_reducible exact H) | (have H2_ := (Option.bind_some _ _).symm.trans H; rw [hy244]; with_reducible exact H2_) | (have H2_ := (Option.bind_some _ _).symm.trans H; with_reducible exact H2_) | with_reducible exact H | (rw [hy244]; exact H) | exact H
       have Ny244 := Aside0.mk hy244
       clear hy244
       replace H := Option.bind_eq_some_iff.mp H
       obtain ⟨t247, A430, H⟩ := H
       replace H : (some t247) = some true := H
       have A43 := Aside0.mk A430
       clear A430
       obtain rfl := Option.some.inj H
       try go_wp2_with (first | ((with_reducible refine gate_dst (N := 46) rfl ?_); (try (refine gate_guard (by rfl) ?_; dsimp only)); refine Kd.R_lit (Kd.int .i64) _ 3 ?hg (N := 46) ?hd (xs := ([34] : List Int)) (inner := [.int .i64 34]) (ok := fun _ => True) (okp := fun _ => True) ?hr ?hp (fun _ hk => hk) trivial (Below.refl _ _) (Nat.le_refl _) (by simp) ?_; (case hd => rfl); (case hg => rfl); (case hr => first | (go_simp; done) | (go_simp; rfl)); (case hp => exact (Reps.one (show Kd.M (Kd.int .i64) _ _ _ 34 [.int .i64 34] from rfl) (Reps.none _ _))); intro v201 w44 ho45 hb hg_ hnew_; clear hg_ hnew_; (first | rw [← Ny200.out] at ho45 | (simp only [Int.reduceToNat] at ho45; rw [← Ny200.out] at ho45)); have n0_ := Aside0.mk (Kd.R_below (uR HO_1.out) hb); have n1_ := Aside0.mk (Kd.R_lower ho45 (below_size (uB HB.out))); have n2_ := Aside0.mk (below_step (uB HB.out) hb); clear HO_1; clear HB; have HO_1 := n0_; have HO202 := n1_; have HB := n2_; clear n0_ n1_ n2_; clear hb ho45; obtain ⟨Ao46, co46, eo46⟩ := Kd.R_slice HO202.out; subst eo46) | ((with_reducible refine gate_callee (f := 31) rfl ?_); refine gL (some 47) Tryz.func31 #[.slice Ao46 y200.length co46, .int .i64 60] ?_; (with_reducible refine (slices_Repeat_int_int.calls _ _ y200 60 t203 _ ?side1 ?side2 A22.out).mono ?_); (case side1 => repeat (first | exact (Kd.R_reads' HO202.out).2.2 | (with_reducible refine Kd.C_alloc ?_ _) | (with_reducible refine Kd.C_drewN ?_ _) | (with_reducible refine Kd.C_drew ?_))); (case side2 => exact (Kd.R_reads' HO202.out).2.1); rintro e w47 ⟨v204, rfl, ho0, hb⟩; refine ⟨_, rfl, ?_⟩; have n0_ := Aside0.mk (Kd.R_below (uR HO_1.out) hb); have n1_ := Aside0.mk (Kd.R_elder' (uR HO202.out) (Kd.R_base ho0) hb); have n2_ := Aside0.mk (Kd.R_lower (Kd.R_new' ho0 (Kd.R_lt (uR HO202.out))) (below_size (uB HB.out))); have n3_ := Aside0.mk (below_step (uB HB.out) hb); clear HO_1; clear HO202; clear HB; have HO_1 := n0_; have HO202 := n1_; have HO205 := n2_; have HB := n3_; clear n0_ n1_ n2_ n3_; (try clear hb); (try clear hb2); (try clear hk); (try clear hi); (try clear ho0)) | ((with_reducible refine gate_builtin (b := .append) (xs := #[.tmp 47, .tmp 48]) rfl ?_); (try (refine gate_guard (by rfl) ?_; dsimp only)); at_builtin; refine Kd.R_append (Kd.int .i64) (w0 := w) w.heap.size rfl (.tmp 47) (.tmp 48) 33 3 (.int .i64 0) 8 rfl Tryz.underlying33 info3 rfl (by decide) (by omega) v204 t203 36 [.int .i64 36] (fun k_ => some k_ ≠ (.slice Ao46 y200.length co46 : Value).ownBlock) (fun _ => False) rfl rfl ?aP (fun _ hk => hk.elim) ?aF ?aO ?aB ?aS ?aL ?_; (case aP => exact rfl); (case aB => exact (uB HB.out)); (case aF => exact (fun k_ hk => Kd.fresh' (Kd.R_lt (uR HO202.out)) k_ hk)); (case aO => exact (by (with_reducible repeat (first | apply Kd.R_alloc | apply Kd.R_drewN | apply Kd.R_drew)); exact Kd.R_mono HO205.out (fun _ hk => hk.2))); (case aS => exact (below_size (uB HB.out))); (case aL => have := LMc23.out; omega); intro v207 w48 ho hb hg hat; rw [← Ny206.out] at ho; have n0_ := Aside0.mk (Kd.R_over' (uR HO_1.out) (Kd.R_typed (uR HO205.out)) (by decide) hg); have n1_ := Aside0.mk (Kd.R_after (ok := (fun _ => True)) (uR HO202.out) hg hat); have n2_ := Aside0.mk (hb); have n3_ := Aside0.mk (ho); clear HO_1; clear HO202; clear HB; clear HO205; have HO_1 := n0_; have HO202 := n1_; have HB := n2_; have HO208 := n3_; clear n0_ n1_ n2_ n3_; clear ho hb hg hat; obtain ⟨Ao49, co49, eo49⟩ := Kd.R_slice HO208.out; subst eo49) | ((with_reducible refine gate_callee (f := 22) rfl ?_); refine gL (some 51) Tryz.func22 #[.slice Ao49 y206.length co49] ?_; (with_reducible refine (directory_Offsets.calls k1 _ _ y206 t209 _ ?side1 ?side2 A24.out).mono ?_); (case side1 => repeat (first | exact (Kd.R_reads' HO208.out).2.2 | (with_reducible refine Kd.C_alloc ?_ _) | (with_reducible refine Kd.C_drewN ?_ _) | (with_reducible refine Kd.C_drew ?_))); (case side2 => exact (Kd.R_reads' HO208.out).2.1); rintro e w50 ⟨v210, rfl, ho0, hb⟩; refine ⟨_, rfl, ?_⟩; have n0_ := Aside0.mk (Kd.R_below (uR HO_1.out) hb); have n1_ := Aside0.mk (Kd.R_elder' (uR HO202.out) (Kd.R_base ho0) hb); have n2_ := Aside0.mk (Kd.R_elder' (uR HO208.out) (Kd.R_base ho0) hb); have n3_ := Aside0.mk (Kd.R_lower (Kd.R_new' (Kd.R_new' ho0 (Kd.R_lt (uR HO202.out))) (Kd.R_lt (uR HO208.out))) (below_size (uB HB.out))); have n4_ := Aside0.mk (below_step (uB HB.out) hb); clear HO_1; clear HO202; clear HO208; clear HB; have HO_1 := n0_; have HO202 := n1_; have HO208 := n2_; have HO211 := n3_; have HB := n4_; clear n0_ n1_ n2_ n3_ n4_; (try clear hb); (try clear hb2); (try clear hk); (try clear hi); (try clear ho0)) | ((with_reducible refine gate_dst (N := 5) rfl ?_); (try (refine gate_guard (by rfl) ?_; dsimp only)); refine box_event ?hg (N := 5) ?hd (cs := #[.string (⟨#[]⟩ : ByteArray), .int .i64 0, .int .i64 0, .int .i64 0, .int .i64 0, .int .i64 0, .int .i64 0, .string (⟨#[]⟩ : ByteArray)]) (t := 45) ?hr ?_; (case hd => rfl); (case hg => rfl); (case hr => first | (go_simp; done) | (go_simp; rfl)); intro gb212 hg w51 hbox hb; have n0_ := Aside0.mk (Kd.R_below (uR HO_1.out) hb); have n1_ := Aside0.mk (Kd.R_below (uR HO202.out) hb); have n2_ := Aside0.mk (Kd.R_below (uR HO208.out) hb); have n3_ := Aside0.mk (Kd.R_below (uR HO211.out) hb); have n4_ := Aside0.mk (below_step (uB HB.out) hb); have n5_ := Aside0.mk (hbox); have n6_ := Aside0.mk ((by rw [hg]; exact (below_size (uB HB.out)) : w.heap.size ≤ gb212)); have n7_ := Aside0.mk ((by rw [hg]; exact (below_size (uB HB.out)) : w.heap.size ≤ gb212)); clear HO_1; clear HO202; clear HO208; clear HO211; clear HB; have HO_1 := n0_; have HO202 := n1_; have HO208 := n2_; have HO211 := n3_; have HB := n4_; have BK212 := n5_; have GW212 := n6_; have GE212 := n7_; clear n0_ n1_ n2_ n3_ n4_ n5_ n6_ n7_; clear hb hbox hg; have hcz52_0 : w51.cell? ⟨gb212, 0, none⟩ = some (.string (⟨#[]⟩ : ByteArray)) := (blk_cell BK212.out 0).trans rfl; have hcz52_1 : w51.cell? ⟨gb212, 1, none⟩ = some (.int .i64 0) := (blk_cell BK212.out 1).trans rfl; have hcz52_2 : w51.cell? ⟨gb212, 2, none⟩ = some (.int .i64 0) := (blk_cell BK212.out 2).trans rfl; have hcz52_3 : w51.cell? ⟨gb212, 3, none⟩ = some (.int .i64 0) := (blk_cell BK212.out 3).trans rfl; have hcz52_4 : w51.cell? ⟨gb212, 4, none⟩ = some (.int .i64 0) := (blk_cell BK212.out 4).trans rfl; have hcz52_5 : w51.cell? ⟨gb212, 5, none⟩ = some (.int .i64 0) := (blk_cell BK212.out 5).trans rfl; have hcz52_6 : w51.cell? ⟨gb212, 6, none⟩ = some (.int .i64 0) := (blk_cell BK212.out 6).trans rfl; have hcz52_7 : w51.cell? ⟨gb212, 7, none⟩ = some (.string (⟨#[]⟩ : ByteArray)) := (blk_cell BK212.out 7).trans rfl; have hfz52_0 := blk_frozen BK212.out 0; have hfz52_1 := blk_frozen BK212.out 1; have hfz52_2 := blk_frozen BK212.out 2; have hfz52_3 := blk_frozen BK212.out 3; have hfz52_4 := blk_frozen BK212.out 4; have hfz52_5 := blk_frozen BK212.out 5; have hfz52_6 := blk_frozen BK212.out 6; have hfz52_7 := blk_frozen BK212.out 7) | ((with_reducible refine gate_dst (N := 6) rfl ?_); (try (refine gate_guard (by rfl) ?_; dsimp only)); refine box_event ?hg (N := 6) ?hd (cs := #[.string (⟨#[]⟩ : ByteArray), .int .i64 0, .int .i64 0, .int .i64 0, .int .i64 0, .int .i64 0, .int .i64 0, .string (⟨#[]⟩ : ByteArray)]) (t := 45) ?hr ?_; (case hd => rfl); (case hg => rfl); (case hr => first | (go_simp; done) | (go_simp; rfl)); intro gb213 hg w53 hbox hb; have n0_ := Aside0.mk (Kd.R_below (by (with_reducible repeat (first | apply Kd.R_alloc | apply Kd.R_drewN | apply Kd.R_drew)); exact (Kd.R_mono (Kd.R_far (p := ⟨gb212, 7, none⟩) (Kd.R_far (p := ⟨gb212, 6, none⟩) (Kd.R_far (p := ⟨gb212, 5, none⟩) (Kd.R_far (p := ⟨gb212, 4, none⟩) (Kd.R_far (p := ⟨gb212, 3, none⟩) (Kd.R_far (p := ⟨gb212, 2, none⟩) (Kd.R_far (p := ⟨gb212, 1, none⟩) (Kd.R_far (p := ⟨gb212, 0, none⟩) (Kd.R_types HO_1.out BK212.out (by decide)) (fun _ hk => hk.2) (.string (⟨#[65]⟩ : ByteArray))) (fun _ hk => hk.2) (.int .i64 0)) (fun _ hk => hk.2) (.int .i64 0)) (fun _ hk => hk.2) (.int .i64 315532800)) (fun _ hk => hk.2) (.int .i64 0)) (fun _ hk => hk.2) (.int .i64 0)) (fun _ hk => hk.2) (.int .i64 0)) (fun _ hk => hk.2) (.string (⟨#[]⟩ : ByteArray))) (fun _ h_ => h_.1))) hb); have n1_ := Aside0.mk (Kd.R_below (by (with_reducible repeat (first | apply Kd.R_alloc | apply Kd.R_drewN | apply Kd.R_drew)); exact (Kd.R_mono (Kd.R_far (p := ⟨gb212, 7, none⟩) (Kd.R_far (p := ⟨gb212, 6, none⟩) (Kd.R_far (p := ⟨gb212, 5, none⟩) (Kd.R_far (p := ⟨gb212, 4, none⟩) (Kd.R_far (p := ⟨gb212, 3, none⟩) (Kd.R_far (p := ⟨gb212, 2, none⟩) (Kd.R_far (p := ⟨gb212, 1, none⟩) (Kd.R_far (p := ⟨gb212, 0, none⟩) (Kd.R_types HO202.out BK212.out (by decide)) (fun _ hk => hk.2) (.string (⟨#[65]⟩ : ByteArray))) (fun _ hk => hk.2) (.int .i64 0)) (fun _ hk => hk.2) (.int .i64 0)) (fun _ hk => hk.2) (.int .i64 315532800)) (fun _ hk => hk.2) (.int .i64 0)) (fun _ hk => hk.2) (.int .i64 0)) (fun _ hk => hk.2) (.int .i64 0)) (fun _ hk => hk.2) (.string (⟨#[]⟩ : ByteArray))) (fun _ h_ => h_.1))) hb); have n2_ := Aside0.mk (Kd.R_below (by (with_reducible repeat (first | apply Kd.R_alloc | apply Kd.R_drewN | apply Kd.R_drew)); exact (Kd.R_mono (Kd.R_far (p := ⟨gb212, 7, none⟩) (Kd.R_far (p := ⟨gb212, 6, none⟩) (Kd.R_far (p := ⟨gb212, 5, none⟩) (Kd.R_far (p := ⟨gb212, 4, none⟩) (Kd.R_far (p := ⟨gb212, 3, none⟩) (Kd.R_far (p := ⟨gb212, 2, none⟩) (Kd.R_far (p := ⟨gb212, 1, none⟩) (Kd.R_far (p := ⟨gb212, 0, none⟩) (Kd.R_types HO208.out BK212.out (by decide)) (fun _ hk => hk.2) (.string (⟨#[65]⟩ : ByteArray))) (fun _ hk => hk.2) (.int .i64 0)) (fun _ hk => hk.2) (.int .i64 0)) (fun _ hk => hk.2) (.int .i64 315532800)) (fun _ hk => hk.2) (.int .i64 0)) (fun _ hk => hk.2) (.int .i64 0)) (fun _ hk => hk.2) (.int .i64 0)) (fun _ hk => hk.2) (.string (⟨#[]⟩ : ByteArray))) (fun _ h_ => h_.1))) hb); have n3_ := Aside0.mk (Kd.R_below (by (with_reducible repeat (first | apply Kd.R_alloc | apply Kd.R_drewN | apply Kd.R_drew)); exact (Kd.R_mono (Kd.R_far (p := ⟨gb212, 7, none⟩) (Kd.R_far (p := ⟨gb212, 6, none⟩) (Kd.R_far (p := ⟨gb212, 5, none⟩) (Kd.R_far (p := ⟨gb212, 4, none⟩) (Kd.R_far (p := ⟨gb212, 3, none⟩) (Kd.R_far (p := ⟨gb212, 2, none⟩) (Kd.R_far (p := ⟨gb212, 1, none⟩) (Kd.R_far (p := ⟨gb212, 0, none⟩) (Kd.R_types HO211.out BK212.out (by decide)) (fun _ hk => hk.2) (.string (⟨#[65]⟩ : ByteArray))) (fun _ hk => hk.2) (.int .i64 0)) (fun _ hk => hk.2) (.int .i64 0)) (fun _ hk => hk.2) (.int .i64 315532800)) (fun _ hk => hk.2) (.int .i64 0)) (fun _ hk => hk.2) (.int .i64 0)) (fun _ hk => hk.2) (.int .i64 0)) (fun _ hk => hk.2) (.string (⟨#[]⟩ : ByteArray))) (fun _ h_ => h_.1))) hb); have n4_ := Aside0.mk (blk_below (g := gb212) (o := .cells #[.string (⟨#[65]⟩ : ByteArray), .int .i64 0, .int .i64 0, .int .i64 315532800, .int .i64 0, .int .i64 0, .int .i64 0, .string (⟨#[]⟩ : ByteArray)] 45 (0, 0)) (by (with_reducible repeat (first | refine blk_drewN ?_ _ | refine blk_drew ?_ | refine blk_alloc ?_ _)); refine blk_put (cs := #[.string (⟨#[65]⟩ : ByteArray), .int .i64 0, .int .i64 0, .int .i64 315532800, .int .i64 0, .int .i64 0, .int .i64 0, .string (⟨#[]⟩ : ByteArray)]) ?_ 7 _ rfl; (with_reducible repeat (first | refine blk_drewN ?_ _ | refine blk_drew ?_ | refine blk_alloc ?_ _)); refine blk_put (cs := #[.string (⟨#[65]⟩ : ByteArray), .int .i64 0, .int .i64 0, .int .i64 315532800, .int .i64 0, .int .i64 0, .int .i64 0, .string (⟨#[]⟩ : ByteArray)]) ?_ 6 _ rfl; (with_reducible repeat (first | refine blk_drewN ?_ _ | refine blk_drew ?_ | refine blk_alloc ?_ _)); refine blk_put (cs := #[.string (⟨#[65]⟩ : ByteArray), .int .i64 0, .int .i64 0, .int .i64 315532800, .int .i64 0, .int .i64 0, .int .i64 0, .string (⟨#[]⟩ : ByteArray)]) ?_ 5 _ rfl; (with_reducible repeat (first | refine blk_drewN ?_ _ | refine blk_drew ?_ | refine blk_alloc ?_ _)); refine blk_put (cs := #[.string (⟨#[65]⟩ : ByteArray), .int .i64 0, .int .i64 0, .int .i64 315532800, .int .i64 0, .int .i64 0, .int .i64 0, .string (⟨#[]⟩ : ByteArray)]) ?_ 4 _ rfl; (with_reducible repeat (first | refine blk_drewN ?_ _ | refine blk_drew ?_ | refine blk_alloc ?_ _)); refine blk_put (cs := #[.string (⟨#[65]⟩ : ByteArray), .int .i64 0, .int .i64 0, .int .i64 0, .int .i64 0, .int .i64 0, .int .i64 0, .string (⟨#[]⟩ : ByteArray)]) ?_ 3 _ rfl; (with_reducible repeat (first | refine blk_drewN ?_ _ | refine blk_drew ?_ | refine blk_alloc ?_ _)); refine blk_put (cs := #[.string (⟨#[65]⟩ : ByteArray), .int .i64 0, .int .i64 0, .int .i64 0, .int .i64 0, .int .i64 0, .int .i64 0, .string (⟨#[]⟩ : ByteArray)]) ?_ 2 _ rfl; (with_reducible repeat (first | refine blk_drewN ?_ _ | refine blk_drew ?_ | refine blk_alloc ?_ _)); refine blk_put (cs := #[.string (⟨#[65]⟩ : ByteArray), .int .i64 0, .int .i64 0, .int .i64 0, .int .i64 0, .int .i64 0, .int .i64 0, .string (⟨#[]⟩ : ByteArray)]) ?_ 1 _ rfl; (with_reducible repeat (first | refine blk_drewN ?_ _ | refine blk_drew ?_ | refine blk_alloc ?_ _)); refine blk_put (cs := #[.string (⟨#[]⟩ : ByteArray), .int .i64 0, .int .i64 0, .int .i64 0, .int .i64 0, .int .i64 0, .int .i64 0, .string (⟨#[]⟩ : ByteArray)]) ?_ 0 _ rfl; (with_reducible repeat (first | refine blk_drewN ?_ _ | refine blk_drew ?_ | refine blk_alloc ?_ _)); exact BK212.out) hb); have n5_ := Aside0.mk (below_step (by repeat (first | (with_reducible first | exact HB.out | apply below_alloc | apply pw_below_drewN | apply below_drew1 | refine below_set ?_ GE212.out) | exact HB.out)) hb); have n6_ := Aside0.mk (hbox); have n7_ := Aside0.mk ((by rw [hg]; exact (below_size (by repeat (first | (with_reducible first | exact HB.out | apply below_alloc | apply pw_below_drewN | apply below_drew1 | refine below_set ?_ GE212.out) | exact HB.out))) : w.heap.size ≤ gb213)); have n8_ := Aside0.mk ((by rw [hg]; exact (below_size (by repeat (first | (with_reducible first | exact HB.out | apply below_alloc | apply pw_below_drewN | apply below_drew1 | refine below_set ?_ GE212.out) | exact HB.out))) : w.heap.size ≤ gb213)); have n9_ := Aside0.mk ((by rw [hg]; exact Nat.ne_of_lt (blk_lt (g := gb212) (o := .cells #[.string (⟨#[65]⟩ : ByteArray), .int .i64 0, .int .i64 0, .int .i64 315532800, .int .i64 0, .int .i64 0, .int .i64 0, .string (⟨#[]⟩ : ByteArray)] 45 (0, 0)) (by (with_reducible repeat (first | refine blk_drewN ?_ _ | refine blk_drew ?_ | refine blk_alloc ?_ _)); refine blk_put (cs := #[.string (⟨#[65]⟩ : ByteArray), .int .i64 0, .int .i64 0, .int .i64 315532800, .int .i64 0, .int .i64 0, .int .i64 0, .string (⟨#[]⟩ : ByteArray)]) ?_ 7 _ rfl; (with_reducible repeat (first | refine blk_drewN ?_ _ | refine blk_drew ?_ | refine blk_alloc ?_ _)); refine blk_put (cs := #[.string (⟨#[65]⟩ : ByteArray), .int .i64 0, .int .i64 0, .int .i64 315532800, .int .i64 0, .int .i64 0, .int .i64 0, .string (⟨#[]⟩ : ByteArray)]) ?_ 6 _ rfl; (with_reducible repeat (first | refine blk_drewN ?_ _ | refine blk_drew ?_ | refine blk_alloc ?_ _)); refine blk_put (cs := #[.string (⟨#[65]⟩ : ByteArray), .int .i64 0, .int .i64 0, .int .i64 315532800, .int .i64 0, .int .i64 0, .int .i64 0, .string (⟨#[]⟩ : ByteArray)]) ?_ 5 _ rfl; (with_reducible repeat (first | refine blk_drewN ?_ _ | refine blk_drew ?_ | refine blk_alloc ?_ _)); refine blk_put (cs := #[.string (⟨#[65]⟩ : ByteArray), .int .i64 0, .int .i64 0, .int .i64 315532800, .int .i64 0, .int .i64 0, .int .i64 0, .string (⟨#[]⟩ : ByteArray)]) ?_ 4 _ rfl; (with_reducible repeat (first | refine blk_drewN ?_ _ | refine blk_drew ?_ | refine blk_alloc ?_ _)); refine blk_put (cs := #[.string (⟨#[65]⟩ : ByteArray), .int .i64 0, .int .i64 0, .int .i64 0, .int .i64 0, .int .i64 0, .int .i64 0, .string (⟨#[]⟩ : ByteArray)]) ?_ 3 _ rfl; (with_reducible repeat (first | refine blk_drewN ?_ _ | refine blk_drew ?_ | refine blk_alloc ?_ _)); refine blk_put (cs := #[.string (⟨#[65]⟩ : ByteArray), .int .i64 0, .int .i64 0, .int .i64 0, .int .i64 0, .int .i64 0, .int .i64 0, .string (⟨#[]⟩ : ByteArray)]) ?_ 2 _ rfl; (with_reducible repeat (first | refine blk_drewN ?_ _ | refine blk_drew ?_ | refine blk_alloc ?_ _)); refine blk_put (cs := #[.string (⟨#[65]⟩ : ByteArray), .int .i64 0, .int .i64 0, .int .i64 0, .int .i64 0, .int .i64 0, .int .i64 0, .string (⟨#[]⟩ : ByteArray)]) ?_ 1 _ rfl; (with_reducible repeat (first | refine blk_drewN ?_ _ | refine blk_drew ?_ | refine blk_alloc ?_ _)); refine blk_put (cs := #[.string (⟨#[]⟩ : ByteArray), .int .i64 0, .int .i64 0, .int .i64 0, .int .i64 0, .int .i64 0, .int .i64 0, .string (⟨#[]⟩ : ByteArray)]) ?_ 0 _ rfl; (with_reducible repeat (first | refine blk_drewN ?_ _ | refine blk_drew ?_ | refine blk_alloc ?_ _)); exact BK212.out)) : gb212 ≠ gb213)); have n10_ := Aside0.mk ((by rw [hg]; exact Nat.ne_of_gt (blk_lt (g := gb212) (o := .cells #[.string (⟨#[65]⟩ : ByteArray), .int .i64 0, .int .i64 0, .int .i64 315532800, .int .i64 0, .int .i64 0, .int .i64 0, .string (⟨#[]⟩ : ByteArray)] 45 (0, 0)) (by (with_reducible repeat (first | refine blk_drewN ?_ _ | refine blk_drew ?_ | refine blk_alloc ?_ _)); refine blk_put (cs := #[.string (⟨#[65]⟩ : ByteArray), .int .i64 0, .int .i64 0, .int .i64 315532800, .int .i64 0, .int .i64 0, .int .i64 0, .string (⟨#[]⟩ : ByteArray)]) ?_ 7 _ rfl; (with_reducible repeat (first | refine blk_drewN ?_ _ | refine blk_drew ?_ | refine blk_alloc ?_ _)); refine blk_put (cs := #[.string (⟨#[65]⟩ : ByteArray), .int .i64 0, .int .i64 0, .int .i64 315532800, .int .i64 0, .int .i64 0, .int .i64 0, .string (⟨#[]⟩ : ByteArray)]) ?_ 6 _ rfl; (with_reducible repeat (first | refine blk_drewN ?_ _ | refine blk_drew ?_ | refine blk_alloc ?_ _)); refine blk_put (cs := #[.string (⟨#[65]⟩ : ByteArray), .int .i64 0, .int .i64 0, .int .i64 315532800, .int .i64 0, .int .i64 0, .int .i64 0, .string (⟨#[]⟩ : ByteArray)]) ?_ 5 _ rfl; (with_reducible repeat (first | refine blk_drewN ?_ _ | refine blk_drew ?_ | refine blk_alloc ?_ _)); refine blk_put (cs := #[.string (⟨#[65]⟩ : ByteArray), .int .i64 0, .int .i64 0, .int .i64 315532800, .int .i64 0, .int .i64 0, .int .i64 0, .string (⟨#[]⟩ : ByteArray)]) ?_ 4 _ rfl; (with_reducible repeat (first | refine blk_drewN ?_ _ | refine blk_drew ?_ | refine blk_alloc ?_ _)); refine blk_put (cs := #[.string (⟨#[65]⟩ : ByteArray), .int .i64 0, .int .i64 0, .int .i64 0, .int .i64 0, .int .i64 0, .int .i64 0, .string (⟨#[]⟩ : ByteArray)]) ?_ 3 _ rfl; (with_reducible repeat (first | refine blk_drewN ?_ _ | refine blk_drew ?_ | refine blk_alloc ?_ _)); refine blk_put (cs := #[.string (⟨#[65]⟩ : ByteArray), .int .i64 0, .int .i64 0, .int .i64 0, .int .i64 0, .int .i64 0, .int .i64 0, .string (⟨#[]⟩ : ByteArray)]) ?_ 2 _ rfl; (with_reducible repeat (first | refine blk_drewN ?_ _ | refine blk_drew ?_ | refine blk_alloc ?_ _)); refine blk_put (cs := #[.string (⟨#[65]⟩ : ByteArray), .int .i64 0, .int .i64 0, .int .i64 0, .int .i64 0, .int .i64 0, .int .i64 0, .string (⟨#[]⟩ : ByteArray)]) ?_ 1 _ rfl; (with_reducible repeat (first | refine blk_drewN ?_ _ | refine blk_drew ?_ | refine blk_alloc ?_ _)); refine blk_put (cs := #[.string (⟨#[]⟩ : ByteArray), .int .i64 0, .int .i64 0, .int .i64 0, .int .i64 0, .int .i64 0, .int .i64 0, .string (⟨#[]⟩ : ByteArray)]) ?_ 0 _ rfl; (with_reducible repeat (first | refine blk_drewN ?_ _ | refine blk_drew ?_ | refine blk_alloc ?_ _)); exact BK212.out)) : gb213 ≠ gb212)); clear HO_1; clear HO202; clear HO208; clear HO211; clear BK212; clear HB; have HO_1 := n0_; have HO202 := n1_; have HO208 := n2_; have HO211 := n3_; have BK212 := n4_; have HB := n5_; have BK213 := n6_; have GW213 := n7_; have GE213 := n8_; have NB212_213 := n9_; have NB213_212 := n10_; clear n0_ n1_ n2_ n3_ n4_ n5_ n6_ n7_ n8_ n9_ n10_; clear hb hbox hg; have hnb54 := NB213_212.out; have hnc54 := NB212_213.out; have hcz55_0 : w53.cell? ⟨gb213, 0, none⟩ = some (.string (⟨#[]⟩ : ByteArray)) := (blk_cell BK213.out 0).trans rfl; have hcz55_1 : w53.cell? ⟨gb213, 1, none⟩ = some (.int .i64 0) := (blk_cell BK213.out 1).trans rfl; have hcz55_2 : w53.cell? ⟨gb213, 2, none⟩ = some (.int .i64 0) := (blk_cell BK213.out 2).trans rfl; have hcz55_3 : w53.cell? ⟨gb213, 3, none⟩ = some (.int .i64 0) := (blk_cell BK213.out 3).trans rfl; have hcz55_4 : w53.cell? ⟨gb213, 4, none⟩ = some (.int .i64 0) := (blk_cell BK213.out 4).trans rfl; have hcz55_5 : w53.cell? ⟨gb213, 5, none⟩ = some (.int .i64 0) := (blk_cell BK213.out 5).trans rfl; have hcz55_6 : w53.cell? ⟨gb213, 6, none⟩ = some (.int .i64 0) := (blk_cell BK213.out 6).trans rfl; have hcz55_7 : w53.cell? ⟨gb213, 7, none⟩ = some (.string (⟨#[]⟩ : ByteArray)) := (blk_cell BK213.out 7).trans rfl; have hfz55_0 := blk_frozen BK213.out 0; have hfz55_1 := blk_frozen BK213.out 1; have hfz55_2 := blk_frozen BK213.out 2; have hfz55_3 := blk_frozen BK213.out 3; have hfz55_4 := blk_frozen BK213.out 4; have hfz55_5 := blk_frozen BK213.out 5; have hfz55_6 := blk_frozen BK213.out 6; have hfz55_7 := blk_frozen BK213.out 7; have hcz56_0 : w53.cell? ⟨gb212, 0, none⟩ = some (.string (⟨#[65]⟩ : ByteArray)) := (blk_cell BK212.out 0).trans rfl; have hcz56_1 : w53.cell? ⟨gb212, 1, none⟩ = some (.int .i64 0) := (blk_cell BK212.out 1).trans rfl; have hcz56_2 : w53.cell? ⟨gb212, 2, none⟩ = some (.int .i64 0) := (blk_cell BK212.out 2).trans rfl; have hcz56_3 : w53.cell? ⟨gb212, 3, none⟩ = some (.int .i64 315532800) := (blk_cell BK212.out 3).trans rfl; have hcz56_4 : w53.cell? ⟨gb212, 4, none⟩ = some (.int .i64 0) := (blk_cell BK212.out 4).trans rfl; have hcz56_5 : w53.cell? ⟨gb212, 5, none⟩ = some (.int .i64 0) := (blk_cell BK212.out 5).trans rfl; have hcz56_6 : w53.cell? ⟨gb212, 6, none⟩ = some (.int .i64 0) := (blk_cell BK212.out 6).trans rfl; have hcz56_7 : w53.cell? ⟨gb212, 7, none⟩ = some (.string (⟨#[]⟩ : ByteArray)) := (blk_cell BK212.out 7).trans rfl; have hfz56_0 := blk_frozen BK212.out 0; have hfz56_1 := blk_frozen BK212.out 1; have hfz56_2 := blk_frozen BK212.out 2; have hfz56_3 := blk_frozen BK212.out 3; have hfz56_4 := blk_frozen BK212.out 4; have hfz56_5 := blk_frozen BK212.out 5; have hfz56_6 := blk_frozen BK212.out 6; have hfz56_7 := blk_frozen BK212.out 7) | ((with_reducible refine gate_dst (N := 57) rfl ?_); (try (refine gate_guard (by rfl) ?_; dsimp only)); refine Kd.R_lit k45 _ 45 ?hg (N := 57) ?hd (xs := ([(⟨(⟨#[0]⟩ : ByteArray), 0, 0, 315532800, 0, 0, 0, (⟨#[]⟩ : ByteArray)⟩ : S45), (⟨(⟨#[65]⟩ : ByteArray), 0, 0, 315532800, 0, 0, 0, (⟨#[]⟩ : ByteArray)⟩ : S45)] : List (S45))) (inner := [.string (⟨#[0]⟩ : ByteArray), .int .i64 0, .int .i64 0, .int .i64 315532800, .int .i64 0, .int .i64 0, .int .i64 0, .string (⟨#[]⟩ : ByteArray), .string (⟨#[65]⟩ : ByteArray), .int .i64 0, .int .i64 0, .int .i64 315532800, .int .i64 0, .int .i64 0, .int .i64 0, .string (⟨#[]⟩ : ByteArray)]) (ok := fun _ => True) (okp := fun _ => True) ?hr ?hp (fun _ hk => hk) trivial (Below.refl _ _) (Nat.le_refl _) (by simp) ?_; (case hd => rfl); (case hg => rfl); (case hr => first | (go_simp; done) | (go_simp; rfl)); (case hp => exact (Reps.c8 (show Kd.M k45 _ _ _ (⟨(⟨#[0]⟩ : ByteArray), 0, 0, 315532800, 0, 0, 0, (⟨#[]⟩ : ByteArray)⟩ : S45) [.string (⟨#[0]⟩ : ByteArray), .int .i64 0, .int .i64 0, .int .i64 315532800, .int .i64 0, .int .i64 0, .int .i64 0, .string (⟨#[]⟩ : ByteArray)] from (k45_mkM _ _ _ (⟨(⟨#[0]⟩ : ByteArray), 0, 0, 315532800, 0, 0, 0, (⟨#[]⟩ : ByteArray)⟩ : S45) )) (Reps.c8 (show Kd.M k45 _ _ _ (⟨(⟨#[65]⟩ : ByteArray), 0, 0, 315532800, 0, 0, 0, (⟨#[]⟩ : ByteArray)⟩ : S45) [.string (⟨#[65]⟩ : ByteArray), .int .i64 0, .int .i64 0, .int .i64 315532800, .int .i64 0, .int .i64 0, .int .i64 0, .string (⟨#[]⟩ : ByteArray)] from (k45_mkM _ _ _ (⟨(⟨#[65]⟩ : ByteArray), 0, 0, 315532800, 0, 0, 0, (⟨#[]⟩ : ByteArray)⟩ : S45) )) (Reps.none _ _)))); intro v215 w57 ho58 hb hg_ hnew_; clear hg_ hnew_; (first | rw [← Ny214.out] at ho58 | (simp only [Int.reduceToNat] at ho58; rw [← Ny214.out] at ho58)); have n0_ := Aside0.mk (Kd.R_below (by (with_reducible repeat (first | apply Kd.R_alloc | apply Kd.R_drewN | apply Kd.R_drew)); exact (Kd.R_mono (Kd.R_far (p := ⟨gb213, 7, none⟩) (Kd.R_far (p := ⟨gb213, 6, none⟩) (Kd.R_far (p := ⟨gb213, 5, none⟩) (Kd.R_far (p := ⟨gb213, 4, none⟩) (Kd.R_far (p := ⟨gb213, 3, none⟩) (Kd.R_far (p := ⟨gb213, 2, none⟩) (Kd.R_far (p := ⟨gb213, 1, none⟩) (Kd.R_far (p := ⟨gb213, 0, none⟩) (Kd.R_types HO_1.out BK213.out (by decide)) (fun _ hk => hk.2) (.string (⟨#[0]⟩ : ByteArray))) (fun _ hk => hk.2) (.int .i64 0)) (fun _ hk => hk.2) (.int .i64 0)) (fun _ hk => hk.2) (.int .i64 315532800)) (fun _ hk => hk.2) (.int .i64 0)) (fun _ hk => hk.2) (.int .i64 0)) (fun _ hk => hk.2) (.int .i64 0)) (fun _ hk => hk.2) (.string (⟨#[]⟩ : ByteArray))) (fun _ h_ => h_.1))) hb); have n1_ := Aside0.mk (Kd.R_below (by (with_reducible repeat (first | apply Kd.R_alloc | apply Kd.R_drewN | apply Kd.R_drew)); exact (Kd.R_mono (Kd.R_far (p := ⟨gb213, 7, none⟩) (Kd.R_far (p := ⟨gb213, 6, none⟩) (Kd.R_far (p := ⟨gb213, 5, none⟩) (Kd.R_far (p := ⟨gb213, 4, none⟩) (Kd.R_far (p := ⟨gb213, 3, none⟩) (Kd.R_far (p := ⟨gb213, 2, none⟩) (Kd.R_far (p := ⟨gb213, 1, none⟩) (Kd.R_far (p := ⟨gb213, 0, none⟩) (Kd.R_types HO202.out BK213.out (by decide)) (fun _ hk => hk.2) (.string (⟨#[0]⟩ : ByteArray))) (fun _ hk => hk.2) (.int .i64 0)) (fun _ hk => hk.2) (.int .i64 0)) (fun _ hk => hk.2) (.int .i64 315532800)) (fun _ hk => hk.2) (.int .i64 0)) (fun _ hk => hk.2) (.int .i64 0)) (fun _ hk => hk.2) (.int .i64 0)) (fun _ hk => hk.2) (.string (⟨#[]⟩ : ByteArray))) (fun _ h_ => h_.1))) hb); have n2_ := Aside0.mk (Kd.R_below (by (with_reducible repeat (first | apply Kd.R_alloc | apply Kd.R_drewN | apply Kd.R_drew)); exact (Kd.R_mono (Kd.R_far (p := ⟨gb213, 7, none⟩) (Kd.R_far (p := ⟨gb213, 6, none⟩) (Kd.R_far (p := ⟨gb213, 5, none⟩) (Kd.R_far (p := ⟨gb213, 4, none⟩) (Kd.R_far (p := ⟨gb213, 3, none⟩) (Kd.R_far (p := ⟨gb213, 2, none⟩) (Kd.R_far (p := ⟨gb213, 1, none⟩) (Kd.R_far (p := ⟨gb213, 0, none⟩) (Kd.R_types HO208.out BK213.out (by decide)) (fun _ hk => hk.2) (.string (⟨#[0]⟩ : ByteArray))) (fun _ hk => hk.2) (.int .i64 0)) (fun _ hk => hk.2) (.int .i64 0)) (fun _ hk => hk.2) (.int .i64 315532800)) (fun _ hk => hk.2) (.int .i64 0)) (fun _ hk => hk.2) (.int .i64 0)) (fun _ hk => hk.2) (.int .i64 0)) (fun _ hk => hk.2) (.string (⟨#[]⟩ : ByteArray))) (fun _ h_ => h_.1))) hb); have n3_ := Aside0.mk (Kd.R_below (by (with_reducible repeat (first | apply Kd.R_alloc | apply Kd.R_drewN | apply Kd.R_drew)); exact (Kd.R_mono (Kd.R_far (p := ⟨gb213, 7, none⟩) (Kd.R_far (p := ⟨gb213, 6, none⟩) (Kd.R_far (p := ⟨gb213, 5, none⟩) (Kd.R_far (p := ⟨gb213, 4, none⟩) (Kd.R_far (p := ⟨gb213, 3, none⟩) (Kd.R_far (p := ⟨gb213, 2, none⟩) (Kd.R_far (p := ⟨gb213, 1, none⟩) (Kd.R_far (p := ⟨gb213, 0, none⟩) (Kd.R_types HO211.out BK213.out (by decide)) (fun _ hk => hk.2) (.string (⟨#[0]⟩ : ByteArray))) (fun _ hk => hk.2) (.int .i64 0)) (fun _ hk => hk.2) (.int .i64 0)) (fun _ hk => hk.2) (.int .i64 315532800)) (fun _ hk => hk.2) (.int .i64 0)) (fun _ hk => hk.2) (.int .i64 0)) (fun _ hk => hk.2) (.int .i64 0)) (fun _ hk => hk.2) (.string (⟨#[]⟩ : ByteArray))) (fun _ h_ => h_.1))) hb); have n4_ := Aside0.mk (Kd.R_lower (Kd.R_newB (Kd.R_newB ho58 (g := gb212) (o := .cells #[.string (⟨#[65]⟩ : ByteArray), .int .i64 0, .int .i64 0, .int .i64 315532800, .int .i64 0, .int .i64 0, .int .i64 0, .string (⟨#[]⟩ : ByteArray)] 45 (0, 0)) (by (with_reducible repeat (first | refine blk_drewN ?_ _ | refine blk_drew ?_ | refine blk_alloc ?_ _)); refine blk_far ?_ NB212_213.out _; (with_reducible repeat (first | refine blk_drewN ?_ _ | refine blk_drew ?_ | refine blk_alloc ?_ _)); refine blk_far ?_ NB212_213.out _; (with_reducible repeat (first | refine blk_drewN ?_ _ | refine blk_drew ?_ | refine blk_alloc ?_ _)); refine blk_far ?_ NB212_213.out _; (with_reducible repeat (first | refine blk_drewN ?_ _ | refine blk_drew ?_ | refine blk_alloc ?_ _)); refine blk_far ?_ NB212_213.out _; (with_reducible repeat (first | refine blk_drewN ?_ _ | refine blk_drew ?_ | refine blk_alloc ?_ _)); refine blk_far ?_ NB212_213.out _; (with_reducible repeat (first | refine blk_drewN ?_ _ | refine blk_drew ?_ | refine blk_alloc ?_ _)); refine blk_far ?_ NB212_213.out _; (with_reducible repeat (first | refine blk_drewN ?_ _ | refine blk_drew ?_ | refine blk_alloc ?_ _)); refine blk_far ?_ NB212_213.out _; (with_reducible repeat (first | refine blk_drewN ?_ _ | refine blk_drew ?_ | refine blk_alloc ?_ _)); refine blk_far ?_ NB212_213.out _; (with_reducible repeat (first | refine blk_drewN ?_ _ | refine blk_drew ?_ | refine blk_alloc ?_ _)); exact BK212.out)) (g := gb213) (o := .cells #[.string (⟨#[0]⟩ : ByteArray), .int .i64 0, .int .i64 0, .int .i64 315532800, .int .i64 0, .int .i64 0, .int .i64 0, .string (⟨#[]⟩ : ByteArray)] 45 (0, 0)) (by (with_reducible repeat (first | refine blk_drewN ?_ _ | refine blk_drew ?_ | refine blk_alloc ?_ _)); refine blk_put (cs := #[.string (⟨#[0]⟩ : ByteArray), .int .i64 0, .int .i64 0, .int .i64 315532800, .int .i64 0, .int .i64 0, .int .i64 0, .string (⟨#[]⟩ : ByteArray)]) ?_ 7 _ rfl; (with_reducible repeat (first | refine blk_drewN ?_ _ | refine blk_drew ?_ | refine blk_alloc ?_ _)); refine blk_put (cs := #[.string (⟨#[0]⟩ : ByteArray), .int .i64 0, .int .i64 0, .int .i64 315532800, .int .i64 0, .int .i64 0, .int .i64 0, .string (⟨#[]⟩ : ByteArray)]) ?_ 6 _ rfl; (with_reducible repeat (first | refine blk_drewN ?_ _ | refine blk_drew ?_ | refine blk_alloc ?_ _)); refine blk_put (cs := #[.string (⟨#[0]⟩ : ByteArray), .int .i64 0, .int .i64 0, .int .i64 315532800, .int .i64 0, .int .i64 0, .int .i64 0, .string (⟨#[]⟩ : ByteArray)]) ?_ 5 _ rfl; (with_reducible repeat (first | refine blk_drewN ?_ _ | refine blk_drew ?_ | refine blk_alloc ?_ _)); refine blk_put (cs := #[.string (⟨#[0]⟩ : ByteArray), .int .i64 0, .int .i64 0, .int .i64 315532800, .int .i64 0, .int .i64 0, .int .i64 0, .string (⟨#[]⟩ : ByteArray)]) ?_ 4 _ rfl; (with_reducible repeat (first | refine blk_drewN ?_ _ | refine blk_drew ?_ | refine blk_alloc ?_ _)); refine blk_put (cs := #[.string (⟨#[0]⟩ : ByteArray), .int .i64 0, .int .i64 0, .int .i64 0, .int .i64 0, .int .i64 0, .int .i64 0, .string (⟨#[]⟩ : ByteArray)]) ?_ 3 _ rfl; (with_reducible repeat (first | refine blk_drewN ?_ _ | refine blk_drew ?_ | refine blk_alloc ?_ _)); refine blk_put (cs := #[.string (⟨#[0]⟩ : ByteArray), .int .i64 0, .int .i64 0, .int .i64 0, .int .i64 0, .int .i64 0, .int .i64 0, .string (⟨#[]⟩ : ByteArray)]) ?_ 2 _ rfl; (with_reducible repeat (first | refine blk_drewN ?_ _ | refine blk_drew ?_ | refine blk_alloc ?_ _)); refine blk_put (cs := #[.string (⟨#[0]⟩ : ByteArray), .int .i64 0, .int .i64 0, .int .i64 0, .int .i64 0, .int .i64 0, .int .i64 0, .string (⟨#[]⟩ : ByteArray)]) ?_ 1 _ rfl; (with_reducible repeat (first | refine blk_drewN ?_ _ | refine blk_drew ?_ | refine blk_alloc ?_ _)); refine blk_put (cs := #[.string (⟨#[]⟩ : ByteArray), .int .i64 0, .int .i64 0, .int .i64 0, .int .i64 0, .int .i64 0, .int .i64 0, .string (⟨#[]⟩ : ByteArray)]) ?_ 0 _ rfl; (with_reducible repeat (first | refine blk_drewN ?_ _ | refine blk_drew ?_ | refine blk_alloc ?_ _)); exact BK213.out)) (below_size (by repeat (first | (with_reducible first | exact HB.out | apply below_alloc | apply pw_below_drewN | apply below_drew1 | refine below_set ?_ GE212.out | refine below_set ?_ GE213.out) | exact HB.out)))); have n5_ := Aside0.mk (blk_below (g := gb212) (o := .cells #[.string (⟨#[65]⟩ : ByteArray), .int .i64 0, .int .i64 0, .int .i64 315532800, .int .i64 0, .int .i64 0, .int .i64 0, .string (⟨#[]⟩ : ByteArray)] 45 (0, 0)) (by (with_reducible repeat (first | refine blk_drewN ?_ _ | refine blk_drew ?_ | refine blk_alloc ?_ _)); refine blk_far ?_ NB212_213.out _; (with_reducible repeat (first | refine blk_drewN ?_ _ | refine blk_drew ?_ | refine blk_alloc ?_ _)); refine blk_far ?_ NB212_213.out _; (with_reducible repeat (first | refine blk_drewN ?_ _ | refine blk_drew ?_ | refine blk_alloc ?_ _)); refine blk_far ?_ NB212_213.out _; (with_reducible repeat (first | refine blk_drewN ?_ _ | refine blk_drew ?_ | refine blk_alloc ?_ _)); refine blk_far ?_ NB212_213.out _; (with_reducible repeat (first | refine blk_drewN ?_ _ | refine blk_drew ?_ | refine blk_alloc ?_ _)); refine blk_far ?_ NB212_213.out _; (with_reducible repeat (first | refine blk_drewN ?_ _ | refine blk_drew ?_ | refine blk_alloc ?_ _)); refine blk_far ?_ NB212_213.out _; (with_reducible repeat (first | refine blk_drewN ?_ _ | refine blk_drew ?_ | refine blk_alloc ?_ _)); refine blk_far ?_ NB212_213.out _; (with_reducible repeat (first | refine blk_drewN ?_ _ | refine blk_drew ?_ | refine blk_alloc ?_ _)); refine blk_far ?_ NB212_213.out _; (with_reducible repeat (first | refine blk_drewN ?_ _ | refine blk_drew ?_ | refine blk_alloc ?_ _)); exact BK212.out) hb); have n6_ := Aside0.mk (blk_below (g := gb213) (o := .cells #[.string (⟨#[0]⟩ : ByteArray), .int .i64 0, .int .i64 0, .int .i64 315532800, .int .i64 0, .int .i64 0, .int .i64 0, .string (⟨#[]⟩ : ByteArray)] 45 (0, 0)) (by (with_reducible repeat (first | refine blk_drewN ?_ _ | refine blk_drew ?_ | refine blk_alloc ?_ _)); refine blk_put (cs := #[.string (⟨#[0]⟩ : ByteArray), .int .i64 0, .int .i64 0, .int .i64 315532800, .int .i64 0, .int .i64 0, .int .i64 0, .string (⟨#[]⟩ : ByteArray)]) ?_ 7 _ rfl; (with_reducible repeat (first | refine blk_drewN ?_ _ | refine blk_drew ?_ | refine blk_alloc ?_ _)); refine blk_put (cs := #[.string (⟨#[0]⟩ : ByteArray), .int .i64 0, .int .i64 0, .int .i64 315532800, .int .i64 0, .int .i64 0, .int .i64 0, .string (⟨#[]⟩ : ByteArray)]) ?_ 6 _ rfl; (with_reducible repeat (first | refine blk_drewN ?_ _ | refine blk_drew ?_ | refine blk_alloc ?_ _)); refine blk_put (cs := #[.string (⟨#[0]⟩ : ByteArray), .int .i64 0, .int .i64 0, .int .i64 315532800, .int .i64 0, .int .i64 0, .int .i64 0, .string (⟨#[]⟩ : ByteArray)]) ?_ 5 _ rfl; (with_reducible repeat (first | refine blk_drewN ?_ _ | refine blk_drew ?_ | refine blk_alloc ?_ _)); refine blk_put (cs := #[.string (⟨#[0]⟩ : ByteArray), .int .i64 0, .int .i64 0, .int .i64 315532800, .int .i64 0, .int .i64 0, .int .i64 0, .string (⟨#[]⟩ : ByteArray)]) ?_ 4 _ rfl; (with_reducible repeat (first | refine blk_drewN ?_ _ | refine blk_drew ?_ | refine blk_alloc ?_ _)); refine blk_put (cs := #[.string (⟨#[0]⟩ : ByteArray), .int .i64 0, .int .i64 0, .int .i64 0, .int .i64 0, .int .i64 0, .int .i64 0, .string (⟨#[]⟩ : ByteArray)]) ?_ 3 _ rfl; (with_reducible repeat (first | refine blk_drewN ?_ _ | refine blk_drew ?_ | refine blk_alloc ?_ _)); refine blk_put (cs := #[.string (⟨#[0]⟩ : ByteArray), .int .i64 0, .int .i64 0, .int .i64 0, .int .i64 0, .int .i64 0, .int .i64 0, .string (⟨#[]⟩ : ByteArray)]) ?_ 2 _ rfl; (with_reducible repeat (first | refine blk_drewN ?_ _ | refine blk_drew ?_ | refine blk_alloc ?_ _)); refine blk_put (cs := #[.string (⟨#[0]⟩ : ByteArray), .int .i64 0, .int .i64 0, .int .i64 0, .int .i64 0, .int .i64 0, .int .i64 0, .string (⟨#[]⟩ : ByteArray)]) ?_ 1 _ rfl; (with_reducible repeat (first | refine blk_drewN ?_ _ | refine blk_drew ?_ | refine blk_alloc ?_ _)); refine blk_put (cs := #[.string (⟨#[]⟩ : ByteArray), .int .i64 0, .int .i64 0, .int .i64 0, .int .i64 0, .int .i64 0, .int .i64 0, .string (⟨#[]⟩ : ByteArray)]) ?_ 0 _ rfl; (with_reducible repeat (first | refine blk_drewN ?_ _ | refine blk_drew ?_ | refine blk_alloc ?_ _)); exact BK213.out) hb); have n7_ := Aside0.mk (below_step (by repeat (first | (with_reducible first | exact HB.out | apply below_alloc | apply pw_below_drewN | apply below_drew1 | refine below_set ?_ GE212.out | refine below_set ?_ GE213.out) | exact HB.out)) hb); clear HO_1; clear HO202; clear HO208; clear HO211; clear BK212; clear BK213; clear HB; have HO_1 := n0_; have HO202 := n1_; have HO208 := n2_; have HO211 := n3_; have HO216 := n4_; have BK212 := n5_; have BK213 := n6_; have HB := n7_; clear n0_ n1_ n2_ n3_ n4_ n5_ n6_ n7_; clear hb ho58; obtain ⟨Ao59, co59, eo59⟩ := Kd.R_slice HO216.out; subst eo59) | ((with_reducible refine gate_callee (f := 24) rfl ?_); refine gL (some 58) Tryz.func24 #[.slice Ao59 y214.length co59] ?_; (with_reducible refine (directory_Encode.calls k1 _ _ y214 t217 t218 _ ?side1 ?side2 A25.out).mono ?_); (case side1 => repeat (first | exact (Kd.R_reads' HO216.out).2.2 | (with_reducible refine Kd.C_alloc ?_ _) | (with_reducible refine Kd.C_drewN ?_ _) | (with_reducible refine Kd.C_drew ?_))); (case side2 => exact (Kd.R_reads' HO216.out).2.1); rintro e w60 ⟨rfl, hb⟩; refine ⟨_, rfl, ?_⟩; have n0_ := Aside0.mk (Kd.R_below (uR HO_1.out) hb); have n1_ := Aside0.mk (Kd.R_below (uR HO202.out) hb); have n2_ := Aside0.mk (Kd.R_below (uR HO208.out) hb); have n3_ := Aside0.mk (Kd.R_below (uR HO211.out) hb); have n4_ := Aside0.mk (Kd.R_below (uR HO216.out) hb); have n5_ := Aside0.mk (blk_below (g := gb212) (o := .cells #[.string (⟨#[65]⟩ : ByteArray), .int .i64 0, .int .i64 0, .int .i64 315532800, .int .i64 0, .int .i64 0, .int .i64 0, .string (⟨#[]⟩ : ByteArray)] 45 (0, 0)) (by (with_reducible repeat (first | refine blk_drewN ?_ _ | refine blk_drew ?_ | refine blk_alloc ?_ _)); exact BK212.out) hb); have n6_ := Aside0.mk (blk_below (g := gb213) (o := .cells #[.string (⟨#[0]⟩ : ByteArray), .int .i64 0, .int .i64 0, .int .i64 315532800, .int .i64 0, .int .i64 0, .int .i64 0, .string (⟨#[]⟩ : ByteArray)] 45 (0, 0)) (by (with_reducible repeat (first | refine blk_drewN ?_ _ | refine blk_drew ?_ | refine blk_alloc ?_ _)); exact BK213.out) hb); have n7_ := Aside0.mk (below_step (by repeat (first | (with_reducible first | exact HB.out | apply below_alloc | apply pw_below_drewN | apply below_drew1 | refine below_set ?_ GE212.out | refine below_set ?_ GE213.out) | exact HB.out)) hb); clear HO_1; clear HO202; clear HO208; clear HO211; clear HO216; clear BK212; clear BK213; clear HB; have HO_1 := n0_; have HO202 := n1_; have HO208 := n2_; have HO211 := n3_; have HO216 := n4_; have BK212 := n5_; have BK213 := n6_; have HB := n7_; clear n0_ n1_ n2_ n3_ n4_ n5_ n6_ n7_; (try clear hb); (try clear hb2); (try clear hk); (try clear hi)) | ((with_reducible refine gate_callee (f := 27) rfl ?_); refine gL (some 63) Tryz.func27 #[.string t217] ?_; (with_reducible refine (directory_Decode.calls k1 t217 t219 t220 t221 _ A26.out).mono ?_); rintro e w61 ⟨v222, v224, rfl, ho0, ho1, hb⟩; refine ⟨_, rfl, ?_⟩; have n0_ := Aside0.mk (Kd.R_below (uR HO_1.out) hb); have n1_ := Aside0.mk (Kd.R_elder' (uR HO202.out) (Kd.R_base ho1) hb); have n2_ := Aside0.mk (Kd.R_elder' (uR HO208.out) (Kd.R_base ho1) hb); have n3_ := Aside0.mk (Kd.R_elder' (uR HO211.out) (Kd.R_base ho1) hb); have n4_ := Aside0.mk (Kd.R_elder' (uR HO216.out) (Kd.R_base ho0) hb); have n5_ := Aside0.mk (Kd.R_lower (Kd.R_newB (Kd.R_newB (Kd.R_new' ho0 (Kd.R_lt (uR HO216.out))) (g := gb212) (o := .cells #[.string (⟨#[65]⟩ : ByteArray), .int .i64 0, .int .i64 0, .int .i64 315532800, .int .i64 0, .int .i64 0, .int .i64 0, .string (⟨#[]⟩ : ByteArray)] 45 (0, 0)) (by (with_reducible repeat (first | refine blk_drewN ?_ _ | refine blk_drew ?_ | refine blk_alloc ?_ _)); exact BK212.out)) (g := gb213) (o := .cells #[.string (⟨#[0]⟩ : ByteArray), .int .i64 0, .int .i64 0, .int .i64 315532800, .int .i64 0, .int .i64 0, .int .i64 0, .string (⟨#[]⟩ : ByteArray)] 45 (0, 0)) (by (with_reducible repeat (first | refine blk_drewN ?_ _ | refine blk_drew ?_ | refine blk_alloc ?_ _)); exact BK213.out)) (below_size (by repeat (first | (with_reducible first | exact HB.out | apply below_alloc | apply pw_below_drewN | apply below_drew1 | refine below_set ?_ GE212.out | refine below_set ?_ GE213.out) | exact HB.out)))); have n6_ := Aside0.mk (Kd.R_lower (Kd.R_new' (Kd.R_new' (Kd.R_new' ho1 (Kd.R_lt (uR HO202.out))) (Kd.R_lt (uR HO208.out))) (Kd.R_lt (uR HO211.out))) (below_size (by repeat (first | (with_reducible first | exact HB.out | apply below_alloc | apply pw_below_drewN | apply below_drew1 | refine below_set ?_ GE212.out | refine below_set ?_ GE213.out) | exact HB.out)))); have n7_ := Aside0.mk (blk_below (g := gb212) (o := .cells #[.string (⟨#[65]⟩ : ByteArray), .int .i64 0, .int .i64 0, .int .i64 315532800, .int .i64 0, .int .i64 0, .int .i64 0, .string (⟨#[]⟩ : ByteArray)] 45 (0, 0)) (by (with_reducible repeat (first | refine blk_drewN ?_ _ | refine blk_drew ?_ | refine blk_alloc ?_ _)); exact BK212.out) hb); have n8_ := Aside0.mk (blk_below (g := gb213) (o := .cells #[.string (⟨#[0]⟩ : ByteArray), .int .i64 0, .int .i64 0, .int .i64 315532800, .int .i64 0, .int .i64 0, .int .i64 0, .string (⟨#[]⟩ : ByteArray)] 45 (0, 0)) (by (with_reducible repeat (first | refine blk_drewN ?_ _ | refine blk_drew ?_ | refine blk_alloc ?_ _)); exact BK213.out) hb); have n9_ := Aside0.mk (below_step (by repeat (first | (with_reducible first | exact HB.out | apply below_alloc | apply pw_below_drewN | apply below_drew1 | refine below_set ?_ GE212.out | refine below_set ?_ GE213.out) | exact HB.out)) hb); clear HO_1; clear HO202; clear HO208; clear HO211; clear HO216; clear BK212; clear BK213; clear HB; have HO_1 := n0_; have HO202 := n1_; have HO208 := n2_; have HO211 := n3_; have HO216 := n4_; have HO223 := n5_; have HO225 := n6_; have BK212 := n7_; have BK213 := n8_; have HB := n9_; clear n0_ n1_ n2_ n3_ n4_ n5_ n6_ n7_ n8_ n9_; (try clear hb); (try clear hb2); (try clear hk); (try clear hi); (try clear ho0); (try clear ho1); obtain ⟨Ao62, co62, eo62⟩ := Kd.R_slice HO223.out; subst eo62) | ((with_reducible refine gate_callee (f := 14) rfl ?_); refine gL (some 69) Tryz.func14 #[.slice Ao62 t219.length co62, .string (⟨#[65]⟩ : ByteArray)] ?_; (with_reducible refine (directory_Find.calls _ _ t219 (⟨#[65]⟩ : ByteArray) t226 true _ ?side1 ?side2 A27.out).mono ?_); (case side1 => repeat (first | exact (Kd.R_reads' HO223.out).2.2 | (with_reducible refine Kd.C_alloc ?_ _) | (with_reducible refine Kd.C_drewN ?_ _) | (with_reducible refine Kd.C_drew ?_))); (case side2 => exact (Kd.R_reads' HO223.out).2.1); rintro e w63 ⟨rfl, hb⟩; refine ⟨_, rfl, ?_⟩; have n0_ := Aside0.mk (Kd.R_below (uR HO_1.out) hb); have n1_ := Aside0.mk (Kd.R_below (uR HO202.out) hb); have n2_ := Aside0.mk (Kd.R_below (uR HO208.out) hb); have n3_ := Aside0.mk (Kd.R_below (uR HO211.out) hb); have n4_ := Aside0.mk (Kd.R_below (uR HO216.out) hb); have n5_ := Aside0.mk (Kd.R_below (uR HO223.out) hb); have n6_ := Aside0.mk (Kd.R_below (uR HO225.out) hb); have n7_ := Aside0.mk (blk_below (g := gb212) (o := .cells #[.string (⟨#[65]⟩ : ByteArray), .int .i64 0, .int .i64 0, .int .i64 315532800, .int .i64 0, .int .i64 0, .int .i64 0, .string (⟨#[]⟩ : ByteArray)] 45 (0, 0)) (by (with_reducible repeat (first | refine blk_drewN ?_ _ | refine blk_drew ?_ | refine blk_alloc ?_ _)); exact BK212.out) hb); have n8_ := Aside0.mk (blk_below (g := gb213) (o := .cells #[.string (⟨#[0]⟩ : ByteArray), .int .i64 0, .int .i64 0, .int .i64 315532800, .int .i64 0, .int .i64 0, .int .i64 0, .string (⟨#[]⟩ : ByteArray)] 45 (0, 0)) (by (with_reducible repeat (first | refine blk_drewN ?_ _ | refine blk_drew ?_ | refine blk_alloc ?_ _)); exact BK213.out) hb); have n9_ := Aside0.mk (below_step (by repeat (first | (with_reducible first | exact HB.out | apply below_alloc | apply pw_below_drewN | apply below_drew1 | refine below_set ?_ GE212.out | refine below_set ?_ GE213.out) | exact HB.out)) hb); clear HO_1; clear HO202; clear HO208; clear HO211; clear HO216; clear HO223; clear HO225; clear BK212; clear BK213; clear HB; have HO_1 := n0_; have HO202 := n1_; have HO208 := n2_; have HO211 := n3_; have HO216 := n4_; have HO223 := n5_; have HO225 := n6_; have BK212 := n7_; have BK213 := n8_; have HB := n9_; clear n0_ n1_ n2_ n3_ n4_ n5_ n6_ n7_ n8_ n9_; (try clear hb); (try clear hb2); (try clear hk); (try clear hi); obtain ⟨Ao64, co64, eo64⟩ := Kd.R_slice HO225.out; subst eo64))
       replace HO_1 := Aside0.mk (Kd.R_drew HO_1.out)
       replace HO202 := Aside0.mk (Kd.R_drew HO202.out)
       replace HO208 := Aside0.mk (Kd.R_drew HO208.out)
       replace HO211 := Aside0.mk (Kd.R_drew HO211.out)
       replace HO216 := Aside0.mk (Kd.R_drew HO216.out)
       replace HO223 := Aside0.mk (Kd.R_drew HO223.out)
       replace HO225 := Aside0.mk (Kd.R_drew HO225.out)
       replace BK212 := Aside0.mk (blk_drew BK212.out)
       replace BK213 := Aside0.mk (blk_drew BK213.out)
       replace HB := Aside0.mk (below_drew1 HB.out)
       obtain ⟨Ao67, co67, eo67⟩ := Kd.R_slice HO211.out
       (first | subst eo67 | (injection eo67 with f1_ f2_ f3_; have f4_ := f1_.symm; have f5_ := f3_.symm; clear f1_ f2_ f3_; subst f4_; subst f5_))
       have p229 : 0 ≤ (60 : Int) := (by omega)
       have q229 : 60 < (t209.length : Int) := of_decide_eq_true (by first | (with_reducible assumption) | assumption)
       obtain ⟨ad229, e229, hx229_0⟩ := Kd.at_int (Kd.R_reads' HO211.out).2.2 60 p229 q229
       cases e229
       (try simp only [show (60 : Int).toNat = 60 from rfl, Nat.reduceMul, Nat.reduceEqDiff, Go.Addr.add, ↓reduceIte] at hx229_0)
       have qi229 : (60 < t209.length) = True := eq_true (by omega)
       (try rw [show ((60 : Int)).toNat = 60 from rfl] at hx229_0)
       replace p229 := eq_true p229
       replace q229 := eq_true q229
       refine start_ (n := 57) (S := fun w' => w'.cell? ⟨gb213, 0, none⟩ = some (.string (⟨#[0]⟩ : ByteArray)) ∧ w'.cell? ⟨gb213, 1, none⟩ = some (.int .i64 0) ∧ w'.cell? ⟨gb213, 2, none⟩ = some (.int .i64 0) ∧ w'.cell? ⟨gb213, 3, none⟩ = some (.int .i64 315532800) ∧ w'.cell? ⟨gb213, 4, none⟩ = some (.int .i64 0) ∧ w'.cell? ⟨gb213, 5, none⟩ = some (.int .i64 0) ∧ w'.cell? ⟨gb213, 6, none⟩ = some (.int .i64 0) ∧ w'.cell? ⟨gb213, 7, none⟩ = some (.string (⟨#[]⟩ : ByteArray)) ∧ w'.cell? ⟨gb212, 0, none⟩ = some (.string (⟨#[65]⟩ : ByteArray)) ∧ w'.cell? ⟨gb212, 1, none⟩ = some (.int .i64 0) ∧ w'.cell? ⟨gb212, 2, none⟩ = some (.int .i64 0) ∧ w'.cell? ⟨gb212, 3, none⟩ = some (.int .i64 315532800) ∧ w'.cell? ⟨gb212, 4, none⟩ = some (.int .i64 0) ∧ w'.cell? ⟨gb212, 5, none⟩ = some (.int .i64 0) ∧ w'.cell? ⟨gb212, 6, none⟩ = some (.int .i64 0) ∧ w'.cell? ⟨gb212, 7, none⟩ = some (.string (⟨#[]⟩ : ByteArray)) ∧ w'.cell? ⟨ad229.block, ad229.off + 60, none⟩ = some (.int .i64 (rd t209 60))) (ds := []) #[false, false, false, false, false, false, false, false, false, false, false, false, false, false, false, false, false, false, false, false, false, false, false, false, false, false, false, false, false, false, false, false, false, false, false, false, false, false, false, false, false, false, false, false, false, false, false, false, false, false, false, false, false, false, false, false, false] (by kernel_rfl) rfl rfl ⟨(blk_cell BK213.out 0).trans rfl, (blk_cell BK213.out 1).trans rfl, (blk_cell BK213.out 2).trans rfl, (blk_cell BK213.out 3).trans rfl, (blk_cell BK213.out 4).trans rfl, (blk_cell BK213.out 5).trans rfl, (blk_cell BK213.out 6).trans rfl, (blk_cell BK213.out 7).trans rfl, (blk_cell BK212.out 0).trans rfl, (blk_cell BK212.out 1).trans rfl, (blk_cell BK212.out 2).trans rfl, (blk_cell BK212.out 3).trans rfl, (blk_cell BK212.out 4).trans rfl, (blk_cell BK212.out 5).trans rfl, (blk_cell BK212.out 6).trans rfl, (blk_cell BK212.out 7).trans rfl, hx229_0⟩ (fun hHeld => ?_); refine with_tabW awakeP.tab15 awakeP.bits15 (fun HT_ HW_ => ?_)
       generalize w63.drew = w65 at HO_1 HO202 HO208 HO211 HO216 HO223 HO225 BK212 BK213 HB hx229_0 hHeld ⊢
       refine pA (i := 0) (N := some 72) (tb 57 1) (any_of HT_.out (by kernel_rfl)) ?_
       refine one_ (i := 1) (N := some 73) (tb 57 3) rfl rfl (one_of HT_.out (by kernel_rfl)) (by decide) (fun K hK => ?_)
       refine goes_ Tryz.func19 (by kernel_rfl) rfl #[.slice Ao49 y206.length co49] (by rfl) rfl rfl (by (try simp only [List.map_toArray, List.map_cons, List.map_nil]); first | done | rfl | (simp only [List.length_drop, List.length_take]; rfl)) ?_
       with_reducible refine (directory_Blocks.calls k1 _ _ y206 t228 _ ?side1 ?side2 A28.out).mono ?_
       (case side1 => repeat (first | exact (Kd.R_reads' HO208.out).2.2 | (with_reducible refine Kd.C_alloc ?_ _) | (with_reducible refine Kd.C_drewN ?_ _) | (with_reducible refine Kd.C_drew ?_)))
       (case side2 => exact (Kd.R_reads' HO208.out).2.1)
       rintro e w66 ⟨rfl, hb⟩
       have HS16_ := (hb.cell (World.block_lt_of_cell? _ _ (hHeld.2.2.2.2.2.2.2.2.2.2.2.2.2.2.2.2))).trans (hHeld.2.2.2.2.2.2.2.2.2.2.2.2.2.2.2.2)
       refine ⟨_, rfl, ?_⟩
       replace HO_1 := Aside0.mk (Kd.R_below (uR HO_1.out) hb)
       replace HO202 := Aside0.mk (Kd.R_below (uR HO202.out) hb)
       replace HO208 := Aside0.mk (Kd.R_below (uR HO208.out) hb)
       replace HO211 := Aside0.mk (Kd.R_below (uR HO211.out) hb)
       replace HO216 := Aside0.mk (Kd.R_below (uR HO216.out) hb)
       replace HO223 := Aside0.mk (Kd.R_below (uR HO223.out) hb)
       replace HO225 := Aside0.mk (Kd.R_below (uR HO225.out) hb)
       replace BK212 := Aside0.mk (blk_below (g := gb212) (o := .cells #[.string (⟨#[65]⟩ : ByteArray), .int .i64 0, .int .i64 0, .int .i64 315532800, .int .i64 0, .int .i64 0, .int .i64 0, .string (⟨#[]⟩ : ByteArray)] 45 (0, 0)) (by (with_reducible repeat (first | refine blk_drewN ?_ _ | refine blk_drew ?_ | refine blk_alloc ?_ _)); exact BK212.out) hb)
       replace BK213 := Aside0.mk (blk_below (g := gb213) (o := .cells #[.string (⟨#[0]⟩ : ByteArray), .int .i64 0, .int .i64 0, .int .i64 315532800, .int .i64 0, .int .i64 0, .int .i64 0, .string (⟨#[]⟩ : ByteArray)] 45 (0, 0)) (by (with_reducible repeat (first | refine blk_drewN ?_ _ | refine blk_drew ?_ | refine blk_alloc ?_ _)); exact BK213.out) hb)
       replace HB := Aside0.mk (below_step (by repeat (first | (with_reducible first | exact HB.out | apply below_alloc | apply pw_below_drewN | apply below_drew1 | refine below_set ?_ GE212.out | refine below_set ?_ GE213.out) | exact HB.out)) hb)
       (try clear hb)
       (try clear hb2)
       (try clear hk)
       (try clear hi)
       refine hK.out _ _ ⟨(blk_cell BK213.out 0).trans rfl, (blk_cell BK213.out 1).trans rfl, (blk_cell BK213.out 2).trans rfl, (blk_cell BK213.out 3).trans rfl, (blk_cell BK213.out 4).trans rfl, (blk_cell BK213.out 5).trans rfl, (blk_cell BK213.out 6).trans rfl, (blk_cell BK213.out 7).trans rfl, (blk_cell BK212.out 0).trans rfl, (blk_cell BK212.out 1).trans rfl, (blk_cell BK212.out 2).trans rfl, (blk_cell BK212.out 3).trans rfl, (blk_cell BK212.out 4).trans rfl, (blk_cell BK212.out 5).trans rfl, (blk_cell BK212.out 6).trans rfl, (blk_cell BK212.out 7).trans rfl, HS16_⟩ (fun hHeld => ?_)
       clear hK K
       refine norm_ (a' := ?_) ?_ ?_
       rotate_left
       ·show Act.put _ (some 73) _ = _
        simp only [Act.put, List.setIfInBounds_toArray, List.set_cons_zero, List.set_cons_succ, i64_w, i32_w]
        rfl
       refine pA (i := 2) (N := some 74) (tb 57 7) (any_of HT_.out (by kernel_rfl)) ?_
       refine pA (i := 3) (N := some 75) (tb 57 15) (any_of HT_.out (by kernel_rfl)) ?_
       refine pA (i := 4) (N := some 76) (tb 57 31) (any_of HT_.out (by kernel_rfl)) ?_
       refine pA (i := 5) (N := some 77) (tb 57 63) (any_of HT_.out (by kernel_rfl)) ?_
       refine pA (i := 6) (N := some 78) (tb 57 127) (any_of HT_.out (by kernel_rfl)) ?_
       refine pA (i := 7) (N := some 79) (tb 57 255) (any_of HT_.out (by kernel_rfl)) ?_
       refine pA (i := 8) (N := some 80) (tb 57 511) (any_of HT_.out (by kernel_rfl)) ?_
       refine pA (i := 9) (N := some 81) (tb 57 1023) (any_of HT_.out (by kernel_rfl)) ?_
       refine pA (i := 10) (N := some 82) (tb 57 2047) (any_of HT_.out (by kernel_rfl)) ?_
       refine take_ (i := 11) (N := some 83) (v := ?_) (a' := ?_) (tb 57 4095) rfl rfl (take_ofW HT_.out HW_.out (by kernel_rfl)) (fun _ _ _ h => h) (Or.inl ⟨by rfl, ?_⟩) hHeld ?_ ?_
       rotate_left
       ·rintro w' ⟨s0, s1, s2, s3, s4, s5, s6, s7, s8, s9, s10, s11, s12, s13, s14, s15, s16⟩
        go_simp
        with_reducible rfl
       rotate_left
       ·simp only [Act.put, List.setIfInBounds_toArray, List.set_cons_zero, List.set_cons_succ, i64_w, i32_w]
        rfl
       refine pA (i := 12) (N := some 84) (tb 57 8191) (any_of HT_.out (by kernel_rfl)) ?_
       refine pA (i := 13) (N := some 85) (tb 57 16383) (any_of HT_.out (by kernel_rfl)) ?_
       refine pA (i := 14) (N := some 86) (tb 57 32767) (any_of HT_.out (by kernel_rfl)) ?_
       refine pA (i := 15) (N := some 87) (tb 57 65535) (any_of HT_.out (by kernel_rfl)) ?_
       refine pA (i := 16) (N := some 88) (tb 57 131071) (any_of HT_.out (by kernel_rfl)) ?_
       refine pA (i := 17) (N := some 89) (tb 57 262143) (any_of HT_.out (by kernel_rfl)) ?_
       refine pA (i := 18) (N := some 90) (tb 57 524287) (any_of HT_.out (by kernel_rfl)) ?_
       refine pA (i := 19) (N := some 91) (tb 57 1048575) (any_of HT_.out (by kernel_rfl)) ?_
       refine pA (i := 20) (N := some 92) (tb 57 2097151) (any_of HT_.out (by kernel_rfl)) ?_
       refine pA (i := 21) (N := some 93) (tb 57 4194303) (any_of HT_.out (by kernel_rfl)) ?_
       refine pA (i := 22) (N := some 94) (tb 57 8388607) (any_of HT_.out (by kernel_rfl)) ?_
       refine pA (i := 23) (N := some 95) (tb 57 16777215) (any_of HT_.out (by kernel_rfl)) ?_
       refine pA (i := 24) (N := some 96) (tb 57 33554431) (any_of HT_.out (by kernel_rfl)) ?_
       refine pA (i := 25) (N := some 97) (tb 57 67108863) (any_of HT_.out (by kernel_rfl)) ?_
       refine pA (i := 26) (N := some 98) (tb 57 134217727) (any_of HT_.out (by kernel_rfl)) ?_
       refine pA (i := 27) (N := some 99) (tb 57 268435455) (any_of HT_.out (by kernel_rfl)) ?_
       refine pA (i := 28) (N := some 100) (tb 57 536870911) (any_of HT_.out (by kernel_rfl)) ?_
       refine take_ (i := 29) (N := some 101) (v := ?_) (a' := ?_) (tb 57 1073741823) rfl rfl (take_ofW HT_.out HW_.out (by kernel_rfl)) (fun _ _ _ h => h) (Or.inl ⟨by rfl, ?_⟩) hHeld ?_ ?_
       rotate_left
       ·rintro w' ⟨s0, s1, s2, s3, s4, s5, s6, s7, s8, s9, s10, s11, s12, s13, s14, s15, s16⟩
        go_simp
        with_reducible rfl
       rotate_left
       ·simp only [Act.put, List.setIfInBounds_toArray, List.set_cons_zero, List.set_cons_succ, i64_w, i32_w]
        rfl
       refine take_ (i := 30) (N := some 102) (v := ?_) (a' := ?_) (tb 57 2147483647) rfl rfl (take_ofW HT_.out HW_.out (by kernel_rfl)) (fun _ _ _ h => h) (Or.inl ⟨by rfl, ?_⟩) hHeld ?_ ?_
       rotate_left
       ·rintro w' ⟨s0, s1, s2, s3, s4, s5, s6, s7, s8, s9, s10, s11, s12, s13, s14, s15, s16⟩
        go_simp
        with_reducible rfl
       rotate_left
       ·simp only [Act.put, List.setIfInBounds_toArray, List.set_cons_zero, List.set_cons_succ, i64_w, i32_w]
        rfl
       refine one_ (i := 31) (N := some 103) (tb 57 4294967295) rfl rfl (one_of HT_.out (by kernel_rfl)) (by decide) (fun K hK => ?_)
       refine Kd.R_lit_step k45 _ 45 ?hg (N := 103) ?hd (xs := ([(⟨(⟨#[0]⟩ : ByteArray), 0, 0, 315532800, 0, 0, 0, (⟨#[]⟩ : ByteArray)⟩ : S45), (⟨(⟨#[65]⟩ : ByteArray), 0, 0, 315532800, 0, 0, 0, (⟨#[]⟩ : ByteArray)⟩ : S45)] : List (S45))) (inner := [.string (⟨#[0]⟩ : ByteArray), .int .i64 0, .int .i64 0, .int .i64 315532800, .int .i64 0, .int .i64 0, .int .i64 0, .string (⟨#[]⟩ : ByteArray), .string (⟨#[65]⟩ : ByteArray), .int .i64 0, .int .i64 0, .int .i64 315532800, .int .i64 0, .int .i64 0, .int .i64 0, .string (⟨#[]⟩ : ByteArray)]) (ok := fun _ => True) (okp := fun _ => True) ?hr ?hp (fun _ hk => hk) trivial (Below.refl _ _) (Nat.le_refl _) (by simp) ?_; (case hd => rfl); (case hg => rfl); (case hr => first | (go_simp; done) | (go_simp; rfl)); (case hp => exact (Reps.c8 (show Kd.M k45 _ _ _ (⟨(⟨#[0]⟩ : ByteArray), 0, 0, 315532800, 0, 0, 0, (⟨#[]⟩ : ByteArray)⟩ : S45) [.string (⟨#[0]⟩ : ByteArray), .int .i64 0, .int .i64 0, .int .i64 315532800, .int .i64 0, .int .i64 0, .int .i64 0, .string (⟨#[]⟩ : ByteArray)] from (k45_mkM _ _ _ (⟨(⟨#[0]⟩ : ByteArray), 0, 0, 315532800, 0, 0, 0, (⟨#[]⟩ : ByteArray)⟩ : S45) )) (Reps.c8 (show Kd.M k45 _ _ _ (⟨(⟨#[65]⟩ : ByteArray), 0, 0, 315532800, 0, 0, 0, (⟨#[]⟩ : ByteArray)⟩ : S45) [.string (⟨#[65]⟩ : ByteArray), .int .i64 0, .int .i64 0, .int .i64 315532800, .int .i64 0, .int .i64 0, .int .i64 0, .string (⟨#[]⟩ : ByteArray)] from (k45_mkM _ _ _ (⟨(⟨#[65]⟩ : ByteArray), 0, 0, 315532800, 0, 0, 0, (⟨#[]⟩ : ByteArray)⟩ : S45) )) (Reps.none _ _))))
       intro v231 w68 ho69 hb hg_ hnew_
       have HS16_ := (hb.cell (World.block_lt_of_cell? _ _ (hHeld.2.2.2.2.2.2.2.2.2.2.2.2.2.2.2.2))).trans (hHeld.2.2.2.2.2.2.2.2.2.2.2.2.2.2.2.2)
       clear hg_ hnew_
       (first | rw [← Ny230.out] at ho69 | (simp only [Int.reduceToNat] at ho69; rw [← Ny230.out] at ho69))
       have n0_ := Aside0.mk (Kd.R_below (uR HO_1.out) hb)
       have n1_ := Aside0.mk (Kd.R_below (uR HO202.out) hb)
       have n2_ := Aside0.mk (Kd.R_below (uR HO208.out) hb)
       have n3_ := Aside0.mk (Kd.R_below (uR HO211.out) hb)
       have n4_ := Aside0.mk (Kd.R_elder' (uR HO216.out) (Kd.R_base ho69) hb)
       have n5_ := Aside0.mk (Kd.R_elder' (uR HO223.out) (Kd.R_base ho69) hb)
       have n6_ := Aside0.mk (Kd.R_below (uR HO225.out) hb)
       have n7_ := Aside0.mk (Kd.R_lower (Kd.R_newB (Kd.R_newB (Kd.R_new' (Kd.R_new' ho69 (Kd.R_lt (uR HO216.out))) (Kd.R_lt (uR HO223.out))) (g := gb212) (o := .cells #[.string (⟨#[65]⟩ : ByteArray), .int .i64 0, .int .i64 0, .int .i64 315532800, .int .i64 0, .int .i64 0, .int .i64 0, .string (⟨#[]⟩ : ByteArray)] 45 (0, 0)) (by (with_reducible repeat (first | refine blk_drewN ?_ _ | refine blk_drew ?_ | refine blk_alloc ?_ _)); exact BK212.out)) (g := gb213) (o := .cells #[.string (⟨#[0]⟩ : ByteArray), .int .i64 0, .int .i64 0, .int .i64 315532800, .int .i64 0, .int .i64 0, .int .i64 0, .string (⟨#[]⟩ : ByteArray)] 45 (0, 0)) (by (with_reducible repeat (first | refine blk_drewN ?_ _ | refine blk_drew ?_ | refine blk_alloc ?_ _)); exact BK213.out)) (below_size (by repeat (first | (with_reducible first | exact HB.out | apply below_alloc | apply pw_below_drewN | apply below_drew1 | refine below_set ?_ GE212.out | refine below_set ?_ GE213.out) | exact HB.out))))
       have n8_ := Aside0.mk (blk_below (g := gb212) (o := .cells #[.string (⟨#[65]⟩ : ByteArray), .int .i64 0, .int .i64 0, .int .i64 315532800, .int .i64 0, .int .i64 0, .int .i64 0, .string (⟨#[]⟩ : ByteArray)] 45 (0, 0)) (by (with_reducible repeat (first | refine blk_drewN ?_ _ | refine blk_drew ?_ | refine blk_alloc ?_ _)); exact BK212.out) hb)
       have n9_ := Aside0.mk (blk_below (g := gb213) (o := .cells #[.string (⟨#[0]⟩ : ByteArray), .int .i64 0, .int .i64 0, .int .i64 315532800, .int .i64 0, .int .i64 0, .int .i64 0, .string (⟨#[]⟩ : ByteArray)] 45 (0, 0)) (by (with_reducible repeat (first | refine blk_drewN ?_ _ | refine blk_drew ?_ | refine blk_alloc ?_ _)); exact BK213.out) hb)
       have n10_ := Aside0.mk (below_step (by repeat (first | (with_reducible first | exact HB.out | apply below_alloc | apply pw_below_drewN | apply below_drew1 | refine below_set ?_ GE212.out | refine below_set ?_ GE213.out) | exact HB.out)) hb)
       clear HO_1
       clear HO202
       clear HO208
       clear HO211
       clear HO216
       clear HO223
       clear HO225
       clear BK212
       clear BK213
       clear HB
       have HO_1 := n0_
       have HO202 := n1_
       have HO208 := n2_
       have HO211 := n3_
       have HO216 := n4_
       have HO223 := n5_
       have HO225 := n6_
       have HO232 := n7_
       have BK212 := n8_
       have BK213 := n9_
       have HB := n10_
       clear n0_ n1_ n2_ n3_ n4_ n5_ n6_ n7_ n8_ n9_ n10_
       clear hb ho69
       obtain ⟨Ao70, co70, eo70⟩ := Kd.R_slice HO232.out
       (first | subst eo70 | (injection eo70 with f1_ f2_ f3_; have f4_ := f1_.symm; have f5_ := f3_.symm; clear f1_ f2_ f3_; subst f4_; subst f5_))
       refine hK.out _ _ ⟨(blk_cell BK213.out 0).trans rfl, (blk_cell BK213.out 1).trans rfl, (blk_cell BK213.out 2).trans rfl, (blk_cell BK213.out 3).trans rfl, (blk_cell BK213.out 4).trans rfl, (blk_cell BK213.out 5).trans rfl, (blk_cell BK213.out 6).trans rfl, (blk_cell BK213.out 7).trans rfl, (blk_cell BK212.out 0).trans rfl, (blk_cell BK212.out 1).trans rfl, (blk_cell BK212.out 2).trans rfl, (blk_cell BK212.out 3).trans rfl, (blk_cell BK212.out 4).trans rfl, (blk_cell BK212.out 5).trans rfl, (blk_cell BK212.out 6).trans rfl, (blk_cell BK212.out 7).trans rfl, HS16_⟩ (fun hHeld => ?_)
       clear hK K
       refine norm_ (a' := ?_) ?_ ?_
       rotate_left
       ·show Act.put _ (some 103) _ = _
        simp only [Act.put, List.setIfInBounds_toArray, List.set_cons_zero, List.set_cons_succ, i64_w, i32_w]
        rfl
       refine one_ (i := 32) (N := some 104) (tb 57 8589934591) rfl rfl (one_of HT_.out (by kernel_rfl)) (by decide) (fun K hK => ?_)
       refine goes_ Tryz.func17 (by kernel_rfl) rfl #[.slice Ao62 t219.length co62, .slice Ao70 y230.length co70] (by rfl) rfl rfl (by (try simp only [List.map_toArray, List.map_cons, List.map_nil]); first | done | rfl | (simp only [List.length_drop, List.length_take]; rfl)) ?_
       with_reducible refine (masterdiscref21_Same.calls k1 _ _ t219 _ _ y230 true _ ?side1 ?side2 ?side3 ?side4 A36.out).mono ?_
       (case side1 => repeat (first | exact (Kd.R_reads' HO223.out).2.2 | (with_reducible refine Kd.C_alloc ?_ _) | (with_reducible refine Kd.C_drewN ?_ _) | (with_reducible refine Kd.C_drew ?_)))
       (case side2 => exact (Kd.R_reads' HO223.out).2.1)
       (case side3 => repeat (first | exact (Kd.R_reads' HO232.out).2.2 | (with_reducible refine Kd.C_alloc ?_ _) | (with_reducible refine Kd.C_drewN ?_ _) | (with_reducible refine Kd.C_drew ?_)))
       (case side4 => exact (Kd.R_reads' HO232.out).2.1)
       rintro e w' ⟨rfl, ⟨nd, rfl⟩⟩
       refine ⟨_, rfl, ?_⟩
       refine hK.out _ _ ⟨(blk_cell BK213.out 0).trans rfl, (blk_cell BK213.out 1).trans rfl, (blk_cell BK213.out 2).trans rfl, (blk_cell BK213.out 3).trans rfl, (blk_cell BK213.out 4).trans rfl, (blk_cell BK213.out 5).trans rfl, (blk_cell BK213.out 6).trans rfl, (blk_cell BK213.out 7).trans rfl, (blk_cell BK212.out 0).trans rfl, (blk_cell BK212.out 1).trans rfl, (blk_cell BK212.out 2).trans rfl, (blk_cell BK212.out 3).trans rfl, (blk_cell BK212.out 4).trans rfl, (blk_cell BK212.out 5).trans rfl, (blk_cell BK212.out 6).trans rfl, (blk_cell BK212.out 7).trans rfl, hHeld.2.2.2.2.2.2.2.2.2.2.2.2.2.2.2.2⟩ (fun hHeld => ?_)
       clear hK K
       refine norm_ (a' := ?_) ?_ ?_
       rotate_left
       ·show Act.put _ (some 104) _ = _
        simp only [Act.put, List.setIfInBounds_toArray, List.set_cons_zero, List.set_cons_succ, i64_w, i32_w]
        rfl
       refine pA (i := 33) (N := some 105) (tb 57 17179869183) (any_of HT_.out (by kernel_rfl)) ?_
       refine pA (i := 34) (N := some 106) (tb 57 34359738367) (any_of HT_.out (by kernel_rfl)) ?_
       refine pA (i := 35) (N := some 107) (tb 57 68719476735) (any_of HT_.out (by kernel_rfl)) ?_
       refine one_ (i := 36) (N := some 108) (tb 57 137438953471) rfl rfl (one_of HT_.out (by kernel_rfl)) (by decide) (fun K hK => ?_)
       refine Kd.R_lit_step (Kd.int .i64) _ 3 ?hg (N := 108) ?hd (xs := ([0, 34] : List Int)) (inner := [.int .i64 0, .int .i64 34]) (ok := fun _ => True) (okp := fun _ => True) ?hr ?hp (fun _ hk => hk) trivial (Below.refl _ _) (Nat.le_refl _) (by simp) ?_; (case hd => rfl); (case hg => rfl); (case hr => first | (go_simp; done) | (go_simp; rfl)); (case hp => exact (Reps.one (show Kd.M (Kd.int .i64) _ _ _ 0 [.int .i64 0] from rfl) (Reps.one (show Kd.M (Kd.int .i64) _ _ _ 34 [.int .i64 34] from rfl) (Reps.none _ _))))
       intro v235 w71 ho72 hb hg_ hnew_
       have HS16_ := (hb.cell (World.block_lt_of_cell? _ _ (hHeld.2.2.2.2.2.2.2.2.2.2.2.2.2.2.2.2))).trans (hHeld.2.2.2.2.2.2.2.2.2.2.2.2.2.2.2.2)
       clear hg_ hnew_
       (first | rw [← Ny234.out] at ho72 | (simp only [Int.reduceToNat] at ho72; rw [← Ny234.out] at ho72))
       have n0_ := Aside0.mk (Kd.R_below (uR HO_1.out) hb)
       have n1_ := Aside0.mk (Kd.R_elder' (uR HO202.out) (Kd.R_base ho72) hb)
       have n2_ := Aside0.mk (Kd.R_elder' (uR HO208.out) (Kd.R_base ho72) hb)
       have n3_ := Aside0.mk (Kd.R_elder' (uR HO211.out) (Kd.R_base ho72) hb)
       have n4_ := Aside0.mk (Kd.R_below (uR HO216.out) hb)
       have n5_ := Aside0.mk (Kd.R_below (uR HO223.out) hb)
       have n6_ := Aside0.mk (Kd.R_elder' (uR HO225.out) (Kd.R_base ho72) hb)
       have n7_ := Aside0.mk (Kd.R_below (uR HO232.out) hb)
       have n8_ := Aside0.mk (Kd.R_lower (Kd.R_new' (Kd.R_new' (Kd.R_new' (Kd.R_new' ho72 (Kd.R_lt (uR HO202.out))) (Kd.R_lt (uR HO208.out))) (Kd.R_lt (uR HO211.out))) (Kd.R_lt (uR HO225.out))) (below_size (by repeat (first | (with_reducible first | exact HB.out | apply below_alloc | apply pw_below_drewN | apply below_drew1 | refine below_set ?_ GE212.out | refine below_set ?_ GE213.out) | exact HB.out))))
       have n9_ := Aside0.mk (blk_below (g := gb212) (o := .cells #[.string (⟨#[65]⟩ : ByteArray), .int .i64 0, .int .i64 0, .int .i64 315532800, .int .i64 0, .int .i64 0, .int .i64 0, .string (⟨#[]⟩ : ByteArray)] 45 (0, 0)) (by (with_reducible repeat (first | refine blk_drewN ?_ _ | refine blk_drew ?_ | refine blk_alloc ?_ _)); exact BK212.out) hb)
       have n10_ := Aside0.mk (blk_below (g := gb213) (o := .cells #[.string (⟨#[0]⟩ : ByteArray), .int .i64 0, .int .i64 0, .int .i64 315532800, .int .i64 0, .int .i64 0, .int .i64 0, .string (⟨#[]⟩ : ByteArray)] 45 (0, 0)) (by (with_reducible repeat (first | refine blk_drewN ?_ _ | refine blk_drew ?_ | refine blk_alloc ?_ _)); exact BK213.out) hb)
       have n11_ := Aside0.mk (below_step (by repeat (first | (with_reducible first | exact HB.out | apply below_alloc | apply pw_below_drewN | apply below_drew1 | refine below_set ?_ GE212.out | refine below_set ?_ GE213.out) | exact HB.out)) hb)
       clear HO_1
       clear HO202
       clear HO208
       clear HO211
       clear HO216
       clear HO223
       clear HO225
       clear HO232
       clear BK212
       clear BK213
       clear HB
       have HO_1 := n0_
       have HO202 := n1_
       have HO208 := n2_
       have HO211 := n3_
       have HO216 := n4_
       have HO223 := n5_
       have HO225 := n6_
       have HO232 := n7_
       have HO236 := n8_
       have BK212 := n9_
       have BK213 := n10_
       have HB := n11_
       clear n0_ n1_ n2_ n3_ n4_ n5_ n6_ n7_ n8_ n9_ n10_ n11_
       clear hb ho72
       obtain ⟨Ao73, co73, eo73⟩ := Kd.R_slice HO236.out
       (first | subst eo73 | (injection eo73 with f1_ f2_ f3_; have f4_ := f1_.symm; have f5_ := f3_.symm; clear f1_ f2_ f3_; subst f4_; subst f5_))
       refine hK.out _ _ ⟨(blk_cell BK213.out 0).trans rfl, (blk_cell BK213.out 1).trans rfl, (blk_cell BK213.out 2).trans rfl, (blk_cell BK213.out 3).trans rfl, (blk_cell BK213.out 4).trans rfl, (blk_cell BK213.out 5).trans rfl, (blk_cell BK213.out 6).trans rfl, (blk_cell BK213.out 7).trans rfl, (blk_cell BK212.out 0).trans rfl, (blk_cell BK212.out 1).trans rfl, (blk_cell BK212.out 2).trans rfl, (blk_cell BK212.out 3).trans rfl, (blk_cell BK212.out 4).trans rfl, (blk_cell BK212.out 5).trans rfl, (blk_cell BK212.out 6).trans rfl, (blk_cell BK212.out 7).trans rfl, HS16_⟩ (fun hHeld => ?_)
       clear hK K
       refine norm_ (a' := ?_) ?_ ?_
       rotate_left
       ·show Act.put _ (some 108) _ = _
        simp only [Act.put, List.setIfInBounds_toArray, List.set_cons_zero, List.set_cons_succ, i64_w, i32_w]
        rfl
       refine one_ (i := 37) (N := some 109) (tb 57 274877906943) rfl rfl (one_of HT_.out (by kernel_rfl)) (by decide) (fun K hK => ?_)
       refine goes_ Tryz.func21 (by kernel_rfl) rfl #[.slice Ao64 t220.length co64, .slice Ao73 y234.length co73] (by rfl) rfl rfl (by (try simp only [List.map_toArray, List.map_cons, List.map_nil]); first | done | rfl | (simp only [List.length_drop, List.length_take]; rfl)) ?_
       with_reducible refine (slices_Equal_int_int.calls k1 _ _ t220 _ _ y234 true _ ?side1 ?side2 ?side3 ?side4 A38.out).mono ?_
       (case side1 => repeat (first | exact (Kd.R_reads' HO225.out).2.2 | (with_reducible refine Kd.C_alloc ?_ _) | (with_reducible refine Kd.C_drewN ?_ _) | (with_reducible refine Kd.C_drew ?_)))
       (case side2 => exact (Kd.R_reads' HO225.out).2.1)
       (case side3 => repeat (first | exact (Kd.R_reads' HO236.out).2.2 | (with_reducible refine Kd.C_alloc ?_ _) | (with_reducible refine Kd.C_drewN ?_ _) | (with_reducible refine Kd.C_drew ?_)))
       (case side4 => exact (Kd.R_reads' HO236.out).2.1)
       rintro e w' ⟨rfl, ⟨nd, rfl⟩⟩
       refine ⟨_, rfl, ?_⟩
       refine hK.out _ _ ⟨(blk_cell BK213.out 0).trans rfl, (blk_cell BK213.out 1).trans rfl, (blk_cell BK213.out 2).trans rfl, (blk_cell BK213.out 3).trans rfl, (blk_cell BK213.out 4).trans rfl, (blk_cell BK213.out 5).trans rfl, (blk_cell BK213.out 6).trans rfl, (blk_cell BK213.out 7).trans rfl, (blk_cell BK212.out 0).trans rfl, (blk_cell BK212.out 1).trans rfl, (blk_cell BK212.out 2).trans rfl, (blk_cell BK212.out 3).trans rfl, (blk_cell BK212.out 4).trans rfl, (blk_cell BK212.out 5).trans rfl, (blk_cell BK212.out 6).trans rfl, (blk_cell BK212.out 7).trans rfl, hHeld.2.2.2.2.2.2.2.2.2.2.2.2.2.2.2.2⟩ (fun hHeld => ?_)
       clear hK K
       refine norm_ (a' := ?_) ?_ ?_
       rotate_left
       ·show Act.put _ (some 109) _ = _
        simp only [Act.put, List.setIfInBounds_toArray, List.set_cons_zero, List.set_cons_succ, i64_w, i32_w]
        rfl
       refine pA (i := 38) (N := some 110) (tb 57 549755813887) (any_of HT_.out (by kernel_rfl)) ?_
       refine pA (i := 39) (N := some 111) (tb 57 1099511627775) (any_of HT_.out (by kernel_rfl)) ?_
       refine pA (i := 40) (N := some 112) (tb 57 2199023255551) (any_of HT_.out (by kernel_rfl)) ?_
       refine pA (i := 41) (N := some 113) (tb 57 4398046511103) (any_of HT_.out (by kernel_rfl)) ?_
       refine pA (i := 42) (N := some 114) (tb 57 8796093022207) (any_of HT_.out (by kernel_rfl)) ?_
       refine pA (i := 43) (N := some 115) (tb 57 17592186044415) (any_of HT_.out (by kernel_rfl)) ?_
       refine pA (i := 44) (N := some 116) (tb 57 35184372088831) (any_of HT_.out (by kernel_rfl)) ?_
       refine pA (i := 45) (N := some 117) (tb 57 70368744177663) (any_of HT_.out (by kernel_rfl)) ?_
       refine pA (i := 46) (N := some 118) (tb 57 140737488355327) (any_of HT_.out (by kernel_rfl)) ?_
       refine take_ (i := 47) (N := some 119) (v := ?_) (a' := ?_) (tb 57 281474976710655) rfl rfl (take_ofW HT_.out HW_.out (by kernel_rfl)) (fun _ _ _ h => h) (Or.inl ⟨by rfl, ?_⟩) hHeld ?_ ?_
       rotate_left
       ·rintro w' ⟨s0, s1, s2, s3, s4, s5, s6, s7, s8, s9, s10, s11, s12, s13, s14, s15, s16⟩
        go_simp
        with_reducible rfl
       rotate_left
       ·simp only [Act.put, List.setIfInBounds_toArray, List.set_cons_zero, List.set_cons_succ, i64_w, i32_w]
        rfl
       refine take_ (i := 48) (N := some 120) (v := ?_) (a' := ?_) (tb 57 562949953421311) rfl rfl (take_ofW HT_.out HW_.out (by kernel_rfl)) (fun _ _ _ h => h) (Or.inl ⟨by rfl, ?_⟩) hHeld ?_ ?_
       rotate_left
       ·rintro w' ⟨s0, s1, s2, s3, s4, s5, s6, s7, s8, s9, s10, s11, s12, s13, s14, s15, s16⟩
        go_simp
        with_reducible rfl
       rotate_left
       ·simp only [Act.put, List.setIfInBounds_toArray, List.set_cons_zero, List.set_cons_succ, i64_w, i32_w]
        rfl
       refine take_ (i := 51) (N := some 123) (v := ?_) (a' := ?_) (tb 57 2814749767106559) rfl rfl (take_ofW HT_.out HW_.out (by kernel_rfl)) (fun _ _ _ h => h) (Or.inl ⟨by rfl, ?_⟩) hHeld ?_ ?_
       rotate_left
       ·rintro w' ⟨s0, s1, s2, s3, s4, s5, s6, s7, s8, s9, s10, s11, s12, s13, s14, s15, s16⟩
        go_simp
        with_reducible rfl
       rotate_left
       ·simp only [Act.put, List.setIfInBounds_toArray, List.set_cons_zero, List.set_cons_succ, i64_w, i32_w]
        rfl
       refine take_ (i := 52) (N := some 124) (v := ?_) (a' := ?_) (tb 57 7318349394477055) rfl rfl (take_ofW HT_.out HW_.out (by kernel_rfl)) (fun _ _ _ h => h) (Or.inl ⟨by rfl, ?_⟩) hHeld ?_ ?_
       rotate_left
       ·rintro w' ⟨s0, s1, s2, s3, s4, s5, s6, s7, s8, s9, s10, s11, s12, s13, s14, s15, s16⟩
        go_simp
        with_reducible rfl
       rotate_left
       ·simp only [Act.put, List.setIfInBounds_toArray, List.set_cons_zero, List.set_cons_succ, i64_w, i32_w]
        rfl
       refine join_ (σ := Value × Value × Value) 3 (tb 57 18014398509481983) (fun s_ => [(121, s_.1), (122, s_.2.1), (125, s_.2.2)]) (fun s_ w' => (w'.cell? ⟨gb213, 0, none⟩ = some (.string (⟨#[0]⟩ : ByteArray)) ∧ w'.cell? ⟨gb213, 1, none⟩ = some (.int .i64 0) ∧ w'.cell? ⟨gb213, 2, none⟩ = some (.int .i64 0) ∧ w'.cell? ⟨gb213, 3, none⟩ = some (.int .i64 315532800) ∧ w'.cell? ⟨gb213, 4, none⟩ = some (.int .i64 0) ∧ w'.cell? ⟨gb213, 5, none⟩ = some (.int .i64 0) ∧ w'.cell? ⟨gb213, 6, none⟩ = some (.int .i64 0) ∧ w'.cell? ⟨gb213, 7, none⟩ = some (.string (⟨#[]⟩ : ByteArray)) ∧ w'.cell? ⟨gb212, 0, none⟩ = some (.string (⟨#[65]⟩ : ByteArray)) ∧ w'.cell? ⟨gb212, 1, none⟩ = some (.int .i64 0) ∧ w'.cell? ⟨gb212, 2, none⟩ = some (.int .i64 0) ∧ w'.cell? ⟨gb212, 3, none⟩ = some (.int .i64 315532800) ∧ w'.cell? ⟨gb212, 4, none⟩ = some (.int .i64 0) ∧ w'.cell? ⟨gb212, 5, none⟩ = some (.int .i64 0) ∧ w'.cell? ⟨gb212, 6, none⟩ = some (.int .i64 0) ∧ w'.cell? ⟨gb212, 7, none⟩ = some (.string (⟨#[]⟩ : ByteArray)) ∧ w'.cell? ⟨ad229.block, ad229.off + 60, none⟩ = some (.int .i64 (rd t209 60))) ∧ (Kd.R (Kd.int .i64) 3 w' w.heap.size (fun k_ => some k_ ≠ (.slice Ao49 y206.length co49 : Value).ownBlock ∧ some k_ ≠ (.slice (some ad229) t209.length co67 : Value).ownBlock ∧ some k_ ≠ (.slice Ao64 t220.length co64 : Value).ownBlock ∧ some k_ ≠ (.slice Ao73 y234.length co73 : Value).ownBlock) (.slice Ao46 y200.length co46) y200) ∧ (Kd.R (Kd.int .i64) 3 w' w.heap.size (fun k_ => some k_ ≠ (.slice Ao46 y200.length co46 : Value).ownBlock ∧ some k_ ≠ (.slice (some ad229) t209.length co67 : Value).ownBlock ∧ some k_ ≠ (.slice Ao64 t220.length co64 : Value).ownBlock ∧ some k_ ≠ (.slice Ao73 y234.length co73 : Value).ownBlock) (.slice Ao49 y206.length co49) y206) ∧ (Kd.R (Kd.int .i64) 3 w' w.heap.size (fun k_ => some k_ ≠ (.slice Ao46 y200.length co46 : Value).ownBlock ∧ some k_ ≠ (.slice Ao49 y206.length co49 : Value).ownBlock ∧ some k_ ≠ (.slice Ao64 t220.length co64 : Value).ownBlock ∧ some k_ ≠ (.slice Ao73 y234.length co73 : Value).ownBlock) (.slice (some ad229) t209.length co67) t209) ∧ (Kd.R k45 45 w' w.heap.size (fun k_ => some k_ ≠ (.slice Ao62 t219.length co62 : Value).ownBlock ∧ some k_ ≠ (.slice Ao70 y230.length co70 : Value).ownBlock ∧ some k_ ≠ (s_.1 : Value).ownBlock ∧ some k_ ≠ (s_.2.1 : Value).ownBlock ∧ some k_ ≠ (s_.2.2 : Value).ownBlock ∧ k_ ≠ gb212 ∧ k_ ≠ gb213) (.slice Ao59 y214.length co59) y214) ∧ (Kd.R k45 45 w' w.heap.size (fun k_ => some k_ ≠ (.slice Ao59 y214.length co59 : Value).ownBlock ∧ some k_ ≠ (.slice Ao70 y230.length co70 : Value).ownBlock ∧ some k_ ≠ (s_.1 : Value).ownBlock ∧ some k_ ≠ (s_.2.1 : Value).ownBlock ∧ some k_ ≠ (s_.2.2 : Value).ownBlock ∧ k_ ≠ gb212 ∧ k_ ≠ gb213) (.slice Ao62 t219.length co62) t219) ∧ (Kd.R (Kd.int .i64) 3 w' w.heap.size (fun k_ => some k_ ≠ (.slice Ao46 y200.length co46 : Value).ownBlock ∧ some k_ ≠ (.slice Ao49 y206.length co49 : Value).ownBlock ∧ some k_ ≠ (.slice (some ad229) t209.length co67 : Value).ownBlock ∧ some k_ ≠ (.slice Ao73 y234.length co73 : Value).ownBlock) (.slice Ao64 t220.length co64) t220) ∧ (Kd.R k45 45 w' w.heap.size (fun k_ => some k_ ≠ (.slice Ao59 y214.length co59 : Value).ownBlock ∧ some k_ ≠ (.slice Ao62 t219.length co62 : Value).ownBlock ∧ some k_ ≠ (s_.1 : Value).ownBlock ∧ some k_ ≠ (s_.2.1 : Value).ownBlock ∧ some k_ ≠ (s_.2.2 : Value).ownBlock ∧ k_ ≠ gb212 ∧ k_ ≠ gb213) (.slice Ao70 y230.length co70) y230) ∧ (Kd.R (Kd.int .i64) 3 w' w.heap.size (fun k_ => some k_ ≠ (.slice Ao46 y200.length co46 : Value).ownBlock ∧ some k_ ≠ (.slice Ao49 y206.length co49 : Value).ownBlock ∧ some k_ ≠ (.slice (some ad229) t209.length co67 : Value).ownBlock ∧ some k_ ≠ (.slice Ao64 t220.length co64 : Value).ownBlock) (.slice Ao73 y234.length co73) y234) ∧ (Kd.R k45 45 w' w.heap.size (fun k_ => some k_ ≠ (.slice Ao59 y214.length co59 : Value).ownBlock ∧ some k_ ≠ (.slice Ao62 t219.length co62 : Value).ownBlock ∧ some k_ ≠ (.slice Ao70 y230.length co70 : Value).ownBlock ∧ some k_ ≠ (s_.2.1 : Value).ownBlock ∧ some k_ ≠ (s_.2.2 : Value).ownBlock ∧ k_ ≠ gb212 ∧ k_ ≠ gb213) s_.1 y238) ∧ (Kd.R k45 45 w' w.heap.size (fun k_ => some k_ ≠ (.slice Ao59 y214.length co59 : Value).ownBlock ∧ some k_ ≠ (.slice Ao62 t219.length co62 : Value).ownBlock ∧ some k_ ≠ (.slice Ao70 y230.length co70 : Value).ownBlock ∧ some k_ ≠ (s_.1 : Value).ownBlock ∧ some k_ ≠ (s_.2.2 : Value).ownBlock ∧ k_ ≠ gb212 ∧ k_ ≠ gb213) s_.2.1 t241) ∧ (Kd.R k45 45 w' w.heap.size (fun k_ => some k_ ≠ (.slice Ao59 y214.length co59 : Value).ownBlock ∧ some k_ ≠ (.slice Ao62 t219.length co62 : Value).ownBlock ∧ some k_ ≠ (.slice Ao70 y230.length co70 : Value).ownBlock ∧ some k_ ≠ (s_.1 : Value).ownBlock ∧ some k_ ≠ (s_.2.1 : Value).ownBlock ∧ k_ ≠ gb212 ∧ k_ ≠ gb213) s_.2.2 y244) ∧ (Kd.R Kd.string 9 w' w.heap.size (fun _ => True) (.slice Ao3 y191.length co3) y191) ∧ (w'.heap[gb212]? = some (.cells #[.string (⟨#[65]⟩ : ByteArray), .int .i64 0, .int .i64 0, .int .i64 315532800, .int .i64 0, .int .i64 0, .int .i64 0, .string (⟨#[]⟩ : ByteArray)] 45 (0, 0))) ∧ (w'.heap[gb213]? = some (.cells #[.string (⟨#[0]⟩ : ByteArray), .int .i64 0, .int .i64 0, .int .i64 315532800, .int .i64 0, .int .i64 0, .int .i64 0, .string (⟨#[]⟩ : ByteArray)] 45 (0, 0))) ∧ (Below w.heap.size w w')) ?_ ?_
       rotate_left
       ·intro hCont
        refine two_ (i := 49) (j := 53) (Ni := some 121) (Nj := some 125) (tb 57 7881299347898367) (tb 57 16325548649218047) rfl rfl rfl rfl (two_of HT_.out (by kernel_rfl)) (by decide) (by decide) (fun K hK => ?_) (fun K hK => ?_)
        ·skip
         refine Kd.R_lit_step k45 _ 45 ?hg (N := 121) ?hd (xs := ([(⟨(⟨#[65]⟩ : ByteArray), 0, 0, 315532800, 0, 0, 0, (⟨#[]⟩ : ByteArray)⟩ : S45), (⟨(⟨#[0]⟩ : ByteArray), 0, 0, 315532800, 0, 0, 0, (⟨#[]⟩ : ByteArray)⟩ : S45)] : List (S45))) (inner := [.string (⟨#[65]⟩ : ByteArray), .int .i64 0, .int .i64 0, .int .i64 315532800, .int .i64 0, .int .i64 0, .int .i64 0, .string (⟨#[]⟩ : ByteArray), .string (⟨#[0]⟩ : ByteArray), .int .i64 0, .int .i64 0, .int .i64 315532800, .int .i64 0, .int .i64 0, .int .i64 0, .string (⟨#[]⟩ : ByteArray)]) (ok := fun _ => True) (okp := fun _ => True) ?hr ?hp (fun _ hk => hk) trivial (Below.refl _ _) (Nat.le_refl _) (by simp) ?_; (case hd => rfl); (case hg => rfl); (case hr => first | (go_simp; done) | (go_simp; rfl)); (case hp => exact (Reps.c8 (show Kd.M k45 _ _ _ (⟨(⟨#[65]⟩ : ByteArray), 0, 0, 315532800, 0, 0, 0, (⟨#[]⟩ : ByteArray)⟩ : S45) [.string (⟨#[65]⟩ : ByteArray), .int .i64 0, .int .i64 0, .int .i64 315532800, .int .i64 0, .int .i64 0, .int .i64 0, .string (⟨#[]⟩ : ByteArray)] from (k45_mkM _ _ _ (⟨(⟨#[65]⟩ : ByteArray), 0, 0, 315532800, 0, 0, 0, (⟨#[]⟩ : ByteArray)⟩ : S45) )) (Reps.c8 (show Kd.M k45 _ _ _ (⟨(⟨#[0]⟩ : ByteArray), 0, 0, 315532800, 0, 0, 0, (⟨#[]⟩ : ByteArray)⟩ : S45) [.string (⟨#[0]⟩ : ByteArray), .int .i64 0, .int .i64 0, .int .i64 315532800, .int .i64 0, .int .i64 0, .int .i64 0, .string (⟨#[]⟩ : ByteArray)] from (k45_mkM _ _ _ (⟨(⟨#[0]⟩ : ByteArray), 0, 0, 315532800, 0, 0, 0, (⟨#[]⟩ : ByteArray)⟩ : S45) )) (Reps.none _ _))))
         intro v239 w74 ho75 hb hg_ hnew_
         have HS16_ := (hb.cell (World.block_lt_of_cell? _ _ (hHeld.2.2.2.2.2.2.2.2.2.2.2.2.2.2.2.2))).trans (hHeld.2.2.2.2.2.2.2.2.2.2.2.2.2.2.2.2)
         clear hg_ hnew_
         (first | rw [← Ny238.out] at ho75 | (simp only [Int.reduceToNat] at ho75; rw [← Ny238.out] at ho75))
         have n0_ := Aside0.mk (Kd.R_below (uR HO_1.out) hb)
         have n1_ := Aside0.mk (Kd.R_below (uR HO202.out) hb)
         have n2_ := Aside0.mk (Kd.R_below (uR HO208.out) hb)
         have n3_ := Aside0.mk (Kd.R_below (uR HO211.out) hb)
         have n4_ := Aside0.mk (Kd.R_elder' (uR HO216.out) (Kd.R_base ho75) hb)
         have n5_ := Aside0.mk (Kd.R_elder' (uR HO223.out) (Kd.R_base ho75) hb)
         have n6_ := Aside0.mk (Kd.R_below (uR HO225.out) hb)
         have n7_ := Aside0.mk (Kd.R_elder' (uR HO232.out) (Kd.R_base ho75) hb)
         have n8_ := Aside0.mk (Kd.R_below (uR HO236.out) hb)
         have n9_ := Aside0.mk (Kd.R_lower (Kd.R_newB (Kd.R_newB (Kd.R_new' (Kd.R_new' (Kd.R_new' ho75 (Kd.R_lt (uR HO216.out))) (Kd.R_lt (uR HO223.out))) (Kd.R_lt (uR HO232.out))) (g := gb212) (o := .cells #[.string (⟨#[65]⟩ : ByteArray), .int .i64 0, .int .i64 0, .int .i64 315532800, .int .i64 0, .int .i64 0, .int .i64 0, .string (⟨#[]⟩ : ByteArray)] 45 (0, 0)) (by (with_reducible repeat (first | refine blk_drewN ?_ _ | refine blk_drew ?_ | refine blk_alloc ?_ _)); exact BK212.out)) (g := gb213) (o := .cells #[.string (⟨#[0]⟩ : ByteArray), .int .i64 0, .int .i64 0, .int .i64 315532800, .int .i64 0, .int .i64 0, .int .i64 0, .string (⟨#[]⟩ : ByteArray)] 45 (0, 0)) (by (with_reducible repeat (first | refine blk_drewN ?_ _ | refine blk_drew ?_ | refine blk_alloc ?_ _)); exact BK213.out)) (below_size (by repeat (first | (with_reducible first | exact HB.out | apply below_alloc | apply pw_below_drewN | apply below_drew1 | refine below_set ?_ GE212.out | refine below_set ?_ GE213.out) | exact HB.out))))
         have n10_ := Aside0.mk (blk_below (g := gb212) (o := .cells #[.string (⟨#[65]⟩ : ByteArray), .int .i64 0, .int .i64 0, .int .i64 315532800, .int .i64 0, .int .i64 0, .int .i64 0, .string (⟨#[]⟩ : ByteArray)] 45 (0, 0)) (by (with_reducible repeat (first | refine blk_drewN ?_ _ | refine blk_drew ?_ | refine blk_alloc ?_ _)); exact BK212.out) hb)
         have n11_ := Aside0.mk (blk_below (g := gb213) (o := .cells #[.string (⟨#[0]⟩ : ByteArray), .int .i64 0, .int .i64 0, .int .i64 315532800, .int .i64 0, .int .i64 0, .int .i64 0, .string (⟨#[]⟩ : ByteArray)] 45 (0, 0)) (by (with_reducible repeat (first | refine blk_drewN ?_ _ | refine blk_drew ?_ | refine blk_alloc ?_ _)); exact BK213.out) hb)
         have n12_ := Aside0.mk (below_step (by repeat (first | (with_reducible first | exact HB.out | apply below_alloc | apply pw_below_drewN | apply below_drew1 | refine below_set ?_ GE212.out | refine below_set ?_ GE213.out) | exact HB.out)) hb)
         clear HO_1
         clear HO202
         clear HO208
         clear HO211
         clear HO216
         clear HO223
         clear HO225
         clear HO232
         clear HO236
         clear BK212
         clear BK213
         clear HB
         have HO_1 := n0_
         have HO202 := n1_
         have HO208 := n2_
         have HO211 := n3_
         have HO216 := n4_
         have HO223 := n5_
         have HO225 := n6_
         have HO232 := n7_
         have HO236 := n8_
         have HO240 := n9_
         have BK212 := n10_
         have BK213 := n11_
         have HB := n12_
         clear n0_ n1_ n2_ n3_ n4_ n5_ n6_ n7_ n8_ n9_ n10_ n11_ n12_
         clear hb ho75
         obtain ⟨Ao76, co76, eo76⟩ := Kd.R_slice HO240.out
         (first | subst eo76 | (injection eo76 with f1_ f2_ f3_; have f4_ := f1_.symm; have f5_ := f3_.symm; clear f1_ f2_ f3_; subst f4_; subst f5_))
         refine hK.out _ _ ⟨(blk_cell BK213.out 0).trans rfl, (blk_cell BK213.out 1).trans rfl, (blk_cell BK213.out 2).trans rfl, (blk_cell BK213.out 3).trans rfl, (blk_cell BK213.out 4).trans rfl, (blk_cell BK213.out 5).trans rfl, (blk_cell BK213.out 6).trans rfl, (blk_cell BK213.out 7).trans rfl, (blk_cell BK212.out 0).trans rfl, (blk_cell BK212.out 1).trans rfl, (blk_cell BK212.out 2).trans rfl, (blk_cell BK212.out 3).trans rfl, (blk_cell BK212.out 4).trans rfl, (blk_cell BK212.out 5).trans rfl, (blk_cell BK212.out 6).trans rfl, (blk_cell BK212.out 7).trans rfl, HS16_⟩ (fun hHeld => ?_)
         clear hK K
         refine norm_ (a' := ?_) ?_ ?_
         rotate_left
         ·show Act.put _ (some 121) _ = _
          simp only [Act.put, List.setIfInBounds_toArray, List.set_cons_zero, List.set_cons_succ, i64_w, i32_w]
          rfl
         refine two_ (i := 50) (j := 53) (Ni := some 122) (Nj := some 125) (tb 57 9007199254740991) (tb 57 16888498602639359) rfl rfl rfl rfl (two_of HT_.out (by kernel_rfl)) (by decide) (by decide) (fun K hK => ?_) (fun K hK => ?_)
         ·skip
          refine goes_ Tryz.func16 (by kernel_rfl) rfl #[.slice Ao76 y238.length co76, .bool true] (by rfl) rfl rfl (by (try simp only [List.map_toArray, List.map_cons, List.map_nil]); first | done | rfl | (simp only [List.length_drop, List.length_take]; rfl)) ?_
          with_reducible refine (directory_Sort.calls k1 _ _ y238 true t241 _ ?side1 ?side2 A42.out).mono ?_
          (case side1 => repeat (first | exact (Kd.R_reads' HO240.out).2.2 | (with_reducible refine Kd.C_alloc ?_ _) | (with_reducible refine Kd.C_drewN ?_ _) | (with_reducible refine Kd.C_drew ?_)))
          (case side2 => exact (Kd.R_reads' HO240.out).2.1)
          rintro e w77 ⟨v242, rfl, ho0, hb⟩
          have HS16_ := (hb.cell (World.block_lt_of_cell? _ _ (hHeld.2.2.2.2.2.2.2.2.2.2.2.2.2.2.2.2))).trans (hHeld.2.2.2.2.2.2.2.2.2.2.2.2.2.2.2.2)
          refine ⟨_, rfl, ?_⟩
          have n0_ := Aside0.mk (Kd.R_below (uR HO_1.out) hb)
          have n1_ := Aside0.mk (Kd.R_below (uR HO202.out) hb)
          have n2_ := Aside0.mk (Kd.R_below (uR HO208.out) hb)
          have n3_ := Aside0.mk (Kd.R_below (uR HO211.out) hb)
          have n4_ := Aside0.mk (Kd.R_elder' (uR HO216.out) (Kd.R_base ho0) hb)
          have n5_ := Aside0.mk (Kd.R_elder' (uR HO223.out) (Kd.R_base ho0) hb)
          have n6_ := Aside0.mk (Kd.R_below (uR HO225.out) hb)
          have n7_ := Aside0.mk (Kd.R_elder' (uR HO232.out) (Kd.R_base ho0) hb)
          have n8_ := Aside0.mk (Kd.R_below (uR HO236.out) hb)
          have n9_ := Aside0.mk (Kd.R_elder' (uR HO240.out) (Kd.R_base ho0) hb)
          have n10_ := Aside0.mk (Kd.R_lower (Kd.R_newB (Kd.R_newB (Kd.R_new' (Kd.R_new' (Kd.R_new' (Kd.R_new' ho0 (Kd.R_lt (uR HO216.out))) (Kd.R_lt (uR HO223.out))) (Kd.R_lt (uR HO232.out))) (Kd.R_lt (uR HO240.out))) (g := gb212) (o := .cells #[.string (⟨#[65]⟩ : ByteArray), .int .i64 0, .int .i64 0, .int .i64 315532800, .int .i64 0, .int .i64 0, .int .i64 0, .string (⟨#[]⟩ : ByteArray)] 45 (0, 0)) (by (with_reducible repeat (first | refine blk_drewN ?_ _ | refine blk_drew ?_ | refine blk_alloc ?_ _)); exact BK212.out)) (g := gb213) (o := .cells #[.string (⟨#[0]⟩ : ByteArray), .int .i64 0, .int .i64 0, .int .i64 315532800, .int .i64 0, .int .i64 0, .int .i64 0, .string (⟨#[]⟩ : ByteArray)] 45 (0, 0)) (by (with_reducible repeat (first | refine blk_drewN ?_ _ | refine blk_drew ?_ | refine blk_alloc ?_ _)); exact BK213.out)) (below_size (by repeat (first | (with_reducible first | exact HB.out | apply below_alloc | apply pw_below_drewN | apply below_drew1 | refine below_set ?_ GE212.out | refine below_set ?_ GE213.out) | exact HB.out))))
          have n11_ := Aside0.mk (blk_below (g := gb212) (o := .cells #[.string (⟨#[65]⟩ : ByteArray), .int .i64 0, .int .i64 0, .int .i64 315532800, .int .i64 0, .int .i64 0, .int .i64 0, .string (⟨#[]⟩ : ByteArray)] 45 (0, 0)) (by (with_reducible repeat (first | refine blk_drewN ?_ _ | refine blk_drew ?_ | refine blk_alloc ?_ _)); exact BK212.out) hb)
          have n12_ := Aside0.mk (blk_below (g := gb213) (o := .cells #[.string (⟨#[0]⟩ : ByteArray), .int .i64 0, .int .i64 0, .int .i64 315532800, .int .i64 0, .int .i64 0, .int .i64 0, .string (⟨#[]⟩ : ByteArray)] 45 (0, 0)) (by (with_reducible repeat (first | refine blk_drewN ?_ _ | refine blk_drew ?_ | refine blk_alloc ?_ _)); exact BK213.out) hb)
          have n13_ := Aside0.mk (below_step (by repeat (first | (with_reducible first | exact HB.out | apply below_alloc | apply pw_below_drewN | apply below_drew1 | refine below_set ?_ GE212.out | refine below_set ?_ GE213.out) | exact HB.out)) hb)
          clear HO_1
          clear HO202
          clear HO208
          clear HO211
          clear HO216
          clear HO223
          clear HO225
          clear HO232
          clear HO236
          clear HO240
          clear BK212
          clear BK213
          clear HB
          have HO_1 := n0_
          have HO202 := n1_
          have HO208 := n2_
          have HO211 := n3_
          have HO216 := n4_
          have HO223 := n5_
          have HO225 := n6_
          have HO232 := n7_
          have HO236 := n8_
          have HO240 := n9_
          have HO243 := n10_
          have BK212 := n11_
          have BK213 := n12_
          have HB := n13_
          clear n0_ n1_ n2_ n3_ n4_ n5_ n6_ n7_ n8_ n9_ n10_ n11_ n12_ n13_
          (try clear hb)
          (try clear hb2)
          (try clear hk)
          (try clear hi)
          (try clear ho0)
          refine hK.out _ _ ⟨(blk_cell BK213.out 0).trans rfl, (blk_cell BK213.out 1).trans rfl, (blk_cell BK213.out 2).trans rfl, (blk_cell BK213.out 3).trans rfl, (blk_cell BK213.out 4).trans rfl, (blk_cell BK213.out 5).trans rfl, (blk_cell BK213.out 6).trans rfl, (blk_cell BK213.out 7).trans rfl, (blk_cell BK212.out 0).trans rfl, (blk_cell BK212.out 1).trans rfl, (blk_cell BK212.out 2).trans rfl, (blk_cell BK212.out 3).trans rfl, (blk_cell BK212.out 4).trans rfl, (blk_cell BK212.out 5).trans rfl, (blk_cell BK212.out 6).trans rfl, (blk_cell BK212.out 7).trans rfl, HS16_⟩ (fun hHeld => ?_)
          clear hK K
          refine norm_ (a' := ?_) ?_ ?_
          rotate_left
          ·show Act.put _ (some 122) _ = _
           simp only [Act.put, List.setIfInBounds_toArray, List.set_cons_zero, List.set_cons_succ, i64_w, i32_w]
           rfl
          refine one_ (i := 53) (N := some 125) (tb 57 18014398509481983) rfl rfl (one_of HT_.out (by kernel_rfl)) (by decide) (fun K hK => ?_)
          refine Kd.R_lit_step k45 _ 45 ?hg (N := 125) ?hd (xs := ([(⟨(⟨#[0]⟩ : ByteArray), 0, 0, 315532800, 0, 0, 0, (⟨#[]⟩ : ByteArray)⟩ : S45), (⟨(⟨#[65]⟩ : ByteArray), 0, 0, 315532800, 0, 0, 0, (⟨#[]⟩ : ByteArray)⟩ : S45)] : List (S45))) (inner := [.string (⟨#[0]⟩ : ByteArray), .int .i64 0, .int .i64 0, .int .i64 315532800, .int .i64 0, .int .i64 0, .int .i64 0, .string (⟨#[]⟩ : ByteArray), .string (⟨#[65]⟩ : ByteArray), .int .i64 0, .int .i64 0, .int .i64 315532800, .int .i64 0, .int .i64 0, .int .i64 0, .string (⟨#[]⟩ : ByteArray)]) (ok := fun _ => True) (okp := fun _ => True) ?hr ?hp (fun _ hk => hk) trivial (Below.refl _ _) (Nat.le_refl _) (by simp) ?_; (case hd => rfl); (case hg => rfl); (case hr => first | (go_simp; done) | (go_simp; rfl)); (case hp => exact (Reps.c8 (show Kd.M k45 _ _ _ (⟨(⟨#[0]⟩ : ByteArray), 0, 0, 315532800, 0, 0, 0, (⟨#[]⟩ : ByteArray)⟩ : S45) [.string (⟨#[0]⟩ : ByteArray), .int .i64 0, .int .i64 0, .int .i64 315532800, .int .i64 0, .int .i64 0, .int .i64 0, .string (⟨#[]⟩ : ByteArray)] from (k45_mkM _ _ _ (⟨(⟨#[0]⟩ : ByteArray), 0, 0, 315532800, 0, 0, 0, (⟨#[]⟩ : ByteArray)⟩ : S45) )) (Reps.c8 (show Kd.M k45 _ _ _ (⟨(⟨#[65]⟩ : ByteArray), 0, 0, 315532800, 0, 0, 0, (⟨#[]⟩ : ByteArray)⟩ : S45) [.string (⟨#[65]⟩ : ByteArray), .int .i64 0, .int .i64 0, .int .i64 315532800, .int .i64 0, .int .i64 0, .int .i64 0, .string (⟨#[]⟩ : ByteArray)] from (k45_mkM _ _ _ (⟨(⟨#[65]⟩ : ByteArray), 0, 0, 315532800, 0, 0, 0, (⟨#[]⟩ : ByteArray)⟩ : S45) )) (Reps.none _ _))))
          intro v245 w78 ho79 hb hg_ hnew_
          have HS16_ := (hb.cell (World.block_lt_of_cell? _ _ (hHeld.2.2.2.2.2.2.2.2.2.2.2.2.2.2.2.2))).trans (hHeld.2.2.2.2.2.2.2.2.2.2.2.2.2.2.2.2)
          clear hg_ hnew_
          (first | rw [← Ny244.out] at ho79 | (simp only [Int.reduceToNat] at ho79; rw [← Ny244.out] at ho79))
          have n0_ := Aside0.mk (Kd.R_below (uR HO_1.out) hb)
          have n1_ := Aside0.mk (Kd.R_below (uR HO202.out) hb)
          have n2_ := Aside0.mk (Kd.R_below (uR HO208.out) hb)
          have n3_ := Aside0.mk (Kd.R_below (uR HO211.out) hb)
          have n4_ := Aside0.mk (Kd.R_elder' (uR HO216.out) (Kd.R_base ho79) hb)
          have n5_ := Aside0.mk (Kd.R_elder' (uR HO223.out) (Kd.R_base ho79) hb)
          have n6_ := Aside0.mk (Kd.R_below (uR HO225.out) hb)
          have n7_ := Aside0.mk (Kd.R_elder' (uR HO232.out) (Kd.R_base ho79) hb)
          have n8_ := Aside0.mk (Kd.R_below (uR HO236.out) hb)
          have n9_ := Aside0.mk (Kd.R_elder' (uR HO240.out) (Kd.R_base ho79) hb)
          have n10_ := Aside0.mk (Kd.R_elder' (uR HO243.out) (Kd.R_base ho79) hb)
          have n11_ := Aside0.mk (Kd.R_lower (Kd.R_newB (Kd.R_newB (Kd.R_new' (Kd.R_new' (Kd.R_new' (Kd.R_new' (Kd.R_new' ho79 (Kd.R_lt (uR HO216.out))) (Kd.R_lt (uR HO223.out))) (Kd.R_lt (uR HO232.out))) (Kd.R_lt (uR HO240.out))) (Kd.R_lt (uR HO243.out))) (g := gb212) (o := .cells #[.string (⟨#[65]⟩ : ByteArray), .int .i64 0, .int .i64 0, .int .i64 315532800, .int .i64 0, .int .i64 0, .int .i64 0, .string (⟨#[]⟩ : ByteArray)] 45 (0, 0)) (by (with_reducible repeat (first | refine blk_drewN ?_ _ | refine blk_drew ?_ | refine blk_alloc ?_ _)); exact BK212.out)) (g := gb213) (o := .cells #[.string (⟨#[0]⟩ : ByteArray), .int .i64 0, .int .i64 0, .int .i64 315532800, .int .i64 0, .int .i64 0, .int .i64 0, .string (⟨#[]⟩ : ByteArray)] 45 (0, 0)) (by (with_reducible repeat (first | refine blk_drewN ?_ _ | refine blk_drew ?_ | refine blk_alloc ?_ _)); exact BK213.out)) (below_size (by repeat (first | (with_reducible first | exact HB.out | apply below_alloc | apply pw_below_drewN | apply below_drew1 | refine below_set ?_ GE212.out | refine below_set ?_ GE213.out) | exact HB.out))))
          have n12_ := Aside0.mk (blk_below (g := gb212) (o := .cells #[.string (⟨#[65]⟩ : ByteArray), .int .i64 0, .int .i64 0, .int .i64 315532800, .int .i64 0, .int .i64 0, .int .i64 0, .string (⟨#[]⟩ : ByteArray)] 45 (0, 0)) (by (with_reducible repeat (first | refine blk_drewN ?_ _ | refine blk_drew ?_ | refine blk_alloc ?_ _)); exact BK212.out) hb)
          have n13_ := Aside0.mk (blk_below (g := gb213) (o := .cells #[.string (⟨#[0]⟩ : ByteArray), .int .i64 0, .int .i64 0, .int .i64 315532800, .int .i64 0, .int .i64 0, .int .i64 0, .string (⟨#[]⟩ : ByteArray)] 45 (0, 0)) (by (with_reducible repeat (first | refine blk_drewN ?_ _ | refine blk_drew ?_ | refine blk_alloc ?_ _)); exact BK213.out) hb)
          have n14_ := Aside0.mk (below_step (by repeat (first | (with_reducible first | exact HB.out | apply below_alloc | apply pw_below_drewN | apply below_drew1 | refine below_set ?_ GE212.out | refine below_set ?_ GE213.out) | exact HB.out)) hb)
          clear HO_1
          clear HO202
          clear HO208
          clear HO211
          clear HO216
          clear HO223
          clear HO225
          clear HO232
          clear HO236
          clear HO240
          clear HO243
          clear BK212
          clear BK213
          clear HB
          have HO_1 := n0_
          have HO202 := n1_
          have HO208 := n2_
          have HO211 := n3_
          have HO216 := n4_
          have HO223 := n5_
          have HO225 := n6_
          have HO232 := n7_
          have HO236 := n8_
          have HO240 := n9_
          have HO243 := n10_
          have HO246 := n11_
          have BK212 := n12_
          have BK213 := n13_
          have HB := n14_
          clear n0_ n1_ n2_ n3_ n4_ n5_ n6_ n7_ n8_ n9_ n10_ n11_ n12_ n13_ n14_
          clear hb ho79
          refine hK.out _ _ ⟨(blk_cell BK213.out 0).trans rfl, (blk_cell BK213.out 1).trans rfl, (blk_cell BK213.out 2).trans rfl, (blk_cell BK213.out 3).trans rfl, (blk_cell BK213.out 4).trans rfl, (blk_cell BK213.out 5).trans rfl, (blk_cell BK213.out 6).trans rfl, (blk_cell BK213.out 7).trans rfl, (blk_cell BK212.out 0).trans rfl, (blk_cell BK212.out 1).trans rfl, (blk_cell BK212.out 2).trans rfl, (blk_cell BK212.out 3).trans rfl, (blk_cell BK212.out 4).trans rfl, (blk_cell BK212.out 5).trans rfl, (blk_cell BK212.out 6).trans rfl, (blk_cell BK212.out 7).trans rfl, HS16_⟩ (fun hHeld => ?_)
          clear hK K
          refine norm_ (a' := ?_) ?_ ?_
          rotate_left
          ·show Act.put _ (some 125) _ = _
           simp only [Act.put, List.setIfInBounds_toArray, List.set_cons_zero, List.set_cons_succ, i64_w, i32_w]
           rfl
          exact norm_ (by simp only [putAll, Act.put, List.setIfInBounds_toArray, List.set_cons_zero, List.set_cons_succ]) (hCont (.slice Ao76 y238.length co76, v242, v245) _ ⟨hHeld, (by (with_reducible repeat (first | apply Kd.R_alloc | apply Kd.R_drewN | apply Kd.R_drew)); exact Kd.R_mono HO202.out (fun _ hk => ⟨hk.1.1.1.2, ⟨hk.1.1.2, ⟨hk.1.2, hk.2⟩⟩⟩)), (by (with_reducible repeat (first | apply Kd.R_alloc | apply Kd.R_drewN | apply Kd.R_drew)); exact Kd.R_mono HO208.out (fun _ hk => ⟨hk.1.1.1, ⟨hk.1.1.2, ⟨hk.1.2, hk.2⟩⟩⟩)), (by (with_reducible repeat (first | apply Kd.R_alloc | apply Kd.R_drewN | apply Kd.R_drew)); exact Kd.R_mono HO211.out (fun _ hk => ⟨hk.1.1.1.2, ⟨hk.1.1.2, ⟨hk.1.2, hk.2⟩⟩⟩)), (by (with_reducible repeat (first | apply Kd.R_alloc | apply Kd.R_drewN | apply Kd.R_drew)); exact Kd.R_mono HO216.out (fun _ hk => ⟨hk.1.1.1.1.2, ⟨hk.1.1.1.2, ⟨hk.1.1.2, ⟨hk.1.2, ⟨hk.2, ⟨hk.1.1.1.1.1.1.2, hk.1.1.1.1.1.2⟩⟩⟩⟩⟩⟩)), (by (with_reducible repeat (first | apply Kd.R_alloc | apply Kd.R_drewN | apply Kd.R_drew)); exact Kd.R_mono HO223.out (fun _ hk => ⟨hk.1.1.1.1.1.1.2, ⟨hk.1.1.1.2, ⟨hk.1.1.2, ⟨hk.1.2, ⟨hk.2, ⟨hk.1.1.1.1.1.2, hk.1.1.1.1.2⟩⟩⟩⟩⟩⟩)), (by (with_reducible repeat (first | apply Kd.R_alloc | apply Kd.R_drewN | apply Kd.R_drew)); exact Kd.R_mono HO225.out (fun _ hk => ⟨hk.1.1.1.2, ⟨hk.1.1.2, ⟨hk.1.2, hk.2⟩⟩⟩)), (by (with_reducible repeat (first | apply Kd.R_alloc | apply Kd.R_drewN | apply Kd.R_drew)); exact Kd.R_mono HO232.out (fun _ hk => ⟨hk.1.1.1.1.1.1.2, ⟨hk.1.1.1.1.1.2, ⟨hk.1.1.2, ⟨hk.1.2, ⟨hk.2, ⟨hk.1.1.1.1.2, hk.1.1.1.2⟩⟩⟩⟩⟩⟩)), (by (with_reducible repeat (first | apply Kd.R_alloc | apply Kd.R_drewN | apply Kd.R_drew)); exact Kd.R_mono HO236.out (fun _ hk => ⟨hk.1.1.1.2, ⟨hk.1.1.2, ⟨hk.1.2, hk.2⟩⟩⟩)), (by (with_reducible repeat (first | apply Kd.R_alloc | apply Kd.R_drewN | apply Kd.R_drew)); exact Kd.R_mono HO240.out (fun _ hk => ⟨hk.1.1.1.1.1.1.2, ⟨hk.1.1.1.1.1.2, ⟨hk.1.1.1.1.2, ⟨hk.1.2, ⟨hk.2, ⟨hk.1.1.1.2, hk.1.1.2⟩⟩⟩⟩⟩⟩)), (by (with_reducible repeat (first | apply Kd.R_alloc | apply Kd.R_drewN | apply Kd.R_drew)); exact Kd.R_mono HO243.out (fun _ hk => ⟨hk.1.1.1.1.1.1.2, ⟨hk.1.1.1.1.1.2, ⟨hk.1.1.1.1.2, ⟨hk.1.1.1.2, ⟨hk.2, ⟨hk.1.1.2, hk.1.2⟩⟩⟩⟩⟩⟩)), (by (with_reducible repeat (first | apply Kd.R_alloc | apply Kd.R_drewN | apply Kd.R_drew)); exact Kd.R_mono HO246.out (fun _ hk => ⟨hk.1.1.1.1.1.1.2, ⟨hk.1.1.1.1.1.2, ⟨hk.1.1.1.1.2, ⟨hk.1.1.1.2, ⟨hk.1.1.2, ⟨hk.1.2, hk.2⟩⟩⟩⟩⟩⟩)), (uR HO_1.out), (by (with_reducible repeat (first | refine blk_drewN ?_ _ | refine blk_drew ?_ | refine blk_alloc ?_ _)); exact BK212.out), (by (with_reducible repeat (first | refine blk_drewN ?_ _ | refine blk_drew ?_ | refine blk_alloc ?_ _)); exact BK213.out), (by repeat (first | (with_reducible first | exact HB.out | apply below_alloc | apply pw_below_drewN | apply below_drew1 | refine below_set ?_ GE212.out | refine below_set ?_ GE213.out) | exact HB.out))⟩)
         ·skip
          refine Kd.R_lit_step k45 _ 45 ?hg (N := 125) ?hd (xs := ([(⟨(⟨#[0]⟩ : ByteArray), 0, 0, 315532800, 0, 0, 0, (⟨#[]⟩ : ByteArray)⟩ : S45), (⟨(⟨#[65]⟩ : ByteArray), 0, 0, 315532800, 0, 0, 0, (⟨#[]⟩ : ByteArray)⟩ : S45)] : List (S45))) (inner := [.string (⟨#[0]⟩ : ByteArray), .int .i64 0, .int .i64 0, .int .i64 315532800, .int .i64 0, .int .i64 0, .int .i64 0, .string (⟨#[]⟩ : ByteArray), .string (⟨#[65]⟩ : ByteArray), .int .i64 0, .int .i64 0, .int .i64 315532800, .int .i64 0, .int .i64 0, .int .i64 0, .string (⟨#[]⟩ : ByteArray)]) (ok := fun _ => True) (okp := fun _ => True) ?hr ?hp (fun _ hk => hk) trivial (Below.refl _ _) (Nat.le_refl _) (by simp) ?_; (case hd => rfl); (case hg => rfl); (case hr => first | (go_simp; done) | (go_simp; rfl)); (case hp => exact (Reps.c8 (show Kd.M k45 _ _ _ (⟨(⟨#[0]⟩ : ByteArray), 0, 0, 315532800, 0, 0, 0, (⟨#[]⟩ : ByteArray)⟩ : S45) [.string (⟨#[0]⟩ : ByteArray), .int .i64 0, .int .i64 0, .int .i64 315532800, .int .i64 0, .int .i64 0, .int .i64 0, .string (⟨#[]⟩ : ByteArray)] from (k45_mkM _ _ _ (⟨(⟨#[0]⟩ : ByteArray), 0, 0, 315532800, 0, 0, 0, (⟨#[]⟩ : ByteArray)⟩ : S45) )) (Reps.c8 (show Kd.M k45 _ _ _ (⟨(⟨#[65]⟩ : ByteArray), 0, 0, 315532800, 0, 0, 0, (⟨#[]⟩ : ByteArray)⟩ : S45) [.string (⟨#[65]⟩ : ByteArray), .int .i64 0, .int .i64 0, .int .i64 315532800, .int .i64 0, .int .i64 0, .int .i64 0, .string (⟨#[]⟩ : ByteArray)] from (k45_mkM _ _ _ (⟨(⟨#[65]⟩ : ByteArray), 0, 0, 315532800, 0, 0, 0, (⟨#[]⟩ : ByteArray)⟩ : S45) )) (Reps.none _ _))))
          intro v245 w76 ho77 hb hg_ hnew_
          have HS16_ := (hb.cell (World.block_lt_of_cell? _ _ (hHeld.2.2.2.2.2.2.2.2.2.2.2.2.2.2.2.2))).trans (hHeld.2.2.2.2.2.2.2.2.2.2.2.2.2.2.2.2)
          clear hg_ hnew_
          (first | rw [← Ny244.out] at ho77 | (simp only [Int.reduceToNat] at ho77; rw [← Ny244.out] at ho77))
          have n0_ := Aside0.mk (Kd.R_below (uR HO_1.out) hb)
          have n1_ := Aside0.mk (Kd.R_below (uR HO202.out) hb)
          have n2_ := Aside0.mk (Kd.R_below (uR HO208.out) hb)
          have n3_ := Aside0.mk (Kd.R_below (uR HO211.out) hb)
          have n4_ := Aside0.mk (Kd.R_elder' (uR HO216.out) (Kd.R_base ho77) hb)
          have n5_ := Aside0.mk (Kd.R_elder' (uR HO223.out) (Kd.R_base ho77) hb)
          have n6_ := Aside0.mk (Kd.R_below (uR HO225.out) hb)
          have n7_ := Aside0.mk (Kd.R_elder' (uR HO232.out) (Kd.R_base ho77) hb)
          have n8_ := Aside0.mk (Kd.R_below (uR HO236.out) hb)
          have n9_ := Aside0.mk (Kd.R_elder' (uR HO240.out) (Kd.R_base ho77) hb)
          have n10_ := Aside0.mk (Kd.R_lower (Kd.R_newB (Kd.R_newB (Kd.R_new' (Kd.R_new' (Kd.R_new' (Kd.R_new' ho77 (Kd.R_lt (uR HO216.out))) (Kd.R_lt (uR HO223.out))) (Kd.R_lt (uR HO232.out))) (Kd.R_lt (uR HO240.out))) (g := gb212) (o := .cells #[.string (⟨#[65]⟩ : ByteArray), .int .i64 0, .int .i64 0, .int .i64 315532800, .int .i64 0, .int .i64 0, .int .i64 0, .string (⟨#[]⟩ : ByteArray)] 45 (0, 0)) (by (with_reducible repeat (first | refine blk_drewN ?_ _ | refine blk_drew ?_ | refine blk_alloc ?_ _)); exact BK212.out)) (g := gb213) (o := .cells #[.string (⟨#[0]⟩ : ByteArray), .int .i64 0, .int .i64 0, .int .i64 315532800, .int .i64 0, .int .i64 0, .int .i64 0, .string (⟨#[]⟩ : ByteArray)] 45 (0, 0)) (by (with_reducible repeat (first | refine blk_drewN ?_ _ | refine blk_drew ?_ | refine blk_alloc ?_ _)); exact BK213.out)) (below_size (by repeat (first | (with_reducible first | exact HB.out | apply below_alloc | apply pw_below_drewN | apply below_drew1 | refine below_set ?_ GE212.out | refine below_set ?_ GE213.out) | exact HB.out))))
          have n11_ := Aside0.mk (blk_below (g := gb212) (o := .cells #[.string (⟨#[65]⟩ : ByteArray), .int .i64 0, .int .i64 0, .int .i64 315532800, .int .i64 0, .int .i64 0, .int .i64 0, .string (⟨#[]⟩ : ByteArray)] 45 (0, 0)) (by (with_reducible repeat (first | refine blk_drewN ?_ _ | refine blk_drew ?_ | refine blk_alloc ?_ _)); exact BK212.out) hb)
          have n12_ := Aside0.mk (blk_below (g := gb213) (o := .cells #[.string (⟨#[0]⟩ : ByteArray), .int .i64 0, .int .i64 0, .int .i64 315532800, .int .i64 0, .int .i64 0, .int .i64 0, .string (⟨#[]⟩ : ByteArray)] 45 (0, 0)) (by (with_reducible repeat (first | refine blk_drewN ?_ _ | refine blk_drew ?_ | refine blk_alloc ?_ _)); exact BK213.out) hb)
          have n13_ := Aside0.mk (below_step (by repeat (first | (with_reducible first | exact HB.out | apply below_alloc | apply pw_below_drewN | apply below_drew1 | refine below_set ?_ GE212.out | refine below_set ?_ GE213.out) | exact HB.out)) hb)
          clear HO_1
          clear HO202
          clear HO208
          clear HO211
          clear HO216
          clear HO223
          clear HO225
          clear HO232
          clear HO236
          clear HO240
          clear BK212
          clear BK213
          clear HB
          have HO_1 := n0_
          have HO202 := n1_
          have HO208 := n2_
          have HO211 := n3_
          have HO216 := n4_
          have HO223 := n5_
          have HO225 := n6_
          have HO232 := n7_
          have HO236 := n8_
          have HO240 := n9_
          have HO246 := n10_
          have BK212 := n11_
          have BK213 := n12_
          have HB := n13_
          clear n0_ n1_ n2_ n3_ n4_ n5_ n6_ n7_ n8_ n9_ n10_ n11_ n12_ n13_
          clear hb ho77
          obtain ⟨Ao78, co78, eo78⟩ := Kd.R_slice HO240.out
          (first | subst eo78 | (injection eo78 with f1_ f2_ f3_; have f4_ := f1_.symm; have f5_ := f3_.symm; clear f1_ f2_ f3_; subst f4_; subst f5_))
          refine hK.out _ _ ⟨(blk_cell BK213.out 0).trans rfl, (blk_cell BK213.out 1).trans rfl, (blk_cell BK213.out 2).trans rfl, (blk_cell BK213.out 3).trans rfl, (blk_cell BK213.out 4).trans rfl, (blk_cell BK213.out 5).trans rfl, (blk_cell BK213.out 6).trans rfl, (blk_cell BK213.out 7).trans rfl, (blk_cell BK212.out 0).trans rfl, (blk_cell BK212.out 1).trans rfl, (blk_cell BK212.out 2).trans rfl, (blk_cell BK212.out 3).trans rfl, (blk_cell BK212.out 4).trans rfl, (blk_cell BK212.out 5).trans rfl, (blk_cell BK212.out 6).trans rfl, (blk_cell BK212.out 7).trans rfl, HS16_⟩ (fun hHeld => ?_)
          clear hK K
          refine norm_ (a' := ?_) ?_ ?_
          rotate_left
          ·show Act.put _ (some 125) _ = _
           simp only [Act.put, List.setIfInBounds_toArray, List.set_cons_zero, List.set_cons_succ, i64_w, i32_w]
           rfl
          refine one_ (i := 50) (N := some 122) (tb 57 18014398509481983) rfl rfl (one_of HT_.out (by kernel_rfl)) (by decide) (fun K hK => ?_)
          refine goes_ Tryz.func16 (by kernel_rfl) rfl #[.slice Ao78 y238.length co78, .bool true] (by rfl) rfl rfl (by (try simp only [List.map_toArray, List.map_cons, List.map_nil]); first | done | rfl | (simp only [List.length_drop, List.length_take]; rfl)) ?_
          with_reducible refine (directory_Sort.calls k1 _ _ y238 true t241 _ ?side1 ?side2 A42.out).mono ?_
          (case side1 => repeat (first | exact (Kd.R_reads' HO240.out).2.2 | (with_reducible refine Kd.C_alloc ?_ _) | (with_reducible refine Kd.C_drewN ?_ _) | (with_reducible refine Kd.C_drew ?_)))
          (case side2 => exact (Kd.R_reads' HO240.out).2.1)
          rintro e w79 ⟨v242, rfl, ho0, hb⟩
          have HS16_ := (hb.cell (World.block_lt_of_cell? _ _ (hHeld.2.2.2.2.2.2.2.2.2.2.2.2.2.2.2.2))).trans (hHeld.2.2.2.2.2.2.2.2.2.2.2.2.2.2.2.2)
          refine ⟨_, rfl, ?_⟩
          have n0_ := Aside0.mk (Kd.R_below (uR HO_1.out) hb)
          have n1_ := Aside0.mk (Kd.R_below (uR HO202.out) hb)
          have n2_ := Aside0.mk (Kd.R_below (uR HO208.out) hb)
          have n3_ := Aside0.mk (Kd.R_below (uR HO211.out) hb)
          have n4_ := Aside0.mk (Kd.R_elder' (uR HO216.out) (Kd.R_base ho0) hb)
          have n5_ := Aside0.mk (Kd.R_elder' (uR HO223.out) (Kd.R_base ho0) hb)
          have n6_ := Aside0.mk (Kd.R_below (uR HO225.out) hb)
          have n7_ := Aside0.mk (Kd.R_elder' (uR HO232.out) (Kd.R_base ho0) hb)
          have n8_ := Aside0.mk (Kd.R_below (uR HO236.out) hb)
          have n9_ := Aside0.mk (Kd.R_elder' (uR HO240.out) (Kd.R_base ho0) hb)
          have n10_ := Aside0.mk (Kd.R_elder' (uR HO246.out) (Kd.R_base ho0) hb)
          have n11_ := Aside0.mk (Kd.R_lower (Kd.R_newB (Kd.R_newB (Kd.R_new' (Kd.R_new' (Kd.R_new' (Kd.R_new' (Kd.R_new' ho0 (Kd.R_lt (uR HO216.out))) (Kd.R_lt (uR HO223.out))) (Kd.R_lt (uR HO232.out))) (Kd.R_lt (uR HO240.out))) (Kd.R_lt (uR HO246.out))) (g := gb212) (o := .cells #[.string (⟨#[65]⟩ : ByteArray), .int .i64 0, .int .i64 0, .int .i64 315532800, .int .i64 0, .int .i64 0, .int .i64 0, .string (⟨#[]⟩ : ByteArray)] 45 (0, 0)) (by (with_reducible repeat (first | refine blk_drewN ?_ _ | refine blk_drew ?_ | refine blk_alloc ?_ _)); exact BK212.out)) (g := gb213) (o := .cells #[.string (⟨#[0]⟩ : ByteArray), .int .i64 0, .int .i64 0, .int .i64 315532800, .int .i64 0, .int .i64 0, .int .i64 0, .string (⟨#[]⟩ : ByteArray)] 45 (0, 0)) (by (with_reducible repeat (first | refine blk_drewN ?_ _ | refine blk_drew ?_ | refine blk_alloc ?_ _)); exact BK213.out)) (below_size (by repeat (first | (with_reducible first | exact HB.out | apply below_alloc | apply pw_below_drewN | apply below_drew1 | refine below_set ?_ GE212.out | refine below_set ?_ GE213.out) | exact HB.out))))
          have n12_ := Aside0.mk (blk_below (g := gb212) (o := .cells #[.string (⟨#[65]⟩ : ByteArray), .int .i64 0, .int .i64 0, .int .i64 315532800, .int .i64 0, .int .i64 0, .int .i64 0, .string (⟨#[]⟩ : ByteArray)] 45 (0, 0)) (by (with_reducible repeat (first | refine blk_drewN ?_ _ | refine blk_drew ?_ | refine blk_alloc ?_ _)); exact BK212.out) hb)
          have n13_ := Aside0.mk (blk_below (g := gb213) (o := .cells #[.string (⟨#[0]⟩ : ByteArray), .int .i64 0, .int .i64 0, .int .i64 315532800, .int .i64 0, .int .i64 0, .int .i64 0, .string (⟨#[]⟩ : ByteArray)] 45 (0, 0)) (by (with_reducible repeat (first | refine blk_drewN ?_ _ | refine blk_drew ?_ | refine blk_alloc ?_ _)); exact BK213.out) hb)
          have n14_ := Aside0.mk (below_step (by repeat (first | (with_reducible first | exact HB.out | apply below_alloc | apply pw_below_drewN | apply below_drew1 | refine below_set ?_ GE212.out | refine below_set ?_ GE213.out) | exact HB.out)) hb)
          clear HO_1
          clear HO202
          clear HO208
          clear HO211
          clear HO216
          clear HO223
          clear HO225
          clear HO232
          clear HO236
          clear HO240
          clear HO246
          clear BK212
          clear BK213
          clear HB
          have HO_1 := n0_
          have HO202 := n1_
          have HO208 := n2_
          have HO211 := n3_
          have HO216 := n4_
          have HO223 := n5_
          have HO225 := n6_
          have HO232 := n7_
          have HO236 := n8_
          have HO240 := n9_
          have HO246 := n10_
          have HO243 := n11_
          have BK212 := n12_
          have BK213 := n13_
          have HB := n14_
          clear n0_ n1_ n2_ n3_ n4_ n5_ n6_ n7_ n8_ n9_ n10_ n11_ n12_ n13_ n14_
          (try clear hb)
          (try clear hb2)
          (try clear hk)
          (try clear hi)
          (try clear ho0)
          refine hK.out _ _ ⟨(blk_cell BK213.out 0).trans rfl, (blk_cell BK213.out 1).trans rfl, (blk_cell BK213.out 2).trans rfl, (blk_cell BK213.out 3).trans rfl, (blk_cell BK213.out 4).trans rfl, (blk_cell BK213.out 5).trans rfl, (blk_cell BK213.out 6).trans rfl, (blk_cell BK213.out 7).trans rfl, (blk_cell BK212.out 0).trans rfl, (blk_cell BK212.out 1).trans rfl, (blk_cell BK212.out 2).trans rfl, (blk_cell BK212.out 3).trans rfl, (blk_cell BK212.out 4).trans rfl, (blk_cell BK212.out 5).trans rfl, (blk_cell BK212.out 6).trans rfl, (blk_cell BK212.out 7).trans rfl, HS16_⟩ (fun hHeld => ?_)
          clear hK K
          refine norm_ (a' := ?_) ?_ ?_
          rotate_left
          ·show Act.put _ (some 122) _ = _
           simp only [Act.put, List.setIfInBounds_toArray, List.set_cons_zero, List.set_cons_succ, i64_w, i32_w]
           rfl
          exact norm_ (by simp only [putAll, Act.put, List.setIfInBounds_toArray, List.set_cons_zero, List.set_cons_succ]) (hCont (.slice Ao78 y238.length co78, v242, v245) _ ⟨hHeld, (by (with_reducible repeat (first | apply Kd.R_alloc | apply Kd.R_drewN | apply Kd.R_drew)); exact Kd.R_mono HO202.out (fun _ hk => ⟨hk.1.1.1.2, ⟨hk.1.1.2, ⟨hk.1.2, hk.2⟩⟩⟩)), (by (with_reducible repeat (first | apply Kd.R_alloc | apply Kd.R_drewN | apply Kd.R_drew)); exact Kd.R_mono HO208.out (fun _ hk => ⟨hk.1.1.1, ⟨hk.1.1.2, ⟨hk.1.2, hk.2⟩⟩⟩)), (by (with_reducible repeat (first | apply Kd.R_alloc | apply Kd.R_drewN | apply Kd.R_drew)); exact Kd.R_mono HO211.out (fun _ hk => ⟨hk.1.1.1.2, ⟨hk.1.1.2, ⟨hk.1.2, hk.2⟩⟩⟩)), (by (with_reducible repeat (first | apply Kd.R_alloc | apply Kd.R_drewN | apply Kd.R_drew)); exact Kd.R_mono HO216.out (fun _ hk => ⟨hk.1.1.1.1.2, ⟨hk.1.1.1.2, ⟨hk.1.1.2, ⟨hk.2, ⟨hk.1.2, ⟨hk.1.1.1.1.1.1.2, hk.1.1.1.1.1.2⟩⟩⟩⟩⟩⟩)), (by (with_reducible repeat (first | apply Kd.R_alloc | apply Kd.R_drewN | apply Kd.R_drew)); exact Kd.R_mono HO223.out (fun _ hk => ⟨hk.1.1.1.1.1.1.2, ⟨hk.1.1.1.2, ⟨hk.1.1.2, ⟨hk.2, ⟨hk.1.2, ⟨hk.1.1.1.1.1.2, hk.1.1.1.1.2⟩⟩⟩⟩⟩⟩)), (by (with_reducible repeat (first | apply Kd.R_alloc | apply Kd.R_drewN | apply Kd.R_drew)); exact Kd.R_mono HO225.out (fun _ hk => ⟨hk.1.1.1.2, ⟨hk.1.1.2, ⟨hk.1.2, hk.2⟩⟩⟩)), (by (with_reducible repeat (first | apply Kd.R_alloc | apply Kd.R_drewN | apply Kd.R_drew)); exact Kd.R_mono HO232.out (fun _ hk => ⟨hk.1.1.1.1.1.1.2, ⟨hk.1.1.1.1.1.2, ⟨hk.1.1.2, ⟨hk.2, ⟨hk.1.2, ⟨hk.1.1.1.1.2, hk.1.1.1.2⟩⟩⟩⟩⟩⟩)), (by (with_reducible repeat (first | apply Kd.R_alloc | apply Kd.R_drewN | apply Kd.R_drew)); exact Kd.R_mono HO236.out (fun _ hk => ⟨hk.1.1.1.2, ⟨hk.1.1.2, ⟨hk.1.2, hk.2⟩⟩⟩)), (by (with_reducible repeat (first | apply Kd.R_alloc | apply Kd.R_drewN | apply Kd.R_drew)); exact Kd.R_mono HO240.out (fun _ hk => ⟨hk.1.1.1.1.1.1.2, ⟨hk.1.1.1.1.1.2, ⟨hk.1.1.1.1.2, ⟨hk.2, ⟨hk.1.2, ⟨hk.1.1.1.2, hk.1.1.2⟩⟩⟩⟩⟩⟩)), (by (with_reducible repeat (first | apply Kd.R_alloc | apply Kd.R_drewN | apply Kd.R_drew)); exact Kd.R_mono HO243.out (fun _ hk => ⟨hk.1.1.1.1.1.1.2, ⟨hk.1.1.1.1.1.2, ⟨hk.1.1.1.1.2, ⟨hk.1.1.1.2, ⟨hk.1.1.2, ⟨hk.1.2, hk.2⟩⟩⟩⟩⟩⟩)), (by (with_reducible repeat (first | apply Kd.R_alloc | apply Kd.R_drewN | apply Kd.R_drew)); exact Kd.R_mono HO246.out (fun _ hk => ⟨hk.1.1.1.1.1.1.2, ⟨hk.1.1.1.1.1.2, ⟨hk.1.1.1.1.2, ⟨hk.1.1.1.2, ⟨hk.2, ⟨hk.1.1.2, hk.1.2⟩⟩⟩⟩⟩⟩)), (uR HO_1.out), (by (with_reducible repeat (first | refine blk_drewN ?_ _ | refine blk_drew ?_ | refine blk_alloc ?_ _)); exact BK212.out), (by (with_reducible repeat (first | refine blk_drewN ?_ _ | refine blk_drew ?_ | refine blk_alloc ?_ _)); exact BK213.out), (by repeat (first | (with_reducible first | exact HB.out | apply below_alloc | apply pw_below_drewN | apply below_drew1 | refine below_set ?_ GE212.out | refine below_set ?_ GE213.out) | exact HB.out))⟩)
        ·skip
         refine Kd.R_lit_step k45 _ 45 ?hg (N := 125) ?hd (xs := ([(⟨(⟨#[0]⟩ : ByteArray), 0, 0, 315532800, 0, 0, 0, (⟨#[]⟩ : ByteArray)⟩ : S45), (⟨(⟨#[65]⟩ : ByteArray), 0, 0, 315532800, 0, 0, 0, (⟨#[]⟩ : ByteArray)⟩ : S45)] : List (S45))) (inner := [.string (⟨#[0]⟩ : ByteArray), .int .i64 0, .int .i64 0, .int .i64 315532800, .int .i64 0, .int .i64 0, .int .i64 0, .string (⟨#[]⟩ : ByteArray), .string (⟨#[65]⟩ : ByteArray), .int .i64 0, .int .i64 0, .int .i64 315532800, .int .i64 0, .int .i64 0, .int .i64 0, .string (⟨#[]⟩ : ByteArray)]) (ok := fun _ => True) (okp := fun _ => True) ?hr ?hp (fun _ hk => hk) trivial (Below.refl _ _) (Nat.le_refl _) (by simp) ?_; (case hd => rfl); (case hg => rfl); (case hr => first | (go_simp; done) | (go_simp; rfl)); (case hp => exact (Reps.c8 (show Kd.M k45 _ _ _ (⟨(⟨#[0]⟩ : ByteArray), 0, 0, 315532800, 0, 0, 0, (⟨#[]⟩ : ByteArray)⟩ : S45) [.string (⟨#[0]⟩ : ByteArray), .int .i64 0, .int .i64 0, .int .i64 315532800, .int .i64 0, .int .i64 0, .int .i64 0, .string (⟨#[]⟩ : ByteArray)] from (k45_mkM _ _ _ (⟨(⟨#[0]⟩ : ByteArray), 0, 0, 315532800, 0, 0, 0, (⟨#[]⟩ : ByteArray)⟩ : S45) )) (Reps.c8 (show Kd.M k45 _ _ _ (⟨(⟨#[65]⟩ : ByteArray), 0, 0, 315532800, 0, 0, 0, (⟨#[]⟩ : ByteArray)⟩ : S45) [.string (⟨#[65]⟩ : ByteArray), .int .i64 0, .int .i64 0, .int .i64 315532800, .int .i64 0, .int .i64 0, .int .i64 0, .string (⟨#[]⟩ : ByteArray)] from (k45_mkM _ _ _ (⟨(⟨#[65]⟩ : ByteArray), 0, 0, 315532800, 0, 0, 0, (⟨#[]⟩ : ByteArray)⟩ : S45) )) (Reps.none _ _))))
         intro v245 w74 ho75 hb hg_ hnew_
         have HS16_ := (hb.cell (World.block_lt_of_cell? _ _ (hHeld.2.2.2.2.2.2.2.2.2.2.2.2.2.2.2.2))).trans (hHeld.2.2.2.2.2.2.2.2.2.2.2.2.2.2.2.2)
         clear hg_ hnew_
         (first | rw [← Ny244.out] at ho75 | (simp only [Int.reduceToNat] at ho75; rw [← Ny244.out] at ho75))
         have n0_ := Aside0.mk (Kd.R_below (uR HO_1.out) hb)
         have n1_ := Aside0.mk (Kd.R_below (uR HO202.out) hb)
         have n2_ := Aside0.mk (Kd.R_below (uR HO208.out) hb)
         have n3_ := Aside0.mk (Kd.R_below (uR HO211.out) hb)
         have n4_ := Aside0.mk (Kd.R_elder' (uR HO216.out) (Kd.R_base ho75) hb)
         have n5_ := Aside0.mk (Kd.R_elder' (uR HO223.out) (Kd.R_base ho75) hb)
         have n6_ := Aside0.mk (Kd.R_below (uR HO225.out) hb)
         have n7_ := Aside0.mk (Kd.R_elder' (uR HO232.out) (Kd.R_base ho75) hb)
         have n8_ := Aside0.mk (Kd.R_below (uR HO236.out) hb)
         have n9_ := Aside0.mk (Kd.R_lower (Kd.R_newB (Kd.R_newB (Kd.R_new' (Kd.R_new' (Kd.R_new' ho75 (Kd.R_lt (uR HO216.out))) (Kd.R_lt (uR HO223.out))) (Kd.R_lt (uR HO232.out))) (g := gb212) (o := .cells #[.string (⟨#[65]⟩ : ByteArray), .int .i64 0, .int .i64 0, .int .i64 315532800, .int .i64 0, .int .i64 0, .int .i64 0, .string (⟨#[]⟩ : ByteArray)] 45 (0, 0)) (by (with_reducible repeat (first | refine blk_drewN ?_ _ | refine blk_drew ?_ | refine blk_alloc ?_ _)); exact BK212.out)) (g := gb213) (o := .cells #[.string (⟨#[0]⟩ : ByteArray), .int .i64 0, .int .i64 0, .int .i64 315532800, .int .i64 0, .int .i64 0, .int .i64 0, .string (⟨#[]⟩ : ByteArray)] 45 (0, 0)) (by (with_reducible repeat (first | refine blk_drewN ?_ _ | refine blk_drew ?_ | refine blk_alloc ?_ _)); exact BK213.out)) (below_size (by repeat (first | (with_reducible first | exact HB.out | apply below_alloc | apply pw_below_drewN | apply below_drew1 | refine below_set ?_ GE212.out | refine below_set ?_ GE213.out) | exact HB.out))))
         have n10_ := Aside0.mk (blk_below (g := gb212) (o := .cells #[.string (⟨#[65]⟩ : ByteArray), .int .i64 0, .int .i64 0, .int .i64 315532800, .int .i64 0, .int .i64 0, .int .i64 0, .string (⟨#[]⟩ : ByteArray)] 45 (0, 0)) (by (with_reducible repeat (first | refine blk_drewN ?_ _ | refine blk_drew ?_ | refine blk_alloc ?_ _)); exact BK212.out) hb)
         have n11_ := Aside0.mk (blk_below (g := gb213) (o := .cells #[.string (⟨#[0]⟩ : ByteArray), .int .i64 0, .int .i64 0, .int .i64 315532800, .int .i64 0, .int .i64 0, .int .i64 0, .string (⟨#[]⟩ : ByteArray)] 45 (0, 0)) (by (with_reducible repeat (first | refine blk_drewN ?_ _ | refine blk_drew ?_ | refine blk_alloc ?_ _)); exact BK213.out) hb)
         have n12_ := Aside0.mk (below_step (by repeat (first | (with_reducible first | exact HB.out | apply below_alloc | apply pw_below_drewN | apply below_drew1 | refine below_set ?_ GE212.out | refine below_set ?_ GE213.out) | exact HB.out)) hb)
         clear HO_1
         clear HO202
         clear HO208
         clear HO211
         clear HO216
         clear HO223
         clear HO225
         clear HO232
         clear HO236
         clear BK212
         clear BK213
         clear HB
         have HO_1 := n0_
         have HO202 := n1_
         have HO208 := n2_
         have HO211 := n3_
         have HO216 := n4_
         have HO223 := n5_
         have HO225 := n6_
         have HO232 := n7_
         have HO236 := n8_
         have HO246 := n9_
         have BK212 := n10_
         have BK213 := n11_
         have HB := n12_
         clear n0_ n1_ n2_ n3_ n4_ n5_ n6_ n7_ n8_ n9_ n10_ n11_ n12_
         clear hb ho75
         refine hK.out _ _ ⟨(blk_cell BK213.out 0).trans rfl, (blk_cell BK213.out 1).trans rfl, (blk_cell BK213.out 2).trans rfl, (blk_cell BK213.out 3).trans rfl, (blk_cell BK213.out 4).trans rfl, (blk_cell BK213.out 5).trans rfl, (blk_cell BK213.out 6).trans rfl, (blk_cell BK213.out 7).trans rfl, (blk_cell BK212.out 0).trans rfl, (blk_cell BK212.out 1).trans rfl, (blk_cell BK212.out 2).trans rfl, (blk_cell BK212.out 3).trans rfl, (blk_cell BK212.out 4).trans rfl, (blk_cell BK212.out 5).trans rfl, (blk_cell BK212.out 6).trans rfl, (blk_cell BK212.out 7).trans rfl, HS16_⟩ (fun hHeld => ?_)
         clear hK K
         refine norm_ (a' := ?_) ?_ ?_
         rotate_left
         ·show Act.put _ (some 125) _ = _
          simp only [Act.put, List.setIfInBounds_toArray, List.set_cons_zero, List.set_cons_succ, i64_w, i32_w]
          rfl
         refine one_ (i := 49) (N := some 121) (tb 57 16888498602639359) rfl rfl (one_of HT_.out (by kernel_rfl)) (by decide) (fun K hK => ?_)
         refine Kd.R_lit_step k45 _ 45 ?hg (N := 121) ?hd (xs := ([(⟨(⟨#[65]⟩ : ByteArray), 0, 0, 315532800, 0, 0, 0, (⟨#[]⟩ : ByteArray)⟩ : S45), (⟨(⟨#[0]⟩ : ByteArray), 0, 0, 315532800, 0, 0, 0, (⟨#[]⟩ : ByteArray)⟩ : S45)] : List (S45))) (inner := [.string (⟨#[65]⟩ : ByteArray), .int .i64 0, .int .i64 0, .int .i64 315532800, .int .i64 0, .int .i64 0, .int .i64 0, .string (⟨#[]⟩ : ByteArray), .string (⟨#[0]⟩ : ByteArray), .int .i64 0, .int .i64 0, .int .i64 315532800, .int .i64 0, .int .i64 0, .int .i64 0, .string (⟨#[]⟩ : ByteArray)]) (ok := fun _ => True) (okp := fun _ => True) ?hr ?hp (fun _ hk => hk) trivial (Below.refl _ _) (Nat.le_refl _) (by simp) ?_; (case hd => rfl); (case hg => rfl); (case hr => first | (go_simp; done) | (go_simp; rfl)); (case hp => exact (Reps.c8 (show Kd.M k45 _ _ _ (⟨(⟨#[65]⟩ : ByteArray), 0, 0, 315532800, 0, 0, 0, (⟨#[]⟩ : ByteArray)⟩ : S45) [.string (⟨#[65]⟩ : ByteArray), .int .i64 0, .int .i64 0, .int .i64 315532800, .int .i64 0, .int .i64 0, .int .i64 0, .string (⟨#[]⟩ : ByteArray)] from (k45_mkM _ _ _ (⟨(⟨#[65]⟩ : ByteArray), 0, 0, 315532800, 0, 0, 0, (⟨#[]⟩ : ByteArray)⟩ : S45) )) (Reps.c8 (show Kd.M k45 _ _ _ (⟨(⟨#[0]⟩ : ByteArray), 0, 0, 315532800, 0, 0, 0, (⟨#[]⟩ : ByteArray)⟩ : S45) [.string (⟨#[0]⟩ : ByteArray), .int .i64 0, .int .i64 0, .int .i64 315532800, .int .i64 0, .int .i64 0, .int .i64 0, .string (⟨#[]⟩ : ByteArray)] from (k45_mkM _ _ _ (⟨(⟨#[0]⟩ : ByteArray), 0, 0, 315532800, 0, 0, 0, (⟨#[]⟩ : ByteArray)⟩ : S45) )) (Reps.none _ _))))
         intro v239 w76 ho77 hb hg_ hnew_
         have HS16_ := (hb.cell (World.block_lt_of_cell? _ _ (hHeld.2.2.2.2.2.2.2.2.2.2.2.2.2.2.2.2))).trans (hHeld.2.2.2.2.2.2.2.2.2.2.2.2.2.2.2.2)
         clear hg_ hnew_
         (first | rw [← Ny238.out] at ho77 | (simp only [Int.reduceToNat] at ho77; rw [← Ny238.out] at ho77))
         have n0_ := Aside0.mk (Kd.R_below (uR HO_1.out) hb)
         have n1_ := Aside0.mk (Kd.R_below (uR HO202.out) hb)
         have n2_ := Aside0.mk (Kd.R_below (uR HO208.out) hb)
         have n3_ := Aside0.mk (Kd.R_below (uR HO211.out) hb)
         have n4_ := Aside0.mk (Kd.R_elder' (uR HO216.out) (Kd.R_base ho77) hb)
         have n5_ := Aside0.mk (Kd.R_elder' (uR HO223.out) (Kd.R_base ho77) hb)
         have n6_ := Aside0.mk (Kd.R_below (uR HO225.out) hb)
         have n7_ := Aside0.mk (Kd.R_elder' (uR HO232.out) (Kd.R_base ho77) hb)
         have n8_ := Aside0.mk (Kd.R_below (uR HO236.out) hb)
         have n9_ := Aside0.mk (Kd.R_elder' (uR HO246.out) (Kd.R_base ho77) hb)
         have n10_ := Aside0.mk (Kd.R_lower (Kd.R_newB (Kd.R_newB (Kd.R_new' (Kd.R_new' (Kd.R_new' (Kd.R_new' ho77 (Kd.R_lt (uR HO216.out))) (Kd.R_lt (uR HO223.out))) (Kd.R_lt (uR HO232.out))) (Kd.R_lt (uR HO246.out))) (g := gb212) (o := .cells #[.string (⟨#[65]⟩ : ByteArray), .int .i64 0, .int .i64 0, .int .i64 315532800, .int .i64 0, .int .i64 0, .int .i64 0, .string (⟨#[]⟩ : ByteArray)] 45 (0, 0)) (by (with_reducible repeat (first | refine blk_drewN ?_ _ | refine blk_drew ?_ | refine blk_alloc ?_ _)); exact BK212.out)) (g := gb213) (o := .cells #[.string (⟨#[0]⟩ : ByteArray), .int .i64 0, .int .i64 0, .int .i64 315532800, .int .i64 0, .int .i64 0, .int .i64 0, .string (⟨#[]⟩ : ByteArray)] 45 (0, 0)) (by (with_reducible repeat (first | refine blk_drewN ?_ _ | refine blk_drew ?_ | refine blk_alloc ?_ _)); exact BK213.out)) (below_size (by repeat (first | (with_reducible first | exact HB.out | apply below_alloc | apply pw_below_drewN | apply below_drew1 | refine below_set ?_ GE212.out | refine below_set ?_ GE213.out) | exact HB.out))))
         have n11_ := Aside0.mk (blk_below (g := gb212) (o := .cells #[.string (⟨#[65]⟩ : ByteArray), .int .i64 0, .int .i64 0, .int .i64 315532800, .int .i64 0, .int .i64 0, .int .i64 0, .string (⟨#[]⟩ : ByteArray)] 45 (0, 0)) (by (with_reducible repeat (first | refine blk_drewN ?_ _ | refine blk_drew ?_ | refine blk_alloc ?_ _)); exact BK212.out) hb)
         have n12_ := Aside0.mk (blk_below (g := gb213) (o := .cells #[.string (⟨#[0]⟩ : ByteArray), .int .i64 0, .int .i64 0, .int .i64 315532800, .int .i64 0, .int .i64 0, .int .i64 0, .string (⟨#[]⟩ : ByteArray)] 45 (0, 0)) (by (with_reducible repeat (first | refine blk_drewN ?_ _ | refine blk_drew ?_ | refine blk_alloc ?_ _)); exact BK213.out) hb)
         have n13_ := Aside0.mk (below_step (by repeat (first | (with_reducible first | exact HB.out | apply below_alloc | apply pw_below_drewN | apply below_drew1 | refine below_set ?_ GE212.out | refine below_set ?_ GE213.out) | exact HB.out)) hb)
         clear HO_1
         clear HO202
         clear HO208
         clear HO211
         clear HO216
         clear HO223
         clear HO225
         clear HO232
         clear HO236
         clear HO246
         clear BK212
         clear BK213
         clear HB
         have HO_1 := n0_
         have HO202 := n1_
         have HO208 := n2_
         have HO211 := n3_
         have HO216 := n4_
         have HO223 := n5_
         have HO225 := n6_
         have HO232 := n7_
         have HO236 := n8_
         have HO246 := n9_
         have HO240 := n10_
         have BK212 := n11_
         have BK213 := n12_
         have HB := n13_
         clear n0_ n1_ n2_ n3_ n4_ n5_ n6_ n7_ n8_ n9_ n10_ n11_ n12_ n13_
         clear hb ho77
         obtain ⟨Ao78, co78, eo78⟩ := Kd.R_slice HO240.out
         (first | subst eo78 | (injection eo78 with f1_ f2_ f3_; have f4_ := f1_.symm; have f5_ := f3_.symm; clear f1_ f2_ f3_; subst f4_; subst f5_))
         refine hK.out _ _ ⟨(blk_cell BK213.out 0).trans rfl, (blk_cell BK213.out 1).trans rfl, (blk_cell BK213.out 2).trans rfl, (blk_cell BK213.out 3).trans rfl, (blk_cell BK213.out 4).trans rfl, (blk_cell BK213.out 5).trans rfl, (blk_cell BK213.out 6).trans rfl, (blk_cell BK213.out 7).trans rfl, (blk_cell BK212.out 0).trans rfl, (blk_cell BK212.out 1).trans rfl, (blk_cell BK212.out 2).trans rfl, (blk_cell BK212.out 3).trans rfl, (blk_cell BK212.out 4).trans rfl, (blk_cell BK212.out 5).trans rfl, (blk_cell BK212.out 6).trans rfl, (blk_cell BK212.out 7).trans rfl, HS16_⟩ (fun hHeld => ?_)
         clear hK K
         refine norm_ (a' := ?_) ?_ ?_
         rotate_left
         ·show Act.put _ (some 121) _ = _
          simp only [Act.put, List.setIfInBounds_toArray, List.set_cons_zero, List.set_cons_succ, i64_w, i32_w]
          rfl
         refine one_ (i := 50) (N := some 122) (tb 57 18014398509481983) rfl rfl (one_of HT_.out (by kernel_rfl)) (by decide) (fun K hK => ?_)
         refine goes_ Tryz.func16 (by kernel_rfl) rfl #[.slice Ao78 y238.length co78, .bool true] (by rfl) rfl rfl (by (try simp only [List.map_toArray, List.map_cons, List.map_nil]); first | done | rfl | (simp only [List.length_drop, List.length_take]; rfl)) ?_
         with_reducible refine (directory_Sort.calls k1 _ _ y238 true t241 _ ?side1 ?side2 A42.out).mono ?_
         (case side1 => repeat (first | exact (Kd.R_reads' HO240.out).2.2 | (with_reducible refine Kd.C_alloc ?_ _) | (with_reducible refine Kd.C_drewN ?_ _) | (with_reducible refine Kd.C_drew ?_)))
         (case side2 => exact (Kd.R_reads' HO240.out).2.1)
         rintro e w79 ⟨v242, rfl, ho0, hb⟩
         have HS16_ := (hb.cell (World.block_lt_of_cell? _ _ (hHeld.2.2.2.2.2.2.2.2.2.2.2.2.2.2.2.2))).trans (hHeld.2.2.2.2.2.2.2.2.2.2.2.2.2.2.2.2)
         refine ⟨_, rfl, ?_⟩
         have n0_ := Aside0.mk (Kd.R_below (uR HO_1.out) hb)
         have n1_ := Aside0.mk (Kd.R_below (uR HO202.out) hb)
         have n2_ := Aside0.mk (Kd.R_below (uR HO208.out) hb)
         have n3_ := Aside0.mk (Kd.R_below (uR HO211.out) hb)
         have n4_ := Aside0.mk (Kd.R_elder' (uR HO216.out) (Kd.R_base ho0) hb)
         have n5_ := Aside0.mk (Kd.R_elder' (uR HO223.out) (Kd.R_base ho0) hb)
         have n6_ := Aside0.mk (Kd.R_below (uR HO225.out) hb)
         have n7_ := Aside0.mk (Kd.R_elder' (uR HO232.out) (Kd.R_base ho0) hb)
         have n8_ := Aside0.mk (Kd.R_below (uR HO236.out) hb)
         have n9_ := Aside0.mk (Kd.R_elder' (uR HO246.out) (Kd.R_base ho0) hb)
         have n10_ := Aside0.mk (Kd.R_elder' (uR HO240.out) (Kd.R_base ho0) hb)
         have n11_ := Aside0.mk (Kd.R_lower (Kd.R_newB (Kd.R_newB (Kd.R_new' (Kd.R_new' (Kd.R_new' (Kd.R_new' (Kd.R_new' ho0 (Kd.R_lt (uR HO216.out))) (Kd.R_lt (uR HO223.out))) (Kd.R_lt (uR HO232.out))) (Kd.R_lt (uR HO246.out))) (Kd.R_lt (uR HO240.out))) (g := gb212) (o := .cells #[.string (⟨#[65]⟩ : ByteArray), .int .i64 0, .int .i64 0, .int .i64 315532800, .int .i64 0, .int .i64 0, .int .i64 0, .string (⟨#[]⟩ : ByteArray)] 45 (0, 0)) (by (with_reducible repeat (first | refine blk_drewN ?_ _ | refine blk_drew ?_ | refine blk_alloc ?_ _)); exact BK212.out)) (g := gb213) (o := .cells #[.string (⟨#[0]⟩ : ByteArray), .int .i64 0, .int .i64 0, .int .i64 315532800, .int .i64 0, .int .i64 0, .int .i64 0, .string (⟨#[]⟩ : ByteArray)] 45 (0, 0)) (by (with_reducible repeat (first | refine blk_drewN ?_ _ | refine blk_drew ?_ | refine blk_alloc ?_ _)); exact BK213.out)) (below_size (by repeat (first | (with_reducible first | exact HB.out | apply below_alloc | apply pw_below_drewN | apply below_drew1 | refine below_set ?_ GE212.out | refine below_set ?_ GE213.out) | exact HB.out))))
         have n12_ := Aside0.mk (blk_below (g := gb212) (o := .cells #[.string (⟨#[65]⟩ : ByteArray), .int .i64 0, .int .i64 0, .int .i64 315532800, .int .i64 0, .int .i64 0, .int .i64 0, .string (⟨#[]⟩ : ByteArray)] 45 (0, 0)) (by (with_reducible repeat (first | refine blk_drewN ?_ _ | refine blk_drew ?_ | refine blk_alloc ?_ _)); exact BK212.out) hb)
         have n13_ := Aside0.mk (blk_below (g := gb213) (o := .cells #[.string (⟨#[0]⟩ : ByteArray), .int .i64 0, .int .i64 0, .int .i64 315532800, .int .i64 0, .int .i64 0, .int .i64 0, .string (⟨#[]⟩ : ByteArray)] 45 (0, 0)) (by (with_reducible repeat (first | refine blk_drewN ?_ _ | refine blk_drew ?_ | refine blk_alloc ?_ _)); exact BK213.out) hb)
         have n14_ := Aside0.mk (below_step (by repeat (first | (with_reducible first | exact HB.out | apply below_alloc | apply pw_below_drewN | apply below_drew1 | refine below_set ?_ GE212.out | refine below_set ?_ GE213.out) | exact HB.out)) hb)
         clear HO_1
         clear HO202
         clear HO208
         clear HO211
         clear HO216
         clear HO223
         clear HO225
         clear HO232
         clear HO236
         clear HO246
         clear HO240
         clear BK212
         clear BK213
         clear HB
         have HO_1 := n0_
         have HO202 := n1_
         have HO208 := n2_
         have HO211 := n3_
         have HO216 := n4_
         have HO223 := n5_
         have HO225 := n6_
         have HO232 := n7_
         have HO236 := n8_
         have HO246 := n9_
         have HO240 := n10_
         have HO243 := n11_
         have BK212 := n12_
         have BK213 := n13_
         have HB := n14_
         clear n0_ n1_ n2_ n3_ n4_ n5_ n6_ n7_ n8_ n9_ n10_ n11_ n12_ n13_ n14_
         (try clear hb)
         (try clear hb2)
         (try clear hk)
         (try clear hi)
         (try clear ho0)
         refine hK.out _ _ ⟨(blk_cell BK213.out 0).trans rfl, (blk_cell BK213.out 1).trans rfl, (blk_cell BK213.out 2).trans rfl, (blk_cell BK213.out 3).trans rfl, (blk_cell BK213.out 4).trans rfl, (blk_cell BK213.out 5).trans rfl, (blk_cell BK213.out 6).trans rfl, (blk_cell BK213.out 7).trans rfl, (blk_cell BK212.out 0).trans rfl, (blk_cell BK212.out 1).trans rfl, (blk_cell BK212.out 2).trans rfl, (blk_cell BK212.out 3).trans rfl, (blk_cell BK212.out 4).trans rfl, (blk_cell BK212.out 5).trans rfl, (blk_cell BK212.out 6).trans rfl, (blk_cell BK212.out 7).trans rfl, HS16_⟩ (fun hHeld => ?_)
         clear hK K
         refine norm_ (a' := ?_) ?_ ?_
         rotate_left
         ·show Act.put _ (some 122) _ = _
          simp only [Act.put, List.setIfInBounds_toArray, List.set_cons_zero, List.set_cons_succ, i64_w, i32_w]
          rfl
         exact norm_ (by simp only [putAll, Act.put, List.setIfInBounds_toArray, List.set_cons_zero, List.set_cons_succ]) (hCont (.slice Ao78 y238.length co78, v242, v245) _ ⟨hHeld, (by (with_reducible repeat (first | apply Kd.R_alloc | apply Kd.R_drewN | apply Kd.R_drew)); exact Kd.R_mono HO202.out (fun _ hk => ⟨hk.1.1.1.2, ⟨hk.1.1.2, ⟨hk.1.2, hk.2⟩⟩⟩)), (by (with_reducible repeat (first | apply Kd.R_alloc | apply Kd.R_drewN | apply Kd.R_drew)); exact Kd.R_mono HO208.out (fun _ hk => ⟨hk.1.1.1, ⟨hk.1.1.2, ⟨hk.1.2, hk.2⟩⟩⟩)), (by (with_reducible repeat (first | apply Kd.R_alloc | apply Kd.R_drewN | apply Kd.R_drew)); exact Kd.R_mono HO211.out (fun _ hk => ⟨hk.1.1.1.2, ⟨hk.1.1.2, ⟨hk.1.2, hk.2⟩⟩⟩)), (by (with_reducible repeat (first | apply Kd.R_alloc | apply Kd.R_drewN | apply Kd.R_drew)); exact Kd.R_mono HO216.out (fun _ hk => ⟨hk.1.1.1.1.2, ⟨hk.1.1.1.2, ⟨hk.1.2, ⟨hk.2, ⟨hk.1.1.2, ⟨hk.1.1.1.1.1.1.2, hk.1.1.1.1.1.2⟩⟩⟩⟩⟩⟩)), (by (with_reducible repeat (first | apply Kd.R_alloc | apply Kd.R_drewN | apply Kd.R_drew)); exact Kd.R_mono HO223.out (fun _ hk => ⟨hk.1.1.1.1.1.1.2, ⟨hk.1.1.1.2, ⟨hk.1.2, ⟨hk.2, ⟨hk.1.1.2, ⟨hk.1.1.1.1.1.2, hk.1.1.1.1.2⟩⟩⟩⟩⟩⟩)), (by (with_reducible repeat (first | apply Kd.R_alloc | apply Kd.R_drewN | apply Kd.R_drew)); exact Kd.R_mono HO225.out (fun _ hk => ⟨hk.1.1.1.2, ⟨hk.1.1.2, ⟨hk.1.2, hk.2⟩⟩⟩)), (by (with_reducible repeat (first | apply Kd.R_alloc | apply Kd.R_drewN | apply Kd.R_drew)); exact Kd.R_mono HO232.out (fun _ hk => ⟨hk.1.1.1.1.1.1.2, ⟨hk.1.1.1.1.1.2, ⟨hk.1.2, ⟨hk.2, ⟨hk.1.1.2, ⟨hk.1.1.1.1.2, hk.1.1.1.2⟩⟩⟩⟩⟩⟩)), (by (with_reducible repeat (first | apply Kd.R_alloc | apply Kd.R_drewN | apply Kd.R_drew)); exact Kd.R_mono HO236.out (fun _ hk => ⟨hk.1.1.1.2, ⟨hk.1.1.2, ⟨hk.1.2, hk.2⟩⟩⟩)), (by (with_reducible repeat (first | apply Kd.R_alloc | apply Kd.R_drewN | apply Kd.R_drew)); exact Kd.R_mono HO240.out (fun _ hk => ⟨hk.1.1.1.1.1.1.2, ⟨hk.1.1.1.1.1.2, ⟨hk.1.1.1.1.2, ⟨hk.2, ⟨hk.1.1.1.2, ⟨hk.1.1.2, hk.1.2⟩⟩⟩⟩⟩⟩)), (by (with_reducible repeat (first | apply Kd.R_alloc | apply Kd.R_drewN | apply Kd.R_drew)); exact Kd.R_mono HO243.out (fun _ hk => ⟨hk.1.1.1.1.1.1.2, ⟨hk.1.1.1.1.1.2, ⟨hk.1.1.1.1.2, ⟨hk.1.1.2, ⟨hk.1.1.1.2, ⟨hk.1.2, hk.2⟩⟩⟩⟩⟩⟩)), (by (with_reducible repeat (first | apply Kd.R_alloc | apply Kd.R_drewN | apply Kd.R_drew)); exact Kd.R_mono HO246.out (fun _ hk => ⟨hk.1.1.1.1.1.1.2, ⟨hk.1.1.1.1.1.2, ⟨hk.1.1.1.1.2, ⟨hk.1.2, ⟨hk.2, ⟨hk.1.1.1.2, hk.1.1.2⟩⟩⟩⟩⟩⟩)), (uR HO_1.out), (by (with_reducible repeat (first | refine blk_drewN ?_ _ | refine blk_drew ?_ | refine blk_alloc ?_ _)); exact BK212.out), (by (with_reducible repeat (first | refine blk_drewN ?_ _ | refine blk_drew ?_ | refine blk_alloc ?_ _)); exact BK213.out), (by repeat (first | (with_reducible first | exact HB.out | apply below_alloc | apply pw_below_drewN | apply below_drew1 | refine below_set ?_ GE212.out | refine below_set ?_ GE213.out) | exact HB.out))⟩)
       rintro ⟨v239, v242, v245⟩ w80 ⟨hS_, h0_, h1_, h2_, h3_, h4_, h5_, h6_, h7_, h8_, h9_, h10_, h11_, h12_, h13_, h14_⟩
       have n0_ : Aside0 (Kd.R (Kd.int .i64) 3 w80 w.heap.size (fun k_ => some k_ ≠ (.slice Ao49 y206.length co49 : Value).ownBlock ∧ some k_ ≠ (.slice (some ad229) t209.length co67 : Value).ownBlock ∧ some k_ ≠ (.slice Ao64 t220.length co64 : Value).ownBlock ∧ some k_ ≠ (.slice Ao73 y234.length co73 : Value).ownBlock) (.slice Ao46 y200.length co46) y200) := ⟨h0_⟩
       have n1_ : Aside0 (Kd.R (Kd.int .i64) 3 w80 w.heap.size (fun k_ => some k_ ≠ (.slice Ao46 y200.length co46 : Value).ownBlock ∧ some k_ ≠ (.slice (some ad229) t209.length co67 : Value).ownBlock ∧ some k_ ≠ (.slice Ao64 t220.length co64 : Value).ownBlock ∧ some k_ ≠ (.slice Ao73 y234.length co73 : Value).ownBlock) (.slice Ao49 y206.length co49) y206) := ⟨h1_⟩
       have n2_ : Aside0 (Kd.R (Kd.int .i64) 3 w80 w.heap.size (fun k_ => some k_ ≠ (.slice Ao46 y200.length co46 : Value).ownBlock ∧ some k_ ≠ (.slice Ao49 y206.length co49 : Value).ownBlock ∧ some k_ ≠ (.slice Ao64 t220.length co64 : Value).ownBlock ∧ some k_ ≠ (.slice Ao73 y234.length co73 : Value).ownBlock) (.slice (some ad229) t209.length co67) t209) := ⟨h2_⟩
       have n3_ : Aside0 (Kd.R k45 45 w80 w.heap.size (fun k_ => some k_ ≠ (.slice Ao62 t219.length co62 : Value).ownBlock ∧ some k_ ≠ (.slice Ao70 y230.length co70 : Value).ownBlock ∧ some k_ ≠ (v239 : Value).ownBlock ∧ some k_ ≠ (v242 : Value).ownBlock ∧ some k_ ≠ (v245 : Value).ownBlock ∧ k_ ≠ gb212 ∧ k_ ≠ gb213) (.slice Ao59 y214.length co59) y214) := ⟨h3_⟩
       have n4_ : Aside0 (Kd.R k45 45 w80 w.heap.size (fun k_ => some k_ ≠ (.slice Ao59 y214.length co59 : Value).ownBlock ∧ some k_ ≠ (.slice Ao70 y230.length co70 : Value).ownBlock ∧ some k_ ≠ (v239 : Value).ownBlock ∧ some k_ ≠ (v242 : Value).ownBlock ∧ some k_ ≠ (v245 : Value).ownBlock ∧ k_ ≠ gb212 ∧ k_ ≠ gb213) (.slice Ao62 t219.length co62) t219) := ⟨h4_⟩
       have n5_ : Aside0 (Kd.R (Kd.int .i64) 3 w80 w.heap.size (fun k_ => some k_ ≠ (.slice Ao46 y200.length co46 : Value).ownBlock ∧ some k_ ≠ (.slice Ao49 y206.length co49 : Value).ownBlock ∧ some k_ ≠ (.slice (some ad229) t209.length co67 : Value).ownBlock ∧ some k_ ≠ (.slice Ao73 y234.length co73 : Value).ownBlock) (.slice Ao64 t220.length co64) t220) := ⟨h5_⟩
       have n6_ : Aside0 (Kd.R k45 45 w80 w.heap.size (fun k_ => some k_ ≠ (.slice Ao59 y214.length co59 : Value).ownBlock ∧ some k_ ≠ (.slice Ao62 t219.length co62 : Value).ownBlock ∧ some k_ ≠ (v239 : Value).ownBlock ∧ some k_ ≠ (v242 : Value).ownBlock ∧ some k_ ≠ (v245 : Value).ownBlock ∧ k_ ≠ gb212 ∧ k_ ≠ gb213) (.slice Ao70 y230.length co70) y230) := ⟨h6_⟩
       have n7_ : Aside0 (Kd.R (Kd.int .i64) 3 w80 w.heap.size (fun k_ => some k_ ≠ (.slice Ao46 y200.length co46 : Value).ownBlock ∧ some k_ ≠ (.slice Ao49 y206.length co49 : Value).ownBlock ∧ some k_ ≠ (.slice (some ad229) t209.length co67 : Value).ownBlock ∧ some k_ ≠ (.slice Ao64 t220.length co64 : Value).ownBlock) (.slice Ao73 y234.length co73) y234) := ⟨h7_⟩
       have n8_ : Aside0 (Kd.R k45 45 w80 w.heap.size (fun k_ => some k_ ≠ (.slice Ao59 y214.length co59 : Value).ownBlock ∧ some k_ ≠ (.slice Ao62 t219.length co62 : Value).ownBlock ∧ some k_ ≠ (.slice Ao70 y230.length co70 : Value).ownBlock ∧ some k_ ≠ (v242 : Value).ownBlock ∧ some k_ ≠ (v245 : Value).ownBlock ∧ k_ ≠ gb212 ∧ k_ ≠ gb213) v239 y238) := ⟨h8_⟩
       have n9_ : Aside0 (Kd.R k45 45 w80 w.heap.size (fun k_ => some k_ ≠ (.slice Ao59 y214.length co59 : Value).ownBlock ∧ some k_ ≠ (.slice Ao62 t219.length co62 : Value).ownBlock ∧ some k_ ≠ (.slice Ao70 y230.length co70 : Value).ownBlock ∧ some k_ ≠ (v239 : Value).ownBlock ∧ some k_ ≠ (v245 : Value).ownBlock ∧ k_ ≠ gb212 ∧ k_ ≠ gb213) v242 t241) := ⟨h9_⟩
       have n10_ : Aside0 (Kd.R k45 45 w80 w.heap.size (fun k_ => some k_ ≠ (.slice Ao59 y214.length co59 : Value).ownBlock ∧ some k_ ≠ (.slice Ao62 t219.length co62 : Value).ownBlock ∧ some k_ ≠ (.slice Ao70 y230.length co70 : Value).ownBlock ∧ some k_ ≠ (v239 : Value).ownBlock ∧ some k_ ≠ (v242 : Value).ownBlock ∧ k_ ≠ gb212 ∧ k_ ≠ gb213) v245 y244) := ⟨h10_⟩
       have n11_ : Aside0 (Kd.R Kd.string 9 w80 w.heap.size (fun _ => True) (.slice Ao3 y191.length co3) y191) := ⟨h11_⟩
       have n12_ : Aside0 (w80.heap[gb212]? = some (.cells #[.string (⟨#[65]⟩ : ByteArray), .int .i64 0, .int .i64 0, .int .i64 315532800, .int .i64 0, .int .i64 0, .int .i64 0, .string (⟨#[]⟩ : ByteArray)] 45 (0, 0))) := ⟨h12_⟩
       have n13_ : Aside0 (w80.heap[gb213]? = some (.cells #[.string (⟨#[0]⟩ : ByteArray), .int .i64 0, .int .i64 0, .int .i64 315532800, .int .i64 0, .int .i64 0, .int .i64 0, .string (⟨#[]⟩ : ByteArray)] 45 (0, 0))) := ⟨h13_⟩
       have n14_ : Aside0 (Below w.heap.size w w80) := ⟨h14_⟩
       clear HO_1
       clear HO202
       clear HO208
       clear HO211
       clear HO216
       clear HO223
       clear HO225
       clear BK212
       clear BK213
       clear HB
       clear h0_ h1_ h2_ h3_ h4_ h5_ h6_ h7_ h8_ h9_ h10_ h11_ h12_ h13_ h14_
       have HO202 := n0_
       have HO208 := n1_
       have HO211 := n2_
       have HO216 := n3_
       have HO223 := n4_
       have HO225 := n5_
       have HO232 := n6_
       have HO236 := n7_
       have HO240 := n8_
       have HO243 := n9_
       have HO246 := n10_
       have HO_1 := n11_
       have BK212 := n12_
       have BK213 := n13_
       have HB := n14_
       clear n0_ n1_ n2_ n3_ n4_ n5_ n6_ n7_ n8_ n9_ n10_ n11_ n12_ n13_ n14_
       have hHeld : w80.cell? ⟨gb213, 0, none⟩ = some (.string (⟨#[0]⟩ : ByteArray)) ∧ w80.cell? ⟨gb213, 1, none⟩ = some (.int .i64 0) ∧ w80.cell? ⟨gb213, 2, none⟩ = some (.int .i64 0) ∧ w80.cell? ⟨gb213, 3, none⟩ = some (.int .i64 315532800) ∧ w80.cell? ⟨gb213, 4, none⟩ = some (.int .i64 0) ∧ w80.cell? ⟨gb213, 5, none⟩ = some (.int .i64 0) ∧ w80.cell? ⟨gb213, 6, none⟩ = some (.int .i64 0) ∧ w80.cell? ⟨gb213, 7, none⟩ = some (.string (⟨#[]⟩ : ByteArray)) ∧ w80.cell? ⟨gb212, 0, none⟩ = some (.string (⟨#[65]⟩ : ByteArray)) ∧ w80.cell? ⟨gb212, 1, none⟩ = some (.int .i64 0) ∧ w80.cell? ⟨gb212, 2, none⟩ = some (.int .i64 0) ∧ w80.cell? ⟨gb212, 3, none⟩ = some (.int .i64 315532800) ∧ w80.cell? ⟨gb212, 4, none⟩ = some (.int .i64 0) ∧ w80.cell? ⟨gb212, 5, none⟩ = some (.int .i64 0) ∧ w80.cell? ⟨gb212, 6, none⟩ = some (.int .i64 0) ∧ w80.cell? ⟨gb212, 7, none⟩ = some (.string (⟨#[]⟩ : ByteArray)) ∧ w80.cell? ⟨ad229.block, ad229.off + 60, none⟩ = some (.int .i64 (rd t209 60)) := hS_
       obtain ⟨Ao81, co81, eo81⟩ := Kd.R_slice HO243.out
       (first | subst eo81 | (injection eo81 with f1_ f2_ f3_; have f4_ := f1_.symm; have f5_ := f3_.symm; clear f1_ f2_ f3_; subst f4_; subst f5_))
       obtain ⟨Ao82, co82, eo82⟩ := Kd.R_slice HO246.out
       (first | subst eo82 | (injection eo82 with f1_ f2_ f3_; have f4_ := f1_.symm; have f5_ := f3_.symm; clear f1_ f2_ f3_; subst f4_; subst f5_))
       refine norm_ (a' := ?_) ?_ ?_
       rotate_left
       ·simp only [putAll, Act.put, List.setIfInBounds_toArray, List.set_cons_zero, List.set_cons_succ]
        rfl
       refine one_ (i := 54) (N := some 126) (tb 57 36028797018963967) rfl rfl (one_of HT_.out (by kernel_rfl)) (by decide) (fun K hK => ?_)
       refine goes_ Tryz.func17 (by kernel_rfl) rfl #[.slice Ao81 t241.length co81, .slice Ao82 y244.length co82] (by rfl) rfl rfl (by (try simp only [List.map_toArray, List.map_cons, List.map_nil]); first | done | rfl | (simp only [List.length_drop, List.length_take]; rfl)) ?_
       with_reducible refine (masterdiscref21_Same.calls k1 _ _ t241 _ _ y244 true _ ?side1 ?side2 ?side3 ?side4 A43.out).mono ?_
       (case side1 => repeat (first | exact (Kd.R_reads' HO243.out).2.2 | (with_reducible refine Kd.C_alloc ?_ _) | (with_reducible refine Kd.C_drewN ?_ _) | (with_reducible refine Kd.C_drew ?_)))
       (case side2 => exact (Kd.R_reads' HO243.out).2.1)
       (case side3 => repeat (first | exact (Kd.R_reads' HO246.out).2.2 | (with_reducible refine Kd.C_alloc ?_ _) | (with_reducible refine Kd.C_drewN ?_ _) | (with_reducible refine Kd.C_drew ?_)))
       (case side4 => exact (Kd.R_reads' HO246.out).2.1)
       rintro e w' ⟨rfl, ⟨nd, rfl⟩⟩
       refine ⟨_, rfl, ?_⟩
       refine hK.out _ _ ⟨(blk_cell BK213.out 0).trans rfl, (blk_cell BK213.out 1).trans rfl, (blk_cell BK213.out 2).trans rfl, (blk_cell BK213.out 3).trans rfl, (blk_cell BK213.out 4).trans rfl, (blk_cell BK213.out 5).trans rfl, (blk_cell BK213.out 6).trans rfl, (blk_cell BK213.out 7).trans rfl, (blk_cell BK212.out 0).trans rfl, (blk_cell BK212.out 1).trans rfl, (blk_cell BK212.out 2).trans rfl, (blk_cell BK212.out 3).trans rfl, (blk_cell BK212.out 4).trans rfl, (blk_cell BK212.out 5).trans rfl, (blk_cell BK212.out 6).trans rfl, (blk_cell BK212.out 7).trans rfl, hHeld.2.2.2.2.2.2.2.2.2.2.2.2.2.2.2.2⟩ (fun hHeld => ?_)
       clear hK K
       refine norm_ (a' := ?_) ?_ ?_
       rotate_left
       ·show Act.put _ (some 126) _ = _
        simp only [Act.put, List.setIfInBounds_toArray, List.set_cons_zero, List.set_cons_succ, i64_w, i32_w]
        rfl
       refine pA (i := 55) (N := some 127) (tb 57 72057594037927935) (any_of HT_.out (by kernel_rfl)) ?_
       refine pA (i := 56) (N := some 0) (tb 57 144115188075855871) (any_of HT_.out (by kernel_rfl)) ?_
       refine done_ (done_of HT_.out (by kernel_rfl)) ?_
       try go_wp2
       go_ret
       exact ⟨by first | rfl | (simp [errW_none, errW_some] <;> rfl) | (simp [*, errW_none, errW_some] <;> rfl), by repeat (first | (with_reducible first | exact HB.out | apply below_alloc | apply pw_below_drewN | apply below_drew1 | refine below_set ?_ GE212.out | refine below_set ?_ GE213.out) | exact HB.out)⟩
      ·replace c40 := Bool.eq_false_iff.mpr c40
       subst c40
       have H1 : (some false) = some true := by rw [if_neg (show ¬ (false = true) by decide)] at H; exact H
       cases H1
     ·replace c39 := Bool.eq_false_iff.mpr c39
      subst c39
      have H1 : (some false) = some true := by rw [if_neg (show ¬ (false = true) by decide)] at H; exact H
      cases H1
    ·replace c37 := Bool.eq_false_iff.mpr c37
     subst c37
     have H1 : (some false) = some true := by rw [if_neg (show ¬ (false = true) by decide)] at H; exact H
     cases H1

open Go.Proofs.YthblghfobnhoeaaGreat.Q in
theorem aw_step (k : Nat) (hk : 400 ≤ k) (i : Nat) (hi : i < 7) : awakeP.l0 (k + 1) exY 7 (i : Int) = awakeP.l0 k exY 7 ((i + 1 : Nat) : Int) := by
 obtain ⟨v, u, h1, hv, h2, hu⟩ := ex_order i hi
 have h1 := lift_le (fun k => directory_Compare.mono _ _ _ k) hk h1
 have h2 := lift_le (fun k => directory_Compare.mono _ _ _ k) hk h2
 have hl : (exY.length : Int) = 8 := rfl
 have hw : wrap64 ((i : Int) + 1) = ((i + 1 : Nat) : Int) := by rw [wrap_id (by omega) (by omega)]; omega
 rw [awakeP.l0, hl, hw, if_pos (by omega), if_pos (by omega), if_pos (by omega), if_pos (by omega), if_pos (by omega), h1, Option.bind_some, if_neg (by omega), h2, Option.bind_some, if_neg (by omega)]
open Go.Proofs.YthblghfobnhoeaaGreat.Q in
theorem aw_last (k : Nat) (hk : 140000 ≤ k) : awakeP.l0 (k + 1) exY 7 7 = some true := by
 obtain ⟨t, ht, h1, h2⟩ := ex_offsets k (by omega)
 have he : (List.replicate 60 34 ++ [36] : List Int) = exN := rfl
 rw [awakeP.l0, if_neg (by decide), ex_repeat, Option.bind_some, if_pos (by rw [List.length_replicate]; decide), Option.bind_some, he, ht, Option.bind_some]
 have e1 := ex_encode k (by omega)
 have e2 := ex_decode k hk
 have e3 := ex_same k (by omega)
 have e4 := ex_sort k (by omega)
 unfold exX exA at e1 e2 e3 e4
 have e5 := ex_find
 unfold exX exA at e5
 rw [e1, Option.bind_some, e2, Option.bind_some, e5, Option.bind_some, ex_blocks k (by omega), Option.bind_some]
 have e6 := ex_equal k (by omega)
 repeat (first | rw [h1] | rw [h2] | rw [exS_size] | rw [e3, Option.bind_some] | rw [e6, Option.bind_some] | rw [e4, Option.bind_some] | rw [if_pos rfl] | rw [if_pos (show (60 : Int) < ((61 : Nat) : Int) by decide)] | rw [if_pos (show ((61 : Nat) : Int) = 61 by decide)] | rw [if_pos (show ((2048 : Nat) : Int) = 2048 by decide)])
open Go.Proofs.YthblghfobnhoeaaGreat.Q in
theorem awakeP_true : awakeP.f 150000 = some true := by
 unfold awakeP.f
 rw [Option.bind_some]
 show awakeP.l0 150000 exY (wrap64 ((exY.length : Int) - 1)) ((0 : Nat) : Int) = some true
 rw [show wrap64 ((exY.length : Int) - 1) = 7 from wrap_id (by decide) (by decide)]
 rw [aw_step 149999 (by decide) 0 (by decide), aw_step 149998 (by decide) 1 (by decide), aw_step 149997 (by decide) 2 (by decide), aw_step 149996 (by decide) 3 (by decide), aw_step 149995 (by decide) 4 (by decide), aw_step 149994 (by decide) 5 (by decide), aw_step 149993 (by decide) 6 (by decide)]
 exact aw_last 149992 (by decide)
/-- masterdisclaw21.awake: it is awake. -/
def masterdisclaw21_awake.f : Option Bool := some true
theorem masterdisclaw21_awake.calls (r : Bool) (w : World) (h : masterdisclaw21_awake.f = some r) :
  Calls Tryz.prog 9 #[] w fun e w' => e = .returned (.bool r) ∧ Below w.heap.size w w' := by
 obtain rfl := Option.some.inj h
 exact awakeP.calls 150000 w awakeP_true

end Go.Proofs.YthblghfobnhoeaaGreat.H
