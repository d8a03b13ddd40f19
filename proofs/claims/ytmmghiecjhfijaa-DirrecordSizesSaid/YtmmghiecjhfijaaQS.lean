import Derived.Test.YtmmghiecjhfijaaAx2
import Derived.Test.YtmmghiecjhfijaaH2d
import Derived.Test.YtmmghiecjhfijaaZx7
namespace Go.Proofs.Ytmmghiecjhfijaa.Q
open Go.RowKit Go.Proofs.YtmmghiecjhfijaaW.PrintWords Go.Proofs.YtmmghiecjhfijaaW.PrintLast Go.Proofs.Ytmmghiecjhfijaa.A
set_option linter.unusedVariables false

theorem wrap_id {x : Int} (h0 : -9223372036854775808 ≤ x) (h1 : x ≤ 9223372036854775807) : wrap64 x = x := by
  unfold wrap64; omega

/-- The size of a record, as the definitions say. -/
def sizeV (a b : Int) : Int :=
  if 1 ≤ a ∧ a ≤ 254 ∧ 0 ≤ b ∧ b ≤ 254 ∧ b % 2 = 0 then (if (34 + a) / 2 * 2 + b ≤ 254 then (34 + a) / 2 * 2 + b else 0) else 0

theorem padded_eq (a : Int) (h0 : 0 ≤ a) (h1 : a ≤ 1000) : dirrecord_padded.f a = some ((34 + a) / 2 * 2) := by
  unfold dirrecord_padded.f
  rw [wrap_id (x := 33 + a) (by omega) (by omega), wrap_id (x := 33 + a + 1) (by omega) (by omega)]
  rw [Int.tdiv_eq_ediv_of_nonneg (by omega)]
  rw [wrap_id (x := (33 + a + 1) / 2) (by omega) (by omega), wrap_id (by omega) (by omega)]
  congr 1
  omega

theorem size_eq (k : Nat) (a b : Int) : dirrecord_Size.f (k + 1) a b = some (sizeV a b) := by
  unfold dirrecord_Size.f sizeV
  by_cases h1 : a < 1
  · rw [if_pos h1, if_neg (by omega)]; simp [dirrecord_Size.j0]
  · rw [if_neg h1]
    by_cases h2 : a > 254
    · rw [if_pos h2, if_neg (by omega)]; simp [dirrecord_Size.j0]
    · rw [if_neg h2]
      by_cases h3 : b < 0
      · rw [if_pos h3, if_neg (by omega)]; simp [dirrecord_Size.j0]
      · rw [if_neg h3]
        by_cases h4 : b > 254
        · rw [if_pos h4, if_neg (by omega)]; simp [dirrecord_Size.j0]
        · rw [if_neg h4]
          have e : Int.tmod b 2 = b % 2 := Int.tmod_eq_emod_of_nonneg (by omega)
          rw [e]
          by_cases h5 : b % 2 = 0
          · rw [if_pos ⟨by omega, by omega, by omega, by omega, h5⟩]
            have e2 : (b % 2 != 0) = false := by simp [h5]
            rw [e2]
            simp only [dirrecord_Size.j0]
            rw [if_neg (by decide), padded_eq a (by omega) (by omega)]
            simp only [Option.bind_some]
            rw [wrap_id (by omega) (by omega)]
            split <;> rfl
          · rw [if_neg (by omega)]
            have e2 : (b % 2 != 0) = true := by simp [h5]
            rw [e2]
            simp [dirrecord_Size.j0]

end Go.Proofs.Ytmmghiecjhfijaa.Q

namespace Go.Proofs.Ytmmghiecjhfijaa.Q
open Go.RowKit Go.Proofs.YtmmghiecjhfijaaW.PrintWords Go.Proofs.YtmmghiecjhfijaaW.PrintLast Go.Proofs.Ytmmghiecjhfijaa.A Go.Proofs.Ytmmghiecjhfijaa.H
set_option linter.unusedVariables false

theorem zeros_size (n : Nat) : (strOfNums (List.replicate n 0)).size = n := by
  show ((List.replicate n (0 : Int)).map _).toArray.size = n
  simp
theorem encL_length (size : Int) (s1 s2 d : ByteArray) (a5 : Int) (s3 a0 : ByteArray) (t : List UInt8) :
    (encL size s1 s2 d a5 s3 a0 t).length = 6 + s1.size + s2.size + d.size + s3.size + a0.size + t.length := by
  unfold encL
  simp only [List.length_cons, List.length_append, Array.length_toList]
  simp only [ByteArray.size]
  omega
theorem bytes_size (l : List UInt8) : (⟨l.toArray⟩ : ByteArray).size = l.length := by
  show l.toArray.size = l.length
  simp

def theDate : ByteArray := ⟨#[126, 11, 16, 17, 4, 5, 4]⟩
def both20 : ByteArray := ⟨#[20, 0, 0, 0, 0, 0, 0, 20]⟩
def both5 : ByteArray := ⟨#[5, 0, 0, 0, 0, 0, 0, 5]⟩
def both1 : ByteArray := ⟨#[1, 0, 0, 1]⟩
theorem t_date : datetime_Record.f 400 1794845045 60 = some (theDate, 0) := by kernel_rfl
theorem t_both20 : endian_Both.f 20 4 = some (both20, 0) := by kernel_rfl
theorem t_both5 : endian_Both.f 5 4 = some (both5, 0) := by kernel_rfl
theorem t_both1 : endian_Both.f 1 2 = some (both1, 0) := by kernel_rfl

/-- The example with other strings: what is encoded has the size, or is refused where there is none. -/
theorem enc_zeros (x y : ByteArray) (hx : x.size ≤ 255) (hy : y.size ≤ 255) :
    ∃ s e, dirrecord_Encode.f 400 x 20 5 1794845045 60 0 1 y = some (s, e) ∧ (s.size : Int) = sizeV x.size y.size ∧ (e == 0) = decide (0 < sizeV x.size y.size) := by
  unfold dirrecord_Encode.f
  rw [if_pos ⟨by omega, by omega⟩]
  by_cases h0 : x.size = 0
  · rw [if_pos h0]
    have hz : sizeV x.size y.size = 0 := by unfold sizeV; rw [if_neg (by omega)]
    exact ⟨_, _, rfl, by rw [hz]; rfl, by rw [hz]; rfl⟩
  · rw [if_neg h0]
    by_cases h1 : (y.size : Int) % 2 ≠ 0
    · rw [if_pos h1]
      have hz : sizeV x.size y.size = 0 := by unfold sizeV; rw [if_neg (by omega)]
      exact ⟨_, _, rfl, by rw [hz]; rfl, by rw [hz]; rfl⟩
    · rw [if_neg h1, size_eq 399]
      simp only [Option.bind_some]
      by_cases h2 : sizeV x.size y.size = 0
      · rw [if_pos h2]
        exact ⟨_, _, rfl, by rw [h2]; rfl, by rw [h2]; rfl⟩
      · rw [if_neg h2, t_date, t_both20, t_both5, t_both1]
        simp only [Option.bind_some]
        have g1 : theDate.size = 7 := rfl
        have g2 : both20.size = 8 := rfl
        have g3 : both5.size = 8 := rfl
        have g4 : both1.size = 4 := rfl
        rw [if_pos ⟨by omega, by omega, by omega, by omega, by omega, by omega⟩, if_neg (by decide), if_neg (by decide), if_neg (by decide)]
        have hv : sizeV x.size y.size = (34 + (x.size : Int)) / 2 * 2 + y.size ∧ 0 < sizeV x.size y.size := by
          unfold sizeV at h2 ⊢
          split at h2
          · split at h2
            · rw [if_pos (by assumption), if_pos (by assumption)]
              omega
            · exact absurd rfl h2
          · exact absurd rfl h2
        have hd : decide (0 < sizeV x.size y.size) = true := decide_eq_true hv.2
        have ly : y.data.toList.length = y.size := Array.length_toList
        by_cases h3 : (x.size : Int) % 2 = 0
        · rw [if_pos h3]
          refine ⟨_, _, rfl, ?_, by rw [hd]; rfl⟩
          rw [bytes_size, encL_length, g1, g2, g3, g4, List.length_cons, ly, hv.1]
          omega
        · rw [if_neg h3]
          refine ⟨_, _, rfl, ?_, by rw [hd]; rfl⟩
          rw [bytes_size, encL_length, g1, g2, g3, g4, ly, hv.1]
          omega

end Go.Proofs.Ytmmghiecjhfijaa.Q

namespace Go.Proofs.Ytmmghiecjhfijaa.Q
open Go.RowKit Go.Proofs.YtmmghiecjhfijaaW.PrintWords Go.Proofs.YtmmghiecjhfijaaW.PrintLast Go.Proofs.Ytmmghiecjhfijaa.H
set_option linter.unusedVariables false

theorem zsize_eq (k : Nat) (a b : Int) : Z.dirrecord_Size.f (k + 1) a b = some (sizeV a b) := size_eq k a b
theorem z_example : Z.masterdisclaw20_example.f = some (⟨#[65, 46, 59, 49]⟩, 20, 5, 1794845045, 60, 0, 1, ⟨#[]⟩) := by kernel_rfl

theorem sizeV_facts (a b : Int) : 0 ≤ sizeV a b ∧ sizeV a b ≤ 254 ∧ sizeV a b % 2 = 0 ∧ (0 < sizeV a b → 34 ≤ sizeV a b) := by
  unfold sizeV
  split
  · split
    · refine ⟨by omega, by omega, by omega, fun _ => by omega⟩
    · refine ⟨by omega, by omega, by omega, fun h => by omega⟩
  · refine ⟨by omega, by omega, by omega, fun h => by omega⟩

theorem sizeV_grow (a b : Int) (h0 : 0 < sizeV a b) (h1 : sizeV a b ≤ 252) :
    sizeV a (b + 2) = sizeV a b + 2 ∧ sizeV (a + 2) b = sizeV a b + 2 ∧ (a % 2 = 0 → sizeV (a + 1) b = sizeV a b) := by
  unfold sizeV at h0 h1
  split at h0
  · rename_i hc
    rw [if_pos hc] at h1
    split at h0
    · rename_i hd
      rw [if_pos hd] at h1
      refine ⟨?_, ?_, ?_⟩
      · unfold sizeV
        rw [if_pos hc, if_pos hd, if_pos (by omega), if_pos (by omega)]
        omega
      · unfold sizeV
        rw [if_pos hc, if_pos hd, if_pos (by omega), if_pos (by omega)]
        omega
      · intro he
        unfold sizeV
        rw [if_pos hc, if_pos hd, if_pos (by omega), if_pos (by omega)]
        omega
    · exact absurd h0 (by omega)
  · exact absurd h0 (by omega)

/-- DirrecordSizes is true. -/
theorem sizes_true (a b : Int) (ha : 0 ≤ a ∧ a ≤ 255) (hb : 0 ≤ b ∧ b ≤ 255) : Z.masterdisclaw20_DirrecordSizes.f 400 a b = some true := by
  unfold Z.masterdisclaw20_DirrecordSizes.f
  have wa : wrap64 a = a := wrap_id (by omega) (by omega)
  have wb : wrap64 b = b := wrap_id (by omega) (by omega)
  have hw : masterdisclaw20_awake.f = some true := rfl
  rw [hw, wa, wb]
  simp only [Option.bind_some]
  rw [if_pos trivial, zsize_eq 399, z_example]
  simp only [Option.bind_some]
  rw [if_pos ha.1, if_pos (by omega), if_pos hb.1, if_pos (by omega)]
  obtain ⟨s, e, he, hs, hd⟩ := enc_zeros (strOfNums (List.replicate a.toNat 0)) (strOfNums (List.replicate b.toNat 0)) (by rw [zeros_size]; omega) (by rw [zeros_size]; omega)
  rw [zeros_size, zeros_size] at hs hd
  have ea : (a.toNat : Int) = a := by omega
  have eb : (b.toNat : Int) = b := by omega
  rw [ea, eb] at hs hd
  rw [he]
  simp only [Option.bind_some]
  obtain ⟨f0, f1, f2, f3⟩ := sizeV_facts a b
  have hn : ((e == 0) != decide (sizeV a b > 0)) = false := by
    rw [hd]
    cases decide (0 < sizeV a b) <;> rfl
  rw [if_neg (by rw [hn]; decide), if_pos hs]
  have ht : Int.tmod (sizeV a b) 2 = 0 := by rw [Int.tmod_eq_emod_of_nonneg f0]; exact f2
  rw [if_pos ht, if_neg (by omega)]
  have hj : ∀ x : Bool, x = false → Z.masterdisclaw20_DirrecordSizes.j0 400 a b (sizeV a b) x = some true := by
    intro x hx
    subst hx
    rw [Z.masterdisclaw20_DirrecordSizes.j0]
    rw [if_neg (by decide)]
    by_cases hz : sizeV a b = 0
    · rw [if_pos hz, Z.masterdisclaw20_DirrecordSizes.j1, if_pos rfl]
    · rw [if_neg hz]
      by_cases hq : sizeV a b > 252
      · rw [decide_eq_true hq, Z.masterdisclaw20_DirrecordSizes.j1, if_pos rfl]
      · rw [decide_eq_false hq, Z.masterdisclaw20_DirrecordSizes.j1, if_neg (by decide)]
        obtain ⟨g0, g1, g2⟩ := sizeV_grow a b (by omega) (by omega)
        rw [wrap_id (x := b + 2) (by omega) (by omega), wrap_id (x := a + 2) (by omega) (by omega), wrap_id (x := a + 1) (by omega) (by omega), wrap_id (x := sizeV a b + 2) (by omega) (by omega)]
        rw [zsize_eq 397, zsize_eq 397, zsize_eq 397]
        simp only [Option.bind_some]
        rw [if_pos g0, if_pos g1]
        have hm : Int.tmod a 2 = a % 2 := Int.tmod_eq_emod_of_nonneg ha.1
        rw [hm]
        by_cases h2 : a % 2 = 1
        · rw [if_pos h2]
        · rw [if_neg h2, g2 (by omega)]
          simp
  by_cases hp : sizeV a b > 0
  · rw [if_pos hp]
    exact hj _ (decide_eq_false (by have := f3 hp; omega))
  · rw [if_neg hp]
    exact hj _ rfl

theorem u8_range {n : Int} (h : (Lit.int .u8 n).wf = true) : 0 ≤ n ∧ n ≤ 255 := by
  have h2 : (decide ((0 : Int) ≤ n) && decide (n ≤ 255)) = true := h
  rw [Bool.and_eq_true, decide_eq_true_eq, decide_eq_true_eq] at h2
  exact h2

end Go.Proofs.Ytmmghiecjhfijaa.Q
