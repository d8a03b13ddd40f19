import Derived.Test.YtagnefbgclpccaaAx2
import Derived.Test.YtagnefbgclpccaaAx11
import Derived.Test.YtagnefbgclpccaaH1b
import Derived.Test.YtagnefbgclpccaaAx3
import Derived.Test.YtagnefbgclpccaaAx7
import Derived.Test.YtagnefbgclpccaaH2d
import Derived.Test.YtagnefbgclpccaaAx12
import Derived.Test.YtagnefbgclpccaaAx14
import Derived.Test.YtagnefbgclpccaaH3
import Derived.Test.YtagnefbgclpccaaAx15
namespace Go.Proofs.Ytagnefbgclpccaa.Q
open Go.RowKit Go.Proofs.YtagnefbgclpccaaW.PrintWords Go.Proofs.YtagnefbgclpccaaW.PrintLast Go.Proofs.Ytagnefbgclpccaa.A
set_option linter.unusedVariables false

theorem wrap_id {x : Int} (h0 : -9223372036854775808 ≤ x) (h1 : x ≤ 9223372036854775807) : wrap64 x = x := by
  unfold wrap64; omega

/-- The size of a record, as the definitions say. -/
def sizeV (a b : Int) : Int :=
  if 1 ≤ a ∧ a ≤ 254 ∧ 0 ≤ b ∧ b ≤ 254 ∧ b % 2 = 0 then (if (34 + a) / 2 * 2 + b ≤ 254 then (34 + a) / 2 * 2 + b else 0) else 0

theorem padded_eq (a : Int) (h0 : 0 ≤ a) (h1 : a ≤ 1000) : dirrecord_padded.f a = some ((34 + a) / 2 * 2) := by
  unfold dirrecord_padded.f
  rw [wrap_id (x := 33 + a) (by omega) (by omega), wrap_id (x := 33 + a + 1) (by omega) (by omega)]
  rw [Int.tdiv_eq_ediv_of_nonneg (by omega)]
  rw [wrap_id (x := (33 + a + 1) / 2) (by omega) (by omega), wrap_id (by omega) (by omega)]
  congr 1
  omega

theorem size_eq (k : Nat) (a b : Int) : dirrecord_Size.f (k + 1) a b = some (sizeV a b) := by
  unfold dirrecord_Size.f sizeV
  by_cases h1 : a < 1
  · rw [if_pos h1, if_neg (by omega)]; simp [dirrecord_Size.j0]
  · rw [if_neg h1]
    by_cases h2 : a > 254
    · rw [if_pos h2, if_neg (by omega)]; simp [dirrecord_Size.j0]
    · rw [if_neg h2]
      by_cases h3 : b < 0
      · rw [if_pos h3, if_neg (by omega)]; simp [dirrecord_Size.j0]
      · rw [if_neg h3]
        by_cases h4 : b > 254
        · rw [if_pos h4, if_neg (by omega)]; simp [dirrecord_Size.j0]
        · rw [if_neg h4]
          have e : Int.tmod b 2 = b % 2 := Int.tmod_eq_emod_of_nonneg (by omega)
          rw [e]
          by_cases h5 : b % 2 = 0
          · rw [if_pos ⟨by omega, by omega, by omega, by omega, h5⟩]
            have e2 : (b % 2 != 0) = false := by simp [h5]
            rw [e2]
            simp only [dirrecord_Size.j0]
            rw [if_neg (by decide), padded_eq a (by omega) (by omega)]
            simp only [Option.bind_some]
            rw [wrap_id (by omega) (by omega)]
            split <;> rfl
          · rw [if_neg (by omega)]
            have e2 : (b % 2 != 0) = true := by simp [h5]
            rw [e2]
            simp [dirrecord_Size.j0]

end Go.Proofs.Ytagnefbgclpccaa.Q

namespace Go.Proofs.Ytagnefbgclpccaa.Q
open Go.RowKit Go.Proofs.YtagnefbgclpccaaW.PrintWords Go.Proofs.YtagnefbgclpccaaW.PrintLast Go.Proofs.Ytagnefbgclpccaa.A
set_option linter.unusedVariables false

theorem rsize_eq (k : Nat) (a b : Int) : masterdiscref20_Size.f (k + 1) a b = some (sizeV a b) := by
  unfold masterdiscref20_Size.f sizeV
  by_cases h1 : a < 1
  · rw [if_pos h1, if_neg (by omega)]; simp [masterdiscref20_Size.j0]
  · rw [if_neg h1]
    by_cases h2 : a > 254
    · rw [if_pos h2, if_neg (by omega)]; simp [masterdiscref20_Size.j0]
    · rw [if_neg h2]
      by_cases h3 : b < 0
      · rw [if_pos h3, if_neg (by omega)]; simp [masterdiscref20_Size.j0]
      · rw [if_neg h3]
        by_cases h4 : b > 254
        · rw [if_pos h4, if_neg (by omega)]; simp [masterdiscref20_Size.j0]
        · rw [if_neg h4]
          have e : Int.tmod b 2 = b % 2 := Int.tmod_eq_emod_of_nonneg (by omega)
          have ea : Int.tmod a 2 = a % 2 := Int.tmod_eq_emod_of_nonneg (by omega)
          rw [e]
          by_cases h5 : b % 2 = 0
          · rw [if_pos ⟨by omega, by omega, by omega, by omega, h5⟩]
            have e2 : (b % 2 == 1) = false := by rw [h5]; rfl
            rw [e2]
            simp only [masterdiscref20_Size.j0]
            rw [if_neg (by decide), ea]
            rw [wrap_id (x := 33 + a) (by omega) (by omega), wrap_id (x := 33 + a + b) (by omega) (by omega), wrap_id (x := 33 + a + b + 1) (by omega) (by omega)]
            by_cases h6 : a % 2 = 0
            · rw [if_pos h6]
              by_cases h7 : 33 + a + b + 1 > 254
              · rw [if_pos h7, if_neg (by omega)]
              · rw [if_neg h7, if_pos (by omega)]; congr 1; omega
            · rw [if_neg h6]
              by_cases h7 : 33 + a + b > 254
              · rw [if_pos h7, if_neg (by omega)]
              · rw [if_neg h7, if_pos (by omega)]; congr 1; omega
          · rw [if_neg (by omega)]
            have e2 : (b % 2 == 1) = true := by
              have : b % 2 = 1 := by omega
              rw [this]; rfl
            rw [e2]
            simp [masterdiscref20_Size.j0]

end Go.Proofs.Ytagnefbgclpccaa.Q

namespace Go.Proofs.Ytagnefbgclpccaa.Q
open Go.RowKit Go.Proofs.YtagnefbgclpccaaW.PrintWords Go.Proofs.YtagnefbgclpccaaW.PrintLast Go.Proofs.Ytagnefbgclpccaa.A Go.Proofs.Ytagnefbgclpccaa.H
set_option linter.unusedVariables false

theorem nums_size (l : List Int) : (strOfNums l).size = l.length := by
  show (l.map _).toArray.size = l.length
  simp
theorem bt_nums (l : List Int) (i : Nat) (h : i < l.length) (h0 : 0 ≤ l[i]) (h1 : l[i] ≤ 255) : bt (strOfNums l) (i : Int) = l[i] := by
  have hs : i < (strOfNums l).data.size := by
    have := nums_size l
    show i < (strOfNums l).size
    omega
  have hb : (strOfNums l).data = (l.map (fun n => UInt8.ofNat n.toNat)).toArray := rfl
  have hg : (strOfNums l).data[i]? = some (UInt8.ofNat (l[i]).toNat) := by
    rw [hb]
    simp [h]
  have he : (strOfNums l).data[i]'hs = UInt8.ofNat (l[i]).toNat := by
    have h2 := Array.getElem?_eq_getElem (xs := (strOfNums l).data) hs
    rw [hg] at h2
    exact (Option.some.inj h2).symm
  have e : bt (strOfNums l) (i : Int) = (((strOfNums l).data[i]'hs).toNat : Int) := (bt_at (strOfNums l) (i : Int) hs).symm
  rw [e, he, UInt8.toNat_ofNat']
  omega

end Go.Proofs.Ytagnefbgclpccaa.Q

namespace Go.Proofs.Ytagnefbgclpccaa.Q
open Go.RowKit Go.Proofs.YtagnefbgclpccaaW.PrintWords Go.Proofs.YtagnefbgclpccaaW.PrintLast Go.Proofs.Ytagnefbgclpccaa.A Go.Proofs.Ytagnefbgclpccaa.H
set_option linter.unusedVariables false

def ydays (y : Int) : Int := if leapB y then 366 else 365
theorem leap_f (y : Int) : datetime_leap.f y = some (leapB y) := by
  unfold datetime_leap.f leapB
  by_cases h1 : Int.tmod y 400 = 0
  · rw [if_pos h1]; simp [h1]
  · rw [if_neg h1]
    by_cases h2 : Int.tmod y 4 = 0
    · rw [if_pos h2]; simp [h1, h2]
    · rw [if_neg h2]; simp [h1, h2]
theorem yearDays_f (y : Int) : datetime_yearDays.f y = some (ydays y) := by
  unfold datetime_yearDays.f ydays
  rw [leap_f, Option.bind_some]
  cases leapB y <;> rfl
theorem ydays_bd (y : Int) : 365 ≤ ydays y ∧ ydays y ≤ 366 := by
  unfold ydays
  split <;> omega

/-- The days of the first n months; the days of the first n years from 1970 on. -/
def msum (y : Int) : Nat → Int
  | 0 => 0
  | n + 1 => msum y n + mdays y (n + 1)
def ysum : Nat → Int
  | 0 => 0
  | n + 1 => ysum n + ydays (1970 + n)
theorem msum_12 (y : Int) : msum y 12 = ydays y := by
  simp only [msum, ydays, mdays, mlen]
  cases leapB y <;> decide
theorem ysum_ge (n : Nat) : 365 * (n : Int) ≤ ysum n := by
  induction n with
  | zero => simp [ysum]
  | succ n ih => have := ydays_bd (1970 + n); simp only [ysum]; omega
theorem msum_le (y : Int) (n : Nat) : 0 ≤ msum y n ∧ msum y n ≤ 31 * n := by
  induction n with
  | zero => simp [msum]
  | succ n ih => have := mdays_bd y (n + 1); simp only [msum]; omega
theorem ysum_le (n : Nat) : ysum n ≤ 366 * n := by
  induction n with
  | zero => simp [ysum]
  | succ n ih => have := ydays_bd (1970 + n); simp only [ysum]; omega
theorem msum_mono (y : Int) (a j : Nat) : msum y a + 28 * j ≤ msum y (a + j) := by
  induction j with
  | zero => simp
  | succ j ih => have := mdays_bd y (a + j + 1 : Nat); have e : msum y (a + (j + 1)) = msum y (a + j) + mdays y ((a + j : Nat) + 1) := rfl; rw [e]; push_cast at *; omega
theorem ysum_mono (a j : Nat) : ysum a + 365 * j ≤ ysum (a + j) := by
  induction j with
  | zero => simp
  | succ j ih => have := ydays_bd (1970 + (a + j : Nat)); have e : ysum (a + (j + 1)) = ysum (a + j) + ydays (1970 + (a + j : Nat)) := rfl; rw [e]; push_cast at *; omega

/-- A day of the calendar: the n-th year from 1970 on, its (m+1)-th month, the day d. -/
structure Cal (x : Int) (n m : Nat) (d : Int) : Prop where
  month : m ≤ 11
  day1 : 1 ≤ d
  day2 : d ≤ mdays (1970 + n) (m + 1)
  sum : ysum n + msum (1970 + n) m + (d - 1) = x

theorem Cal.inYear {x : Int} {n m : Nat} {d : Int} (h : Cal x n m d) : ysum n ≤ x ∧ x < ysum (n + 1) := by
  have h1 := msum_mono (1970 + n) (m + 1) (11 - m)
  have e : m + 1 + (11 - m) = 12 := by have := h.month; omega
  rw [e, msum_12] at h1
  have e2 : msum (1970 + n) (m + 1) = msum (1970 + n) m + mdays (1970 + n) (m + 1) := rfl
  have e3 : ysum (n + 1) = ysum n + ydays (1970 + n) := rfl
  have := (msum_le (1970 + n) m).1
  have := h.day1; have := h.day2; have := h.sum
  omega
theorem Cal.unique {x : Int} {n n' m m' : Nat} {d d' : Int} (h : Cal x n m d) (h' : Cal x n' m' d') : n = n' ∧ m = m' ∧ d = d' := by
  have hn : n = n' := by
    have a := h.inYear; have b := h'.inYear
    rcases Nat.lt_trichotomy n n' with hl | he | hl
    · have := ysum_mono (n + 1) (n' - (n + 1)); rw [show n + 1 + (n' - (n + 1)) = n' by omega] at this; omega
    · exact he
    · have := ysum_mono (n' + 1) (n - (n' + 1)); rw [show n' + 1 + (n - (n' + 1)) = n by omega] at this; omega
  subst hn
  have hm : m = m' := by
    have a1 := h.sum; have a2 := h'.sum; have b1 := h.day1; have b2 := h.day2; have c1 := h'.day1; have c2 := h'.day2
    have e1 : msum (1970 + n) (m + 1) = msum (1970 + n) m + mdays (1970 + n) (m + 1) := rfl
    have e2 : msum (1970 + n) (m' + 1) = msum (1970 + n) m' + mdays (1970 + n) (m' + 1) := rfl
    rcases Nat.lt_trichotomy m m' with hl | he | hl
    · have := msum_mono (1970 + n) (m + 1) (m' - (m + 1)); rw [show m + 1 + (m' - (m + 1)) = m' by omega] at this; omega
    · exact he
    · have := msum_mono (1970 + n) (m' + 1) (m - (m' + 1)); rw [show m' + 1 + (m - (m' + 1)) = m by omega] at this; omega
  subst hm
  have a1 := h.sum; have a2 := h'.sum
  exact ⟨rfl, rfl, by omega⟩

theorem split_l1 (j : Nat) : ∀ (k n i : Nat) (x : Int) (c2 c3 c4 c5 : Int), n + j = 11 → j + 1 ≤ k → i ≤ 1000 → 0 ≤ x → msum (1970 + i) n + x < ydays (1970 + i) →
    ∃ (m : Nat) (d : Int), datetime_Split.l1 k x (1970 + i) (n + 1) c2 c3 c4 c5 = some ((1970 : Int) + i, (m : Int) + 1, d, c3, c4, c5, 0) ∧ Cal (ysum i + msum (1970 + i) n + x) i m d := by
  induction j with
  | zero =>
    intro k n i x c2 c3 c4 c5 hn hk hi h0 hx
    obtain ⟨k, rfl⟩ : ∃ z, k = z + 1 := ⟨k - 1, by omega⟩
    obtain rfl : n = 11 := by omega
    have h12 := msum_12 (1970 + i)
    have e : msum (1970 + i) 12 = msum (1970 + i) 11 + mdays (1970 + i) 12 := rfl
    have hb := mdays_bd (1970 + i) 12
    refine ⟨11, x + 1, ?_, ⟨by omega, by omega, ?_, by omega⟩⟩
    · rw [datetime_Split.l1]
      unfold datetime_monthDays.f
      rw [if_pos (by omega), Option.bind_some]
      have e12 : ((11 : Nat) : Int) + 1 = 12 := rfl
      rw [e12, if_neg (by omega), wrap_id (by omega) (by omega)]
    · show x + 1 ≤ mdays (1970 + i) 12
      omega
  | succ j ih =>
    intro k n i x c2 c3 c4 c5 hn hk hi h0 hx
    obtain ⟨k, rfl⟩ : ∃ z, k = z + 1 := ⟨k - 1, by omega⟩
    have hb := mdays_bd (1970 + i) (n + 1)
    rw [datetime_Split.l1]
    unfold datetime_monthDays.f
    rw [if_pos (by omega), Option.bind_some]
    by_cases hc : x ≥ mdays (1970 + i) (n + 1)
    · rw [if_pos hc, Option.bind_some]
      have hy := ydays_bd (1970 + i)
      have hm := msum_le (1970 + i) n
      rw [wrap_id (x := x - mdays (1970 + i) (n + 1)) (by omega) (by omega), wrap_id (x := (n : Int) + 1 + 1) (by omega) (by omega)]
      have e : msum (1970 + i) (n + 1) = msum (1970 + i) n + mdays (1970 + i) (n + 1) := rfl
      obtain ⟨m, d, hl, hcal⟩ := ih k (n + 1) i (x - mdays (1970 + i) (n + 1)) c2 c3 c4 c5 (by omega) (by omega) hi (by omega) (by rw [e]; omega)
      refine ⟨m, d, ?_, ?_⟩
      · rw [← hl]; push_cast; rfl
      · have es : ysum i + msum (1970 + i) (n + 1) + (x - mdays (1970 + i) (n + 1)) = ysum i + msum (1970 + i) n + x := by rw [e]; omega
        rw [es] at hcal
        exact hcal
    · rw [if_neg hc]
      have hy := ydays_bd (1970 + i)
      have hm := msum_le (1970 + i) n
      refine ⟨n, x + 1, by rw [wrap_id (by omega) (by omega)], ⟨by omega, by omega, by omega, by omega⟩⟩

theorem split_l0 (j : Nat) : ∀ (k i : Nat) (x : Int) (c2 c3 c4 c5 : Int), j + 14 ≤ k → i + j ≤ 1000 → 0 ≤ x → x ≤ 365 * j →
    ∃ (n m : Nat) (d : Int), datetime_Split.l0 k x (1970 + i) 1 c2 c3 c4 c5 = some ((1970 : Int) + n, (m : Int) + 1, d, c3, c4, c5, 0) ∧ Cal (ysum i + x) n m d := by
  induction j with
  | zero =>
    intro k i x c2 c3 c4 c5 hk hi h0 hx
    obtain ⟨k, rfl⟩ : ∃ z, k = z + 1 := ⟨k - 1, by omega⟩
    have hy := ydays_bd (1970 + i)
    rw [datetime_Split.l0, yearDays_f, Option.bind_some, if_neg (by omega)]
    obtain ⟨m, d, hl, hcal⟩ := split_l1 11 k 0 i x c2 c3 c4 c5 rfl (by omega) (by omega) h0 (by simp only [msum]; omega)
    refine ⟨i, m, d, hl, ?_⟩
    simpa [msum] using hcal
  | succ j ih =>
    intro k i x c2 c3 c4 c5 hk hi h0 hx
    obtain ⟨k, rfl⟩ : ∃ z, k = z + 1 := ⟨k - 1, by omega⟩
    have hy := ydays_bd (1970 + i)
    rw [datetime_Split.l0, yearDays_f, Option.bind_some]
    by_cases hc : x ≥ ydays (1970 + i)
    · rw [if_pos hc, Option.bind_some, wrap_id (x := x - ydays (1970 + i)) (by omega) (by omega), wrap_id (x := (1970 : Int) + i + 1) (by omega) (by omega)]
      obtain ⟨n, m, d, hl, hcal⟩ := ih k (i + 1) (x - ydays (1970 + i)) c2 c3 c4 c5 (by omega) (by omega) (by omega) (by push_cast at hx; omega)
      refine ⟨n, m, d, ?_, ?_⟩
      · rw [← hl]; congr 1
      · have e : ysum (i + 1) = ysum i + ydays (1970 + i) := rfl
        have es : ysum (i + 1) + (x - ydays (1970 + i)) = ysum i + x := by rw [e]; omega
        rw [es] at hcal
        exact hcal
    · rw [if_neg hc]
      obtain ⟨m, d, hl, hcal⟩ := split_l1 11 k 0 i x c2 c3 c4 c5 rfl (by omega) (by omega) h0 (by simp only [msum]; omega)
      refine ⟨i, m, d, hl, ?_⟩
      simpa [msum] using hcal

end Go.Proofs.Ytagnefbgclpccaa.Q

namespace Go.Proofs.Ytagnefbgclpccaa.Q
open Go.RowKit Go.Proofs.YtagnefbgclpccaaW.PrintWords Go.Proofs.YtagnefbgclpccaaW.PrintLast Go.Proofs.Ytagnefbgclpccaa.A Go.Proofs.Ytagnefbgclpccaa.H
set_option linter.unusedVariables false

def TimeOk (t : Int) : Prop := 315532800 ≤ t ∧ t ≤ 4102444799
def ZoneOk (z : Int) : Prop := -1440 ≤ z ∧ z ≤ 1440
def QuarterOk (z : Int) : Prop := z % 15 = 0 ∧ -720 ≤ z ∧ z ≤ 780
instance (t : Int) : Decidable (TimeOk t) := inferInstanceAs (Decidable (_ ∧ _))
instance (t : Int) : Decidable (ZoneOk t) := inferInstanceAs (Decidable (_ ∧ _))
instance (t : Int) : Decidable (QuarterOk t) := inferInstanceAs (Decidable (_ ∧ _))
theorem isTime_f (t : Int) : datetime_isTime.f t = some (decide (TimeOk t)) := by
  unfold datetime_isTime.f TimeOk
  by_cases h : t ≥ 315532800
  · rw [if_pos h]; congr 1; exact decide_eq_decide.mpr ⟨fun h2 => ⟨h, h2⟩, fun h2 => h2.2⟩
  · rw [if_neg h]; congr 1; exact (decide_eq_false (fun h2 => h h2.1)).symm
theorem isZone_f (t : Int) : datetime_isZone.f t = some (decide (ZoneOk t)) := by
  unfold datetime_isZone.f ZoneOk
  by_cases h : t ≥ -1440
  · rw [if_pos h]; congr 1; exact decide_eq_decide.mpr ⟨fun h2 => ⟨h, h2⟩, fun h2 => h2.2⟩
  · rw [if_neg h]; congr 1; exact (decide_eq_false (fun h2 => h h2.1)).symm
theorem tmod15 (z : Int) : Int.tmod z 15 = 0 ↔ z % 15 = 0 := by
  constructor
  · intro h; exact Int.emod_eq_zero_of_dvd (Int.dvd_of_tmod_eq_zero h)
  · intro h; exact Int.tmod_eq_zero_of_dvd (Int.dvd_of_emod_eq_zero h)
theorem isQuarter_f (z : Int) : datetime_isQuarter.f z = some (decide (QuarterOk z)) := by
  unfold datetime_isQuarter.f QuarterOk
  by_cases h0 : Int.tmod z 15 = 0
  · rw [if_pos h0]
    have h1 := (tmod15 z).1 h0
    by_cases h : z ≥ -720
    · rw [if_pos h]; congr 1; exact decide_eq_decide.mpr ⟨fun h2 => ⟨h1, h, h2⟩, fun h2 => h2.2.2⟩
    · rw [if_neg h]; congr 1; exact (decide_eq_false (fun h2 => h h2.2.1)).symm
  · rw [if_neg h0]; congr 1; exact (decide_eq_false (fun h2 => h0 ((tmod15 z).2 h2.1))).symm

/-- Split refuses, or tells the clock. -/
theorem split_no (k : Nat) (t z : Int) (h : ¬ (TimeOk t ∧ ZoneOk z)) : datetime_Split.f (k + 1) t z = some (0, 0, 0, 0, 0, 0, 2) := by
  unfold datetime_Split.f
  rw [isTime_f, isZone_f, Option.bind_some, Option.bind_some]
  by_cases h1 : TimeOk t
  · rw [decide_eq_true h1, if_pos rfl, decide_eq_false (fun h2 => h ⟨h1, h2⟩), datetime_Split.j0]
    rfl
  · rw [decide_eq_false h1, if_neg (by decide), datetime_Split.j0]
    rfl
theorem split_yes (t z : Int) (ht : TimeOk t) (hz : ZoneOk z) :
    ∃ (n m : Nat) (d : Int), datetime_Split.f 400 t z = some ((1970 : Int) + n, (m : Int) + 1, d, (t + 60 * z) % 86400 / 3600, (t + 60 * z) / 60 % 60, (t + 60 * z) % 60, 0) ∧ Cal ((t + 60 * z) / 86400) n m d ∧ n ≤ 131 := by
  obtain ⟨t0, t1⟩ := ht
  obtain ⟨z0, z1⟩ := hz
  unfold datetime_Split.f
  rw [isTime_f, isZone_f, Option.bind_some, Option.bind_some, decide_eq_true (show TimeOk t from ⟨t0, t1⟩), if_pos rfl, decide_eq_true (show ZoneOk z from ⟨z0, z1⟩), datetime_Split.j0, if_neg (by decide)]
  have w1 : wrap64 (60 * z) = 60 * z := wrap_id (by omega) (by omega)
  rw [w1]
  have w2 : wrap64 (t + 60 * z) = t + 60 * z := wrap_id (by omega) (by omega)
  rw [w2]
  generalize hL : t + 60 * z = L
  have l0 : 0 ≤ L := by omega
  have l1 : L ≤ 4102531199 := by omega
  have e1 : Int.tdiv L 86400 = L / 86400 := Int.tdiv_eq_ediv_of_nonneg l0
  have e2 : Int.tmod L 86400 = L % 86400 := Int.tmod_eq_emod_of_nonneg l0
  have e3 : Int.tmod L 60 = L % 60 := Int.tmod_eq_emod_of_nonneg l0
  rw [e1, e2, e3]
  have e4 : Int.tdiv (L % 86400) 3600 = L % 86400 / 3600 := Int.tdiv_eq_ediv_of_nonneg (by omega)
  have e5 : Int.tdiv (L % 86400) 60 = L % 86400 / 60 := Int.tdiv_eq_ediv_of_nonneg (by omega)
  rw [e4, e5, wrap_id (x := L / 86400) (by omega) (by omega), wrap_id (x := L % 86400 / 3600) (by omega) (by omega), wrap_id (x := L % 86400 / 60) (by omega) (by omega)]
  have e6 : Int.tmod (L % 86400 / 60) 60 = L / 60 % 60 := by rw [Int.tmod_eq_emod_of_nonneg (by omega)]; omega
  rw [e6]
  obtain ⟨n, m, d, hl, hc⟩ := split_l0 131 399 0 (L / 86400) 0 (L % 86400 / 3600) (L / 60 % 60) (L % 60) (by omega) (by omega) (by omega) (by omega)
  refine ⟨n, m, d, ?_, ?_, ?_⟩
  · rw [← hl]; rfl
  · simpa [ysum] using hc
  · have h1 := hc.inYear.1
    have h2 := ysum_ge n
    simp [ysum] at h1
    omega

theorem wrap_i8 (n : Int) : IntKind.i8.wrap n = (n + 128) % 256 - 128 := by
  simp [IntKind.wrap, IntKind.bits, IntKind.signed]
  split <;> omega
/-- The seven bytes of a date. -/
def dateL (n m : Nat) (d L z : Int) : List Int := [(70 + n) % 256, ((m : Int) + 1) % 256, d % 256, (L % 86400 / 3600) % 256, (L / 60 % 60) % 256, (L % 60) % 256, (z / 15) % 256]
theorem record_no (k : Nat) (t z : Int) (h : ¬ (TimeOk t ∧ QuarterOk z)) : datetime_Record.f 400 t z = some (⟨#[]⟩, 2) := by
  unfold datetime_Record.f
  by_cases h1 : TimeOk t ∧ ZoneOk z
  · obtain ⟨n, m, d, hs, _⟩ := split_yes t z h1.1 h1.2
    rw [hs, Option.bind_some, if_pos rfl, isQuarter_f, Option.bind_some, decide_eq_false (fun h2 => h ⟨h1.1, h2⟩), if_neg (by decide)]
  · rw [split_no 399 t z h1, Option.bind_some, if_neg (by decide)]
theorem record_yes (t z : Int) (ht : TimeOk t) (hq : QuarterOk z) :
    ∃ (n m : Nat) (d : Int), datetime_Record.f 400 t z = some (strOfNums (dateL n m d (t + 60 * z) z), 0) ∧ Cal ((t + 60 * z) / 86400) n m d ∧ n ≤ 131 := by
  have hz : ZoneOk z := ⟨by have := hq.2.1; omega, by have := hq.2.2; omega⟩
  obtain ⟨n, m, d, hs, hc, hn⟩ := split_yes t z ht hz
  refine ⟨n, m, d, ?_, hc, hn⟩
  unfold datetime_Record.f
  rw [hs, Option.bind_some, if_pos rfl, isQuarter_f, Option.bind_some, decide_eq_true hq, if_pos rfl]
  have e1 : wrap64 (1970 + (n : Int) - 1900) = 70 + n := by rw [wrap_id (by omega) (by omega)]; omega
  have e2 : IntKind.i8.wrap (wrap64 (Int.tdiv z 15)) % 256 = z / 15 % 256 := by
    have e3 : Int.tdiv z 15 = z / 15 := Int.tdiv_eq_ediv_of_dvd (Int.dvd_of_emod_eq_zero hq.1)
    have := hq.2.1
    have := hq.2.2
    rw [e3, wrap_id (by omega) (by omega)]
    rw [wrap_i8]
    omega
  rw [e1, e2]
  rfl

end Go.Proofs.Ytagnefbgclpccaa.Q

namespace Go.Proofs.Ytagnefbgclpccaa.Q
open Go.RowKit Go.Proofs.YtagnefbgclpccaaW.PrintWords Go.Proofs.YtagnefbgclpccaaW.PrintLast Go.Proofs.Ytagnefbgclpccaa.A Go.Proofs.Ytagnefbgclpccaa.H
set_option linter.unusedVariables false

theorem zeros_size (n : Nat) : (strOfNums (List.replicate n 0)).size = n := by
  show ((List.replicate n (0 : Int)).map _).toArray.size = n
  simp
theorem encL_length (size : Int) (s1 s2 d : ByteArray) (a5 : Int) (s3 a0 : ByteArray) (t : List UInt8) :
    (encL size s1 s2 d a5 s3 a0 t).length = 6 + s1.size + s2.size + d.size + s3.size + a0.size + t.length := by
  unfold encL
  simp only [List.length_cons, List.length_append, Array.length_toList]
  simp only [ByteArray.size]
  omega
theorem bytes_size (l : List UInt8) : (⟨l.toArray⟩ : ByteArray).size = l.length := by
  show l.toArray.size = l.length
  simp

def theDate : ByteArray := ⟨#[126, 11, 16, 17, 4, 5, 4]⟩
def both20 : ByteArray := ⟨#[20, 0, 0, 0, 0, 0, 0, 20]⟩
def both5 : ByteArray := ⟨#[5, 0, 0, 0, 0, 0, 0, 5]⟩
def both1 : ByteArray := ⟨#[1, 0, 0, 1]⟩
theorem t_date : datetime_Record.f 400 1794845045 60 = some (theDate, 0) := by kernel_rfl
theorem t_both20 : endian_Both.f 20 4 = some (both20, 0) := by kernel_rfl
theorem t_both5 : endian_Both.f 5 4 = some (both5, 0) := by kernel_rfl
theorem t_both1 : endian_Both.f 1 2 = some (both1, 0) := by kernel_rfl

/-- The example with other strings: what is encoded has the size, or is refused where there is none. -/
theorem enc_zeros (x y : ByteArray) (hx : x.size ≤ 255) (hy : y.size ≤ 255) :
    ∃ s e, dirrecord_Encode.f 400 x 20 5 1794845045 60 0 1 y = some (s, e) ∧ (s.size : Int) = sizeV x.size y.size ∧ (e == 0) = decide (0 < sizeV x.size y.size) := by
  unfold dirrecord_Encode.f
  rw [if_pos ⟨by omega, by omega⟩]
  by_cases h0 : x.size = 0
  · rw [if_pos h0]
    have hz : sizeV x.size y.size = 0 := by unfold sizeV; rw [if_neg (by omega)]
    exact ⟨_, _, rfl, by rw [hz]; rfl, by rw [hz]; rfl⟩
  · rw [if_neg h0]
    by_cases h1 : (y.size : Int) % 2 ≠ 0
    · rw [if_pos h1]
      have hz : sizeV x.size y.size = 0 := by unfold sizeV; rw [if_neg (by omega)]
      exact ⟨_, _, rfl, by rw [hz]; rfl, by rw [hz]; rfl⟩
    · rw [if_neg h1, size_eq 399]
      simp only [Option.bind_some]
      by_cases h2 : sizeV x.size y.size = 0
      · rw [if_pos h2]
        exact ⟨_, _, rfl, by rw [h2]; rfl, by rw [h2]; rfl⟩
      · rw [if_neg h2, t_date, t_both20, t_both5, t_both1]
        simp only [Option.bind_some]
        have g1 : theDate.size = 7 := rfl
        have g2 : both20.size = 8 := rfl
        have g3 : both5.size = 8 := rfl
        have g4 : both1.size = 4 := rfl
        rw [if_pos ⟨by omega, by omega, by omega, by omega, by omega, by omega⟩, if_neg (by decide), if_neg (by decide), if_neg (by decide)]
        have hv : sizeV x.size y.size = (34 + (x.size : Int)) / 2 * 2 + y.size ∧ 0 < sizeV x.size y.size := by
          unfold sizeV at h2 ⊢
          split at h2
          · split at h2
            · rw [if_pos (by assumption), if_pos (by assumption)]
              omega
            · exact absurd rfl h2
          · exact absurd rfl h2
        have hd : decide (0 < sizeV x.size y.size) = true := decide_eq_true hv.2
        have ly : y.data.toList.length = y.size := Array.length_toList
        by_cases h3 : (x.size : Int) % 2 = 0
        · rw [if_pos h3]
          refine ⟨_, _, rfl, ?_, by rw [hd]; rfl⟩
          rw [bytes_size, encL_length, g1, g2, g3, g4, List.length_cons, ly, hv.1]
          omega
        · rw [if_neg h3]
          refine ⟨_, _, rfl, ?_, by rw [hd]; rfl⟩
          rw [bytes_size, encL_length, g1, g2, g3, g4, ly, hv.1]
          omega

end Go.Proofs.Ytagnefbgclpccaa.Q

namespace Go.Proofs.Ytagnefbgclpccaa.Q
open Go.RowKit Go.Proofs.YtagnefbgclpccaaW.PrintWords Go.Proofs.YtagnefbgclpccaaW.PrintLast Go.Proofs.Ytagnefbgclpccaa.A Go.Proofs.Ytagnefbgclpccaa.H
set_option linter.unusedVariables false

/-! What dirrecord.Encode returns, for any record. -/
theorem le4_len (n : Int) : (le4 n).size = 4 := rfl
theorem be4_len (n : Int) : (be4 n).size = 4 := rfl
theorem le2_len (n : Int) : (le2 n).size = 2 := rfl
theorem be2_len (n : Int) : (be2 n).size = 2 := rfl

/-- The numbers of a record lie within their bounds. -/
def GoodR (a1 a2 a3 a4 a5 a6 : Int) : Prop := (0 ≤ a1 ∧ a1 < 4294967296) ∧ (0 ≤ a2 ∧ a2 < 4294967296) ∧ (TimeOk a3 ∧ QuarterOk a4) ∧ (0 ≤ a5 ∧ a5 ≤ 255) ∧ (0 ≤ a6 ∧ a6 < 65536)

theorem both_f4 (n : Int) : endian_Both.f n 4 = if 0 ≤ n ∧ n < 4294967296 then some (le4 n ++ be4 n, 0) else some ((⟨#[]⟩ : ByteArray), 2) := by
  unfold endian_Both.f; rw [if_pos rfl]
theorem both_f2 (n : Int) : endian_Both.f n 2 = if 0 ≤ n ∧ n < 65536 then some (le2 n ++ be2 n, 0) else some ((⟨#[]⟩ : ByteArray), 2) := by
  unfold endian_Both.f; rw [if_neg (by decide), if_pos rfl]
theorem ee_ne_l {e e1 : Int} (h : e ≠ 0) : ee e e1 ≠ 0 := by unfold ee; split <;> omega
theorem ee_ne_r {e e1 : Int} (h : e1 ≠ 0) : ee e e1 ≠ 0 := by unfold ee; split <;> omega

/-- What stands between the identifier and Use. -/
def padL (a0 : ByteArray) : List UInt8 := if (a0.size : Int) % 2 = 0 then [0] else []

theorem size_bds {a b : Int} (h : sizeV a b ≠ 0) : sizeV a b = (34 + a) / 2 * 2 + b ∧ 1 ≤ a ∧ a ≤ 254 ∧ 0 ≤ b ∧ b ≤ 254 ∧ b % 2 = 0 ∧ sizeV a b ≤ 254 ∧ 34 ≤ sizeV a b := by
  unfold sizeV at h ⊢
  split at h
  · split at h
    · rw [if_pos (by assumption), if_pos (by assumption)]
      omega
    · exact absurd rfl h
  · exact absurd rfl h

theorem enc_nosize (a0 : ByteArray) (a1 a2 a3 a4 a5 a6 : Int) (a7 : ByteArray) (z0 : a0.size ≤ 9223372036854775807) (z7 : a7.size ≤ 9223372036854775807) (h : sizeV a0.size a7.size = 0) :
    dirrecord_Encode.f 400 a0 a1 a2 a3 a4 a5 a6 a7 = some ((⟨#[]⟩ : ByteArray), if a0.size = 0 ∨ (a7.size : Int) % 2 ≠ 0 then 1 else 7) := by
  unfold dirrecord_Encode.f
  rw [if_pos ⟨z0, z7⟩]
  by_cases h0 : a0.size = 0
  · rw [if_pos h0, if_pos (Or.inl h0)]
  · rw [if_neg h0]
    by_cases h1 : (a7.size : Int) % 2 ≠ 0
    · rw [if_pos h1, if_pos (Or.inr h1)]
    · rw [if_neg h1, if_neg (by omega), size_eq 399, Option.bind_some, if_pos h]

theorem enc_bad (a0 : ByteArray) (a1 a2 a3 a4 a5 a6 : Int) (a7 : ByteArray) (h : sizeV a0.size a7.size ≠ 0) (hg : ¬ GoodR a1 a2 a3 a4 a5 a6) :
    dirrecord_Encode.f 400 a0 a1 a2 a3 a4 a5 a6 a7 = some ((⟨#[]⟩ : ByteArray), 2) := by
  obtain ⟨_, i0, i1, u0, u1, u2, _, _⟩ := size_bds h
  unfold dirrecord_Encode.f
  rw [if_pos ⟨by omega, by omega⟩, if_neg (by omega), if_neg (by omega), size_eq 399, Option.bind_some, if_neg h]
  have hd : ∃ d e, datetime_Record.f 400 a3 a4 = some (d, e) ∧ d.size ≤ 1000 ∧ (e = 0 → TimeOk a3 ∧ QuarterOk a4) := by
    by_cases hq : TimeOk a3 ∧ QuarterOk a4
    · obtain ⟨n, m, d, hr, _⟩ := record_yes a3 a4 hq.1 hq.2
      exact ⟨_, _, hr, by simp [dateL, strOfNums, ByteArray.size], fun _ => hq⟩
    · exact ⟨_, _, record_no 400 a3 a4 hq, by decide, fun h => by omega⟩
  have hb : ∀ n, ∃ p e, endian_Both.f n 4 = some (p, e) ∧ p.size ≤ 1000 ∧ (e = 0 → 0 ≤ n ∧ n < 4294967296) := fun n => by
    by_cases hn : 0 ≤ n ∧ n < 4294967296
    · exact ⟨_, _, by rw [both_f4, if_pos hn], by rw [ByteArray.size_append, le4_len, be4_len]; decide, fun _ => hn⟩
    · exact ⟨_, _, by rw [both_f4, if_neg hn], by decide, fun h => by omega⟩
  have hc : ∃ p e, endian_Both.f a6 2 = some (p, e) ∧ p.size ≤ 1000 ∧ (e = 0 → 0 ≤ a6 ∧ a6 < 65536) := by
    by_cases hn : 0 ≤ a6 ∧ a6 < 65536
    · exact ⟨_, _, by rw [both_f2, if_pos hn], by rw [ByteArray.size_append, le2_len, be2_len]; decide, fun _ => hn⟩
    · exact ⟨_, _, by rw [both_f2, if_neg hn], by decide, fun h => by omega⟩
  obtain ⟨d, e, hd, zd, kd⟩ := hd
  obtain ⟨p1, e1, h1, z1, k1⟩ := hb a1
  obtain ⟨p2, e2, h2, z2, k2⟩ := hb a2
  obtain ⟨p3, e3, h3, z3, k3⟩ := hc
  rw [hd, h1, h2, h3, Option.bind_some, Option.bind_some, Option.bind_some, Option.bind_some, if_pos ⟨by omega, by omega, zd, z1, z2, z3⟩]
  show (if ee (ee (ee e e1) e2) e3 ≠ 0 then _ else _) = _
  by_cases hw : ee (ee (ee e e1) e2) e3 ≠ 0
  · rw [if_pos hw]
  · rw [if_neg hw]
    have q3 : e3 = 0 := Classical.byContradiction fun h => hw (ee_ne_r h)
    have q2 : e2 = 0 := Classical.byContradiction fun h => hw (ee_ne_l (ee_ne_r h))
    have q1 : e1 = 0 := Classical.byContradiction fun h => hw (ee_ne_l (ee_ne_l (ee_ne_r h)))
    have q0 : e = 0 := Classical.byContradiction fun h => hw (ee_ne_l (ee_ne_l (ee_ne_l h)))
    by_cases f0 : a5 < 0
    · rw [if_pos f0]
    · rw [if_neg f0]
      by_cases f1 : 255 < a5
      · rw [if_pos f1]
      · exact absurd ⟨k1 q1, k2 q2, kd q0, ⟨by omega, by omega⟩, k3 q3⟩ hg

/-- The bytes of a record. -/
def recL (a0 : ByteArray) (a1 a2 : Int) (d : ByteArray) (a5 a6 : Int) (t : List UInt8) (n : Int) : List UInt8 :=
  encL n (le4 a1 ++ be4 a1) (le4 a2 ++ be4 a2) d a5 (le2 a6 ++ be2 a6) a0 t

theorem enc_good (a0 : ByteArray) (a1 a2 a3 a4 a5 a6 : Int) (a7 : ByteArray) (h : sizeV a0.size a7.size ≠ 0) (hg : GoodR a1 a2 a3 a4 a5 a6) :
    ∃ (n m : Nat) (d : Int), dirrecord_Encode.f 400 a0 a1 a2 a3 a4 a5 a6 a7 = some (⟨(recL a0 a1 a2 (strOfNums (dateL n m d (a3 + 60 * a4) a4)) a5 a6 (padL a0 ++ a7.data.toList) (sizeV a0.size a7.size)).toArray⟩, 0) ∧ Cal ((a3 + 60 * a4) / 86400) n m d ∧ n ≤ 131 := by
  obtain ⟨_, i0, i1, u0, u1, u2, _, _⟩ := size_bds h
  obtain ⟨g1, g2, g3, g5, g6⟩ := hg
  obtain ⟨n, m, d, hr, hc, hn⟩ := record_yes a3 a4 g3.1 g3.2
  refine ⟨n, m, d, ?_, hc, hn⟩
  unfold dirrecord_Encode.f
  rw [if_pos ⟨by omega, by omega⟩, if_neg (by omega), if_neg (by omega), size_eq 399, Option.bind_some, if_neg h, hr, both_f4, both_f4, both_f2, if_pos g1, if_pos g2, if_pos g6,
    Option.bind_some, Option.bind_some, Option.bind_some, Option.bind_some,
    if_pos ⟨by omega, by omega, by simp [dateL, strOfNums, ByteArray.size], by rw [ByteArray.size_append, le4_len, be4_len]; decide, by rw [ByteArray.size_append, le4_len, be4_len]; decide, by rw [ByteArray.size_append, le2_len, be2_len]; decide⟩,
    if_neg (fun h => h rfl), if_neg (by omega), if_neg (by omega)]
  unfold padL
  by_cases h2 : (a0.size : Int) % 2 = 0
  · rw [if_pos h2, if_pos h2]; rfl
  · rw [if_neg h2, if_neg h2]; rfl

end Go.Proofs.Ytagnefbgclpccaa.Q

namespace Go.Proofs.Ytagnefbgclpccaa.Q
open Go.RowKit Go.Proofs.YtagnefbgclpccaaW.PrintWords Go.Proofs.YtagnefbgclpccaaW.PrintLast Go.Proofs.Ytagnefbgclpccaa.A Go.Proofs.Ytagnefbgclpccaa.H
set_option linter.unusedVariables false

/-! The reference's dates: the same seven bytes. -/
theorem rleap (y : Int) (h : 0 ≤ y) : masterdiscref16_leap.f y = some (leapB y) := by
  unfold masterdiscref16_leap.f leapB
  have e4 : Int.tmod y 4 = y % 4 := Int.tmod_eq_emod_of_nonneg h
  have e100 : Int.tmod y 100 = y % 100 := Int.tmod_eq_emod_of_nonneg h
  have e400 : Int.tmod y 400 = y % 400 := Int.tmod_eq_emod_of_nonneg h
  rw [e4, e100, e400]
  by_cases h4 : y % 4 = 0
  · rw [if_pos h4, h4]
    by_cases h1 : y % 100 = 0
    · rw [if_pos h1, h1]; simp
    · rw [if_neg h1]; simp [h1]
  · rw [if_neg h4]
    have h400 : (y % 400 == 0) = false := beq_eq_false_iff_ne.2 (by omega)
    have h4b : (y % 4 == 0) = false := beq_eq_false_iff_ne.2 h4
    rw [h400, h4b]; rfl
theorem rdays (y m : Int) (h : 0 ≤ y) : masterdiscref16_days.f y m = some (mdays y m) := by
  unfold masterdiscref16_days.f mdays mlen
  by_cases h2 : m = 2
  · rw [if_pos h2, if_pos h2, rleap y h, Option.bind_some]
    cases leapB y <;> rfl
  · rw [if_neg h2, if_neg h2, if_neg h2]
    split
    · rfl
    · split
      · rfl
      · split
        · rfl
        · split <;> rfl
theorem ryear (y : Int) (h : 0 ≤ y) : masterdiscref16_year.f y = some (ydays y) := by
  unfold masterdiscref16_year.f ydays
  rw [rleap y h, Option.bind_some]
  cases leapB y <;> rfl
theorem rtime (t : Int) : masterdiscref16_Time.f t = some (decide (TimeOk t)) := by
  unfold masterdiscref16_Time.f TimeOk
  by_cases h : t ≥ 315532800
  · rw [if_pos h]; congr 1; exact decide_eq_decide.mpr ⟨fun h2 => ⟨h, h2⟩, fun h2 => h2.2⟩
  · rw [if_neg h]; congr 1; exact (decide_eq_false (fun h2 => h h2.1)).symm
theorem rzone (t : Int) : masterdiscref16_Zone.f t = some (decide (ZoneOk t)) := by
  unfold masterdiscref16_Zone.f ZoneOk
  by_cases h : t ≥ -1440
  · rw [if_pos h]; congr 1; exact decide_eq_decide.mpr ⟨fun h2 => ⟨h, h2⟩, fun h2 => h2.2⟩
  · rw [if_neg h]; congr 1; exact (decide_eq_false (fun h2 => h h2.1)).symm
theorem rquarter (z : Int) : masterdiscref16_Quarter.f z = some (decide (QuarterOk z)) := by
  unfold masterdiscref16_Quarter.f
  by_cases hq : QuarterOk z
  · rw [decide_eq_true hq]
    obtain ⟨q0, q1, q2⟩ := hq
    rw [if_pos q1, if_pos q2, (tmod15 z).2 q0]
    rfl
  · rw [decide_eq_false hq]
    by_cases h : z ≥ -720
    · rw [if_pos h]
      by_cases h1 : z ≤ 780
      · rw [if_pos h1]
        congr 1
        exact beq_eq_false_iff_ne.2 (fun e => hq ⟨(tmod15 z).1 e, h, h1⟩)
      · rw [if_neg h1]
    · rw [if_neg h]

theorem msum_step (y : Int) (a b : Nat) (h : a < b) : msum y a + mdays y (a + 1) ≤ msum y b := by
  have := msum_mono y (a + 1) (b - (a + 1))
  rw [show a + 1 + (b - (a + 1)) = b by omega] at this
  have e : msum y (a + 1) = msum y a + mdays y (a + 1) := rfl
  omega
theorem ysum_step (a b : Nat) (h : a < b) : ysum a + ydays (1970 + a) ≤ ysum b := by
  have := ysum_mono (a + 1) (b - (a + 1))
  rw [show a + 1 + (b - (a + 1)) = b by omega] at this
  have e : ysum (a + 1) = ysum a + ydays (1970 + a) := rfl
  omega

/-- The clock that the reference tells of seconds. -/
def rclock (L : Int) (n m : Nat) (d : Int) : Option (Int × Int × Int × Int × Int × Int) := some (1970 + n, (m : Int) + 1, d, L % 86400 / 3600, L / 60 % 60, L % 60)
theorem ru_l1 (L : Int) (hL : 0 ≤ L) (n m : Nat) (d : Int) (hn : n ≤ 1000) (hm : m ≤ 11) (d1 : 1 ≤ d) (d2 : d ≤ mdays (1970 + n) (m + 1)) (j : Nat) :
    ∀ (k i : Nat) (x c2 c3 c4 c5 : Int), i + j = m → j + 1 ≤ k → x = msum (1970 + n) m - msum (1970 + n) i + (d - 1) →
      masterdiscref16_utc.l1 k L x (1970 + n) ((i : Int) + 1) c2 c3 c4 c5 = rclock L n m d := by
  have hb := mdays_bd (1970 + n) (m + 1)
  have hml := msum_le (1970 + n) m
  induction j with
  | zero =>
    intro k i x c2 c3 c4 c5 hi hk hx
    obtain ⟨k, rfl⟩ : ∃ z, k = z + 1 := ⟨k - 1, by omega⟩
    obtain rfl : i = m := by omega
    have e1 : Int.tmod L 86400 = L % 86400 := Int.tmod_eq_emod_of_nonneg hL
    have e2 : Int.tmod L 60 = L % 60 := Int.tmod_eq_emod_of_nonneg hL
    have e3 : Int.tdiv (L % 86400) 3600 = L % 86400 / 3600 := Int.tdiv_eq_ediv_of_nonneg (by omega)
    have e4 : Int.tdiv (L % 86400) 60 = L % 86400 / 60 := Int.tdiv_eq_ediv_of_nonneg (by omega)
    have e5 : Int.tmod (L % 86400 / 60) 60 = L / 60 % 60 := by rw [Int.tmod_eq_emod_of_nonneg (by omega)]; omega
    rw [masterdiscref16_utc.l1, rdays _ _ (by omega), Option.bind_some, if_neg (by omega), e1, e2, e3, e4, wrap_id (x := 1 + x) (by omega) (by omega), wrap_id (x := L % 86400 / 3600) (by omega) (by omega), wrap_id (x := L % 86400 / 60) (by omega) (by omega), e5]
    have ed : 1 + x = d := by omega
    rw [ed]
    rfl
  | succ j ih =>
    intro k i x c2 c3 c4 c5 hi hk hx
    obtain ⟨k, rfl⟩ : ∃ z, k = z + 1 := ⟨k - 1, by omega⟩
    have hs := msum_step (1970 + n) i m (by omega)
    have hbi := mdays_bd (1970 + n) (i + 1)
    have hmi := msum_le (1970 + n) i
    rw [masterdiscref16_utc.l1, rdays _ _ (by omega), Option.bind_some, if_pos (by omega), Option.bind_some, wrap_id (x := x - mdays (1970 + n) (i + 1)) (by omega) (by omega), wrap_id (x := (i : Int) + 1 + 1) (by omega) (by omega)]
    have e : msum (1970 + n) (i + 1) = msum (1970 + n) i + mdays (1970 + n) (i + 1) := rfl
    have := ih k (i + 1) (x - mdays (1970 + n) (i + 1)) c2 c3 c4 c5 (by omega) (by omega) (by rw [e]; omega)
    rw [← this]
    push_cast
    rfl
theorem ru_l0 (L : Int) (hL : 0 ≤ L) (n m : Nat) (d : Int) (hn : n ≤ 1000) (hm : m ≤ 11) (d1 : 1 ≤ d) (d2 : d ≤ mdays (1970 + n) (m + 1)) (j : Nat) :
    ∀ (k i : Nat) (x c2 c3 c4 c5 : Int), i + j = n → j + 14 ≤ k → x = ysum n - ysum i + msum (1970 + n) m + (d - 1) →
      masterdiscref16_utc.l0 k L x (1970 + i) 1 c2 c3 c4 c5 = rclock L n m d := by
  have hb := mdays_bd (1970 + n) (m + 1)
  have hml := msum_le (1970 + n) m
  have h12 := msum_12 (1970 + n)
  have hm2 := msum_step (1970 + n) m 12 (by omega)
  induction j with
  | zero =>
    intro k i x c2 c3 c4 c5 hi hk hx
    obtain ⟨k, rfl⟩ : ∃ z, k = z + 1 := ⟨k - 1, by omega⟩
    obtain rfl : i = n := by omega
    rw [masterdiscref16_utc.l0, ryear _ (by omega), Option.bind_some, if_neg (by omega)]
    have := ru_l1 L hL i m d hn hm d1 d2 m k 0 x c2 c3 c4 c5 (by omega) (by omega) (by rw [hx]; show _ = msum (1970 + (i : Int)) m - 0 + (d - 1); omega)
    exact this
  | succ j ih =>
    intro k i x c2 c3 c4 c5 hi hk hx
    obtain ⟨k, rfl⟩ : ∃ z, k = z + 1 := ⟨k - 1, by omega⟩
    have hs := ysum_step i n (by omega)
    have hyi := ydays_bd (1970 + i)
    have a1 := ysum_le n
    have a2 := ysum_ge i
    rw [masterdiscref16_utc.l0, ryear _ (by omega), Option.bind_some, if_pos (by omega), Option.bind_some, wrap_id (x := x - ydays (1970 + i)) (by omega) (by omega), wrap_id (x := (1970 : Int) + i + 1) (by omega) (by omega)]
    have e : ysum (i + 1) = ysum i + ydays (1970 + i) := rfl
    have := ih k (i + 1) (x - ydays (1970 + i)) c2 c3 c4 c5 (by omega) (by omega) (by rw [e]; omega)
    rw [← this]
    push_cast
    rw [show (1970 : Int) + i + 1 = 1970 + (i + 1) by omega]
theorem rsplit (t z : Int) (ht : TimeOk t) (hz : ZoneOk z) (n m : Nat) (d : Int) (hc : Cal ((t + 60 * z) / 86400) n m d) (hn : n ≤ 131) (k : Nat) (hk : 200 ≤ k) :
    masterdiscref16_Split.f k t z = some ((1970 : Int) + n, (m : Int) + 1, d, (t + 60 * z) % 86400 / 3600, (t + 60 * z) / 60 % 60, (t + 60 * z) % 60, 0) := by
  unfold masterdiscref16_Split.f
  rw [rtime, Option.bind_some, decide_eq_true ht, if_pos rfl, rzone, Option.bind_some, decide_eq_true hz, if_pos rfl]
  obtain ⟨t0, t1⟩ := ht
  obtain ⟨z0, z1⟩ := hz
  rw [wrap_id (x := 60 * z) (by omega) (by omega), wrap_id (x := t + 60 * z) (by omega) (by omega)]
  generalize hL : t + 60 * z = L at hc ⊢
  have l0 : 0 ≤ L := by omega
  unfold masterdiscref16_utc.f
  rw [Int.tdiv_eq_ediv_of_nonneg l0, wrap_id (x := L / 86400) (by omega) (by omega)]
  have hsum := hc.sum
  have h := ru_l0 L l0 n m d (by omega) hc.month hc.day1 hc.day2 n k 0 (L / 86400) 1 0 0 0 (by omega) (by omega) (by rw [← hsum]; show _ = ysum n - 0 + _ + _; omega)
  have e0 : (1970 : Int) + ((0 : Nat) : Int) = 1970 := rfl
  rw [e0] at h
  rw [h]
  rfl
/-- The reference writes a time as the same seven bytes. -/
theorem rrecord_yes (t z : Int) (ht : TimeOk t) (hq : QuarterOk z) (n m : Nat) (d : Int) (hc : Cal ((t + 60 * z) / 86400) n m d) (hn : n ≤ 131) (k : Nat) (hk : 300 ≤ k) :
    masterdiscref16_Record.f k t z = some (strOfNums (dateL n m d (t + 60 * z) z), 0) := by
  have hz : ZoneOk z := ⟨by have := hq.2.1; omega, by have := hq.2.2; omega⟩
  obtain ⟨k, rfl⟩ : ∃ q, k = q + 1 := ⟨k - 1, by omega⟩
  unfold masterdiscref16_Record.f
  rw [rtime, Option.bind_some, decide_eq_true ht, if_pos rfl, rquarter, Option.bind_some, decide_eq_true hq, masterdiscref16_Record.j0, if_neg (by decide), rsplit t z ht hz n m d hc hn k (by omega), Option.bind_some]
  obtain ⟨q0, q1, q2⟩ := hq
  have e3 : Int.tdiv z 15 = z / 15 := Int.tdiv_eq_ediv_of_dvd (Int.dvd_of_emod_eq_zero q0)
  have es : masterdiscref16_signed.f (wrap64 (Int.tdiv z 15)) = some (z / 15 % 256) := by
    unfold masterdiscref16_signed.f
    rw [e3, wrap_id (x := z / 15) (by omega) (by omega), wrap_id (x := z / 15 + 256) (by omega) (by omega), Int.tmod_eq_emod_of_nonneg (by omega)]
    congr 1
    omega
  rw [es, Option.bind_some]
  have e1 : wrap64 (1970 + (n : Int) - 1900) = 70 + n := by rw [wrap_id (by omega) (by omega)]; omega
  show some (strOfNums [(wrap64 (1970 + (n : Int) - 1900)) % 256, _, _, _, _, _, _], 0) = _
  rw [e1]
  rfl
theorem rrecord_no (t z : Int) (h : ¬ (TimeOk t ∧ QuarterOk z)) (k : Nat) (hk : 1 ≤ k) : masterdiscref16_Record.f k t z = some ((⟨#[]⟩ : ByteArray), 2) := by
  obtain ⟨k, rfl⟩ : ∃ q, k = q + 1 := ⟨k - 1, by omega⟩
  unfold masterdiscref16_Record.f
  rw [rtime, Option.bind_some]
  by_cases ht : TimeOk t
  · rw [decide_eq_true ht, if_pos rfl, rquarter, Option.bind_some, decide_eq_false (fun hq => h ⟨ht, hq⟩), masterdiscref16_Record.j0]
    rfl
  · rw [decide_eq_false ht, if_neg (by decide), masterdiscref16_Record.j0, if_pos rfl]

end Go.Proofs.Ytagnefbgclpccaa.Q

namespace Go.Proofs.Ytagnefbgclpccaa.Q
open Go.RowKit Go.Proofs.YtagnefbgclpccaaW.PrintWords Go.Proofs.YtagnefbgclpccaaW.PrintLast Go.Proofs.Ytagnefbgclpccaa.A Go.Proofs.Ytagnefbgclpccaa.H
set_option linter.unusedVariables false

/-! The reference's numbers in both byte orders, and its Encode. -/
theorem tdiv256 {x : Int} (h : 0 ≤ x) (h1 : x ≤ 9223372036854775807) : wrap64 (Int.tdiv x 256) = x / 256 := by
  rw [Int.tdiv_eq_ediv_of_nonneg h, wrap_id (by omega) (by omega)]
theorem tmod256 {x : Int} (h : 0 ≤ x) : Int.tmod x 256 % 256 = x % 256 := by
  rw [Int.tmod_eq_emod_of_nonneg h]; omega
theorem rfits4 (k : Nat) (x : Int) (h : 0 ≤ x) (h1 : x < 4294967296) : masterdiscref01_fits.f (k + 5) x 4 = some true := by
  unfold masterdiscref01_fits.f
  rw [if_neg (by omega)]
  rw [masterdiscref01_fits.l0, if_pos (by decide), tdiv256 h (by omega), show wrap64 (0 + 1) = 1 from wrap_id (by decide) (by decide)]
  rw [masterdiscref01_fits.l0, if_pos (by decide), tdiv256 (by omega) (by omega), show wrap64 (1 + 1) = 2 from wrap_id (by decide) (by decide)]
  rw [masterdiscref01_fits.l0, if_pos (by decide), tdiv256 (by omega) (by omega), show wrap64 (2 + 1) = 3 from wrap_id (by decide) (by decide)]
  rw [masterdiscref01_fits.l0, if_pos (by decide), tdiv256 (by omega) (by omega), show wrap64 (3 + 1) = 4 from wrap_id (by decide) (by decide)]
  rw [masterdiscref01_fits.l0, if_neg (by decide)]
  congr 1
  exact beq_iff_eq.2 (by omega)
theorem rfits2 (k : Nat) (x : Int) (h : 0 ≤ x) (h1 : x < 65536) : masterdiscref01_fits.f (k + 3) x 2 = some true := by
  unfold masterdiscref01_fits.f
  rw [if_neg (by omega)]
  rw [masterdiscref01_fits.l0, if_pos (by decide), tdiv256 h (by omega), show wrap64 (0 + 1) = 1 from wrap_id (by decide) (by decide)]
  rw [masterdiscref01_fits.l0, if_pos (by decide), tdiv256 (by omega) (by omega), show wrap64 (1 + 1) = 2 from wrap_id (by decide) (by decide)]
  rw [masterdiscref01_fits.l0, if_neg (by decide)]
  congr 1
  exact beq_iff_eq.2 (by omega)
theorem rbytes4 (k : Nat) (x : Int) (h : 0 ≤ x) (h1 : x < 4294967296) : masterdiscref01_Bytes.f (k + 5) x 4 = some (le4 x) := by
  unfold masterdiscref01_Bytes.f
  rw [masterdiscref01_Bytes.l0, if_pos (by decide), if_pos (by decide), tmod256 h, tdiv256 h (by omega), show wrap64 (0 + 1) = 1 from wrap_id (by decide) (by decide)]
  rw [masterdiscref01_Bytes.l0, if_pos (by decide), if_pos (by simp), tmod256 (by omega), tdiv256 (by omega) (by omega), show wrap64 (1 + 1) = 2 from wrap_id (by decide) (by decide)]
  rw [masterdiscref01_Bytes.l0, if_pos (by decide), if_pos (by simp), tmod256 (by omega), tdiv256 (by omega) (by omega), show wrap64 (2 + 1) = 3 from wrap_id (by decide) (by decide)]
  rw [masterdiscref01_Bytes.l0, if_pos (by decide), if_pos (by simp), tmod256 (by omega), tdiv256 (by omega) (by omega), show wrap64 (3 + 1) = 4 from wrap_id (by decide) (by decide)]
  rw [masterdiscref01_Bytes.l0, if_neg (by decide)]
  unfold le4
  have e1 : x / 256 / 256 = x / 65536 := by omega
  have e2 : x / 65536 / 256 = x / 16777216 := by omega
  rw [e1, e2]
  rfl
theorem rbytes2 (k : Nat) (x : Int) (h : 0 ≤ x) (h1 : x < 65536) : masterdiscref01_Bytes.f (k + 3) x 2 = some (le2 x) := by
  unfold masterdiscref01_Bytes.f
  rw [masterdiscref01_Bytes.l0, if_pos (by decide), if_pos (by decide), tmod256 h, tdiv256 h (by omega), show wrap64 (0 + 1) = 1 from wrap_id (by decide) (by decide)]
  rw [masterdiscref01_Bytes.l0, if_pos (by decide), if_pos (by simp), tmod256 (by omega), tdiv256 (by omega) (by omega), show wrap64 (1 + 1) = 2 from wrap_id (by decide) (by decide)]
  rw [masterdiscref01_Bytes.l0, if_neg (by decide)]
  rfl

theorem rrev_end (k : Nat) (S : ByteArray) (acc : List Int) : masterdiscref01_Reverse.l0 (k + 1) S acc (-1) = some (strOfNums acc) := by
  rw [masterdiscref01_Reverse.l0, if_neg (by decide)]
theorem rrev_step (k : Nat) (S : ByteArray) (acc : List Int) (i : Nat) (hi : i < S.size) (hs : S.size ≤ 1000) (ha : acc.length ≤ 1000) :
    masterdiscref01_Reverse.l0 (k + 1) S acc (i : Int) = masterdiscref01_Reverse.l0 k S (acc ++ [bt S (i : Int)]) ((i : Int) - 1) := by
  rw [masterdiscref01_Reverse.l0, if_pos (by omega), if_pos (by omega), if_pos (by omega), if_pos (by omega), wrap_id (by omega) (by omega)]
/-- The reference's Reverse, of any short string. -/
def revL (S : ByteArray) : Nat → List Int
  | 0 => []
  | n + 1 => bt S (n : Int) :: revL S n
theorem rrev_l (S : ByteArray) (hs : S.size ≤ 1000) (i : Nat) : ∀ (k : Nat) (acc : List Int), i ≤ S.size → i + 1 ≤ k → acc.length + i ≤ 1000 →
    masterdiscref01_Reverse.l0 k S acc ((i : Int) - 1) = some (strOfNums (acc ++ revL S i)) := by
  induction i with
  | zero =>
    intro k acc h1 h2 h3
    obtain ⟨k, rfl⟩ : ∃ q, k = q + 1 := ⟨k - 1, by omega⟩
    rw [show ((0 : Nat) : Int) - 1 = -1 from rfl, rrev_end]
    show _ = some (strOfNums (acc ++ []))
    rw [List.append_nil]
  | succ i ih =>
    intro k acc h1 h2 h3
    obtain ⟨k, rfl⟩ : ∃ q, k = q + 1 := ⟨k - 1, by omega⟩
    rw [show ((i + 1 : Nat) : Int) - 1 = (i : Int) by omega, rrev_step k S acc i (by omega) hs (by omega), ih k (acc ++ [bt S (i : Int)]) (by omega) (by omega) (by rw [List.length_append]; simp; omega)]
    show _ = some (strOfNums (acc ++ (bt S (i : Int) :: revL S i)))
    rw [List.append_assoc]
    rfl
theorem rrev (k : Nat) (S : ByteArray) (hs : S.size ≤ 1000) (hk : S.size + 1 ≤ k) : masterdiscref01_Reverse.f k S = some (strOfNums (revL S S.size)) := by
  unfold masterdiscref01_Reverse.f
  rw [wrap_id (by omega) (by omega), rrev_l S hs S.size k [] (by omega) hk (by simp; omega)]
  rfl
theorem le4_bt (n : Int) : bt (le4 n) 0 = n % 256 ∧ bt (le4 n) 1 = n / 256 % 256 ∧ bt (le4 n) 2 = n / 65536 % 256 ∧ bt (le4 n) 3 = n / 16777216 % 256 := by
  have b : ∀ n : Int, 0 ≤ n % 256 := fun n => by omega
  have c : ∀ n : Int, n % 256 ≤ 255 := fun n => by omega
  unfold le4
  exact ⟨bt_nums _ 0 (by simp) (b _) (c _), bt_nums _ 1 (by simp) (b _) (c _), bt_nums _ 2 (by simp) (b _) (c _), bt_nums _ 3 (by simp) (b _) (c _)⟩
theorem le2_bt (n : Int) : bt (le2 n) 0 = n % 256 ∧ bt (le2 n) 1 = n / 256 % 256 := by
  have b : ∀ n : Int, 0 ≤ n % 256 := fun n => by omega
  have c : ∀ n : Int, n % 256 ≤ 255 := fun n => by omega
  unfold le2
  exact ⟨bt_nums _ 0 (by simp) (b _) (c _), bt_nums _ 1 (by simp) (b _) (c _)⟩
theorem rboth4 (x : Int) (h : 0 ≤ x) (h1 : x < 4294967296) (k : Nat) (hk : 20 ≤ k) : masterdiscref20_both.f k x 4 = some (le4 x ++ be4 x) := by
  obtain ⟨k, rfl⟩ : ∃ q, k = q + 10 := ⟨k - 10, by omega⟩
  have hl : masterdiscref01_Little.f (k + 9) x 4 = some (le4 x, 0) := by
    unfold masterdiscref01_Little.f
    rw [if_neg (by decide), decide_eq_false (by decide), masterdiscref01_Little.j0, if_neg (by decide), rfits4 (k + 3) x h h1, Option.bind_some, if_pos rfl, rbytes4 (k + 3) x h h1, Option.bind_some]
  have hv : masterdiscref01_Reverse.f (k + 9) (le4 x) = some (be4 x) := by
    rw [rrev (k + 9) (le4 x) (by rw [le4_len]; decide) (by rw [le4_len]; omega), le4_len]
    obtain ⟨b0, b1, b2, b3⟩ := le4_bt x
    show some (strOfNums [bt (le4 x) 3, bt (le4 x) 2, bt (le4 x) 1, bt (le4 x) 0]) = _
    rw [b0, b1, b2, b3]
    rfl
  unfold masterdiscref20_both.f masterdiscref01_Both.f
  rw [if_neg (by decide), if_neg (by decide), show ((4 : Int) != 4) = false from rfl, masterdiscref01_Both.j0, if_neg (by decide), hl, Option.bind_some]
  show Option.bind (Option.bind (masterdiscref01_Reverse.f (k + 9) (le4 x)) _) _ = _
  rw [hv, Option.bind_some, if_pos (by show (le4 x).size + (be4 x).size ≤ _; rw [le4_len, be4_len]; decide), Option.bind_some]
theorem rboth2 (x : Int) (h : 0 ≤ x) (h1 : x < 65536) (k : Nat) (hk : 20 ≤ k) : masterdiscref20_both.f k x 2 = some (le2 x ++ be2 x) := by
  obtain ⟨k, rfl⟩ : ∃ q, k = q + 10 := ⟨k - 10, by omega⟩
  have hl : masterdiscref01_Little.f (k + 9) x 2 = some (le2 x, 0) := by
    unfold masterdiscref01_Little.f
    rw [if_neg (by decide), decide_eq_false (by decide), masterdiscref01_Little.j0, if_neg (by decide), rfits2 (k + 5) x h h1, Option.bind_some, if_pos rfl, rbytes2 (k + 5) x h h1, Option.bind_some]
  have hv : masterdiscref01_Reverse.f (k + 9) (le2 x) = some (be2 x) := by
    rw [rrev (k + 9) (le2 x) (by rw [le2_len]; decide) (by rw [le2_len]; omega), le2_len]
    obtain ⟨b0, b1⟩ := le2_bt x
    show some (strOfNums [bt (le2 x) 1, bt (le2 x) 0]) = _
    rw [b0, b1]
    rfl
  unfold masterdiscref20_both.f masterdiscref01_Both.f
  rw [if_neg (by decide), if_pos rfl, masterdiscref01_Both.j0, if_neg (by decide), hl, Option.bind_some]
  show Option.bind (Option.bind (masterdiscref01_Reverse.f (k + 9) (le2 x)) _) _ = _
  rw [hv, Option.bind_some, if_pos (by show (le2 x).size + (be2 x).size ≤ _; rw [le2_len, be2_len]; decide), Option.bind_some]

end Go.Proofs.Ytagnefbgclpccaa.Q

namespace Go.Proofs.Ytagnefbgclpccaa.Q
open Go.RowKit Go.Proofs.YtagnefbgclpccaaW.PrintWords Go.Proofs.YtagnefbgclpccaaW.PrintLast Go.Proofs.Ytagnefbgclpccaa.A Go.Proofs.Ytagnefbgclpccaa.H
set_option linter.unusedVariables false

/-! The reference's Encode returns what Encode returns. -/
theorem rfits (n m : Int) : masterdiscref20_fits.f n m = some (decide (0 ≤ n ∧ n ≤ m)) := by
  unfold masterdiscref20_fits.f
  by_cases h : n ≥ 0
  · rw [if_pos h]; congr 1; exact decide_eq_decide.mpr ⟨fun h2 => ⟨h, h2⟩, fun h2 => h2.2⟩
  · rw [if_neg h]; congr 1; exact (decide_eq_false (fun h2 => h h2.1)).symm
theorem rec_bytes (a0 : ByteArray) (a1 a2 : Int) (d : ByteArray) (a5 a6 : Int) (t : List UInt8) (n : Int) (T : ByteArray) (hT : T.data.toList = t) :
    (((((((strOfNums [n % 256, 0] ++ (le4 a1 ++ be4 a1)) ++ (le4 a2 ++ be4 a2)) ++ d) ++ strOfNums [a5 % 256, 0, 0]) ++ (le2 a6 ++ be2 a6)) ++ strOfNums [(a0.size : Int) % 256]) ++ a0) ++ T = ⟨(recL a0 a1 a2 d a5 a6 t n).toArray⟩ := by
  apply ByteArray.ext
  apply Array.toList_inj.1
  have s2 : (strOfNums [n % 256, 0]).data.toList = [bz n, 0] := rfl
  have s3 : (strOfNums [a5 % 256, 0, 0]).data.toList = [bz a5, 0, 0] := rfl
  have s1 : (strOfNums [(a0.size : Int) % 256]).data.toList = [bz a0.size] := rfl
  unfold recL encL
  simp only [ByteArray.data_append, Array.toList_append, s1, s2, s3, hT, List.append_assoc, List.cons_append, List.nil_append]

theorem renc_nosize (a0 : ByteArray) (a1 a2 a3 a4 a5 a6 : Int) (a7 : ByteArray) (h : sizeV a0.size a7.size = 0) :
    masterdiscref20_Encode.f 400 a0 a1 a2 a3 a4 a5 a6 a7 = some ((⟨#[]⟩ : ByteArray), if a0.size = 0 ∨ (a7.size : Int) % 2 ≠ 0 then 1 else 7) := by
  unfold masterdiscref20_Encode.f
  by_cases h0 : (a0.size : Int) = 0
  · rw [if_pos h0, if_pos (Or.inl (by omega)), masterdiscref20_Encode.j0, if_pos rfl]
  · rw [if_neg h0]
    by_cases h1 : (a7.size : Int) % 2 = 1
    · rw [show ((a7.size : Int) % 2 == 1) = true from beq_iff_eq.2 h1, if_pos (Or.inr (by omega)), masterdiscref20_Encode.j0, if_pos rfl]
    · rw [show ((a7.size : Int) % 2 == 1) = false from beq_eq_false_iff_ne.2 h1, if_neg (by omega), masterdiscref20_Encode.j0, if_neg (by decide), rsize_eq 398, Option.bind_some, if_pos h]

theorem renc_j1_no (k : Nat) (hk : 1 ≤ k) (x : Int) (d a0 : ByteArray) (a1 a2 a3 a4 a5 a6 : Int) (a7 : ByteArray) : masterdiscref20_Encode.j1 k x d true a0 a1 a2 a3 a4 a5 a6 a7 = some ((⟨#[]⟩ : ByteArray), 2) := by
  obtain ⟨k, rfl⟩ : ∃ q, k = q + 1 := ⟨k - 1, by omega⟩
  rw [masterdiscref20_Encode.j1, if_pos rfl]
theorem renc_bad (a0 : ByteArray) (a1 a2 a3 a4 a5 a6 : Int) (a7 : ByteArray) (h : sizeV a0.size a7.size ≠ 0) (hg : ¬ GoodR a1 a2 a3 a4 a5 a6) :
    masterdiscref20_Encode.f 400 a0 a1 a2 a3 a4 a5 a6 a7 = some ((⟨#[]⟩ : ByteArray), 2) := by
  obtain ⟨_, i0, i1, u0, u1, u2, _, _⟩ := size_bds h
  have hd : ∃ d e, masterdiscref16_Record.f 399 a3 a4 = some (d, e) ∧ (e = 0 → TimeOk a3 ∧ QuarterOk a4) := by
    by_cases hq : TimeOk a3 ∧ QuarterOk a4
    · obtain ⟨n, m, d, _, hc, hn⟩ := record_yes a3 a4 hq.1 hq.2
      exact ⟨_, _, rrecord_yes a3 a4 hq.1 hq.2 n m d hc hn 399 (by decide), fun _ => hq⟩
    · exact ⟨_, _, rrecord_no a3 a4 hq 399 (by decide), fun h => by omega⟩
  obtain ⟨d, e, hd, kd⟩ := hd
  unfold masterdiscref20_Encode.f
  rw [if_neg (by omega), show ((a7.size : Int) % 2 == 1) = false from beq_eq_false_iff_ne.2 (by omega), masterdiscref20_Encode.j0, if_neg (by decide), rsize_eq 398, Option.bind_some, if_neg h, hd, Option.bind_some, rfits, Option.bind_some]
  by_cases f1 : 0 ≤ a1 ∧ a1 ≤ 4294967295
  · rw [decide_eq_true f1, if_pos rfl, rfits, Option.bind_some]
    by_cases f2 : 0 ≤ a2 ∧ a2 ≤ 4294967295
    · rw [decide_eq_true f2, if_pos rfl, rfits, Option.bind_some]
      by_cases f5 : 0 ≤ a5 ∧ a5 ≤ 255
      · rw [decide_eq_true f5, if_pos rfl, rfits, Option.bind_some]
        by_cases f6 : 0 ≤ a6 ∧ a6 ≤ 65535
        · rw [decide_eq_true f6, if_pos rfl]
          have he : e ≠ 0 := fun h0 => hg ⟨⟨f1.1, by omega⟩, ⟨f2.1, by omega⟩, kd h0, f5, ⟨f6.1, by omega⟩⟩
          show masterdiscref20_Encode.j1 399 _ _ (e != 0) _ _ _ _ _ _ _ _ = _
          rw [bne_iff_ne.2 he, renc_j1_no 399 (by decide)]
        · rw [decide_eq_false f6, if_neg (by decide), renc_j1_no 399 (by decide)]
      · rw [decide_eq_false f5, if_neg (by decide), renc_j1_no 399 (by decide)]
    · rw [decide_eq_false f2, if_neg (by decide), renc_j1_no 399 (by decide)]
  · rw [decide_eq_false f1, if_neg (by decide), renc_j1_no 399 (by decide)]

theorem renc_good (a0 : ByteArray) (a1 a2 a3 a4 a5 a6 : Int) (a7 : ByteArray) (h : sizeV a0.size a7.size ≠ 0) (hg : GoodR a1 a2 a3 a4 a5 a6) (n m : Nat) (d : Int) (hc : Cal ((a3 + 60 * a4) / 86400) n m d) (hn : n ≤ 131) :
    masterdiscref20_Encode.f 400 a0 a1 a2 a3 a4 a5 a6 a7 = some (⟨(recL a0 a1 a2 (strOfNums (dateL n m d (a3 + 60 * a4) a4)) a5 a6 (padL a0 ++ a7.data.toList) (sizeV a0.size a7.size)).toArray⟩, 0) := by
  obtain ⟨_, i0, i1, u0, u1, u2, _, _⟩ := size_bds h
  obtain ⟨g1, g2, g3, g5, g6⟩ := hg
  unfold masterdiscref20_Encode.f
  rw [if_neg (by omega), show ((a7.size : Int) % 2 == 1) = false from beq_eq_false_iff_ne.2 (by omega), masterdiscref20_Encode.j0, if_neg (by decide), rsize_eq 398, Option.bind_some, if_neg h, rrecord_yes a3 a4 g3.1 g3.2 n m d hc hn 399 (by decide), Option.bind_some]
  rw [rfits, Option.bind_some, decide_eq_true ⟨g1.1, by omega⟩, if_pos rfl, rfits, Option.bind_some, decide_eq_true ⟨g2.1, by omega⟩, if_pos rfl, rfits, Option.bind_some, decide_eq_true g5, if_pos rfl, rfits, Option.bind_some, decide_eq_true ⟨g6.1, by omega⟩, if_pos rfl]
  show masterdiscref20_Encode.j1 399 _ (strOfNums (dateL n m d (a3 + 60 * a4) a4)) false _ _ _ _ _ _ _ _ = _
  have zd : (strOfNums (dateL n m d (a3 + 60 * a4) a4)).size = 7 := by rw [nums_size]; rfl
  generalize strOfNums (dateL n m d (a3 + 60 * a4) a4) = D at zd ⊢
  generalize hN : sizeV a0.size a7.size = N
  rw [masterdiscref20_Encode.j1, if_neg (by decide), Option.bind_some, rboth4 a1 g1.1 g1.2 398 (by decide), rboth4 a2 g2.1 g2.2 398 (by decide), rboth2 a6 g6.1 g6.2 398 (by decide), Option.bind_some]
  have z2 : (strOfNums [N % 256, 0]).size = 2 := rfl
  have z3 : (strOfNums [a5 % 256, 0, 0]).size = 3 := rfl
  have z1 : (strOfNums [(a0.size : Int) % 256]).size = 1 := rfl
  rw [if_pos (by simp only [ByteArray.size_append, z2, le4_len, be4_len]; omega), Option.bind_some, if_pos (by simp only [ByteArray.size_append, z2, le4_len, be4_len]; omega), if_pos (by simp only [ByteArray.size_append, z2, le4_len, be4_len, zd]; omega), Option.bind_some,
    if_pos (by simp only [ByteArray.size_append, z2, z3, le4_len, be4_len, zd]; omega), Option.bind_some, if_pos (by simp only [ByteArray.size_append, z2, z3, le4_len, be4_len, le2_len, be2_len, zd]; omega), Option.bind_some,
    if_pos (by simp only [ByteArray.size_append, z1, z2, z3, le4_len, be4_len, le2_len, be2_len, zd]; omega), if_pos (by simp only [ByteArray.size_append, z1, z2, z3, le4_len, be4_len, le2_len, be2_len, zd]; omega)]
  unfold padL
  by_cases ho : (a0.size : Int) % 2 = 0
  · rw [if_pos ho, if_pos ho]
    have zz : (⟨#[0]⟩ : ByteArray).size = 1 := rfl
    rw [if_pos (by simp only [ByteArray.size_append, z1, z2, z3, le4_len, be4_len, le2_len, be2_len, zd]; omega), if_pos (by simp only [ByteArray.size_append, z1, z2, z3, zz, le4_len, be4_len, le2_len, be2_len, zd]; omega)]
    have := rec_bytes a0 a1 a2 D a5 a6 ([0] ++ a7.data.toList) N ((⟨#[0]⟩ : ByteArray) ++ a7) (by rw [ByteArray.data_append, Array.toList_append])
    rw [← ByteArray.append_assoc] at this
    rw [this]
  · rw [if_neg ho, if_neg ho]
    rw [if_pos (by simp only [ByteArray.size_append, z1, z2, z3, le4_len, be4_len, le2_len, be2_len, zd]; omega)]
    rw [rec_bytes a0 a1 a2 D a5 a6 ([] ++ a7.data.toList) N a7 rfl]

theorem renc_same (a0 : ByteArray) (a1 a2 a3 a4 a5 a6 : Int) (a7 : ByteArray) (z0 : a0.size ≤ 9223372036854775807) (z7 : a7.size ≤ 9223372036854775807) :
    ∃ r, dirrecord_Encode.f 400 a0 a1 a2 a3 a4 a5 a6 a7 = some r ∧ masterdiscref20_Encode.f 400 a0 a1 a2 a3 a4 a5 a6 a7 = some r := by
  by_cases h : sizeV a0.size a7.size = 0
  · exact ⟨_, enc_nosize a0 a1 a2 a3 a4 a5 a6 a7 z0 z7 h, renc_nosize a0 a1 a2 a3 a4 a5 a6 a7 h⟩
  · by_cases hg : GoodR a1 a2 a3 a4 a5 a6
    · obtain ⟨n, m, d, he, hc, hn⟩ := enc_good a0 a1 a2 a3 a4 a5 a6 a7 h hg
      exact ⟨_, he, renc_good a0 a1 a2 a3 a4 a5 a6 a7 h hg n m d hc hn⟩
    · exact ⟨_, enc_bad a0 a1 a2 a3 a4 a5 a6 a7 h hg, renc_bad a0 a1 a2 a3 a4 a5 a6 a7 h hg⟩

theorem encodes_true (a0 : ByteArray) (a1 a2 a3 a4 a5 a6 : Int) (a7 : ByteArray) (x y : Int) (z0 : a0.size ≤ 9223372036854775807) (z7 : a7.size ≤ 9223372036854775807) :
    masterdisclaw20_DirrecordEncodes.f 401 a0 a1 a2 a3 a4 a5 a6 a7 x y = some true := by
  have aw : masterdisclaw20_awake.f = some true := rfl
  have j : ∀ b, masterdisclaw20_DirrecordEncodes.j0 401 x y b a0 a1 a2 a3 a4 a5 a6 a7 = some true := fun b => by
    rw [masterdisclaw20_DirrecordEncodes.j0]
    cases b with
    | true => rw [if_pos rfl]
    | false =>
      obtain ⟨r, h1, h2⟩ := renc_same a0 a1 a2 a3 a4 a5 a6 a7 z0 z7
      rw [if_neg (by decide), h1, Option.bind_some, h2, Option.bind_some, if_pos rfl, if_pos rfl, size_eq 399, Option.bind_some, rsize_eq 399, Option.bind_some, beq_self_eq_true]
  unfold masterdisclaw20_DirrecordEncodes.f
  rw [aw, Option.bind_some, if_pos rfl]
  split
  · exact j _
  · exact j _

end Go.Proofs.Ytagnefbgclpccaa.Q
