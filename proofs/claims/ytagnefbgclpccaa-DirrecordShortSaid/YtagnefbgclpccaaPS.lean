import Derived.Test.YtagnefbgclpccaaAx2
import Derived.Test.YtagnefbgclpccaaH1b
import Derived.Test.YtagnefbgclpccaaAx3
import Derived.Test.YtagnefbgclpccaaAx7
import Derived.Test.YtagnefbgclpccaaH2d
import Derived.Test.YtagnefbgclpccaaH2h
import Derived.Test.YtagnefbgclpccaaAx24
namespace Go.Proofs.Ytagnefbgclpccaa.Q
open Go.RowKit Go.Proofs.YtagnefbgclpccaaW.PrintWords Go.Proofs.YtagnefbgclpccaaW.PrintLast Go.Proofs.Ytagnefbgclpccaa.A
set_option linter.unusedVariables false

theorem wrap_id {x : Int} (h0 : -9223372036854775808 ≤ x) (h1 : x ≤ 9223372036854775807) : wrap64 x = x := by
  unfold wrap64; omega

/-- The size of a record, as the definitions say. -/
def sizeV (a b : Int) : Int :=
  if 1 ≤ a ∧ a ≤ 254 ∧ 0 ≤ b ∧ b ≤ 254 ∧ b % 2 = 0 then (if (34 + a) / 2 * 2 + b ≤ 254 then (34 + a) / 2 * 2 + b else 0) else 0

theorem padded_eq (a : Int) (h0 : 0 ≤ a) (h1 : a ≤ 1000) : dirrecord_padded.f a = some ((34 + a) / 2 * 2) := by
  unfold dirrecord_padded.f
  rw [wrap_id (x := 33 + a) (by omega) (by omega), wrap_id (x := 33 + a + 1) (by omega) (by omega)]
  rw [Int.tdiv_eq_ediv_of_nonneg (by omega)]
  rw [wrap_id (x := (33 + a + 1) / 2) (by omega) (by omega), wrap_id (by omega) (by omega)]
  congr 1
  omega

theorem size_eq (k : Nat) (a b : Int) : dirrecord_Size.f (k + 1) a b = some (sizeV a b) := by
  unfold dirrecord_Size.f sizeV
  by_cases h1 : a < 1
  · rw [if_pos h1, if_neg (by omega)]; simp [dirrecord_Size.j0]
  · rw [if_neg h1]
    by_cases h2 : a > 254
    · rw [if_pos h2, if_neg (by omega)]; simp [dirrecord_Size.j0]
    · rw [if_neg h2]
      by_cases h3 : b < 0
      · rw [if_pos h3, if_neg (by omega)]; simp [dirrecord_Size.j0]
      · rw [if_neg h3]
        by_cases h4 : b > 254
        · rw [if_pos h4, if_neg (by omega)]; simp [dirrecord_Size.j0]
        · rw [if_neg h4]
          have e : Int.tmod b 2 = b % 2 := Int.tmod_eq_emod_of_nonneg (by omega)
          rw [e]
          by_cases h5 : b % 2 = 0
          · rw [if_pos ⟨by omega, by omega, by omega, by omega, h5⟩]
            have e2 : (b % 2 != 0) = false := by simp [h5]
            rw [e2]
            simp only [dirrecord_Size.j0]
            rw [if_neg (by decide), padded_eq a (by omega) (by omega)]
            simp only [Option.bind_some]
            rw [wrap_id (by omega) (by omega)]
            split <;> rfl
          · rw [if_neg (by omega)]
            have e2 : (b % 2 != 0) = true := by simp [h5]
            rw [e2]
            simp [dirrecord_Size.j0]

end Go.Proofs.Ytagnefbgclpccaa.Q

namespace Go.Proofs.Ytagnefbgclpccaa.Q
open Go.RowKit Go.Proofs.YtagnefbgclpccaaW.PrintWords Go.Proofs.YtagnefbgclpccaaW.PrintLast Go.Proofs.Ytagnefbgclpccaa.A Go.Proofs.Ytagnefbgclpccaa.H
set_option linter.unusedVariables false

def ydays (y : Int) : Int := if leapB y then 366 else 365
theorem leap_f (y : Int) : datetime_leap.f y = some (leapB y) := by
  unfold datetime_leap.f leapB
  by_cases h1 : Int.tmod y 400 = 0
  · rw [if_pos h1]; simp [h1]
  · rw [if_neg h1]
    by_cases h2 : Int.tmod y 4 = 0
    · rw [if_pos h2]; simp [h1, h2]
    · rw [if_neg h2]; simp [h1, h2]
theorem yearDays_f (y : Int) : datetime_yearDays.f y = some (ydays y) := by
  unfold datetime_yearDays.f ydays
  rw [leap_f, Option.bind_some]
  cases leapB y <;> rfl
theorem ydays_bd (y : Int) : 365 ≤ ydays y ∧ ydays y ≤ 366 := by
  unfold ydays
  split <;> omega

/-- The days of the first n months; the days of the first n years from 1970 on. -/
def msum (y : Int) : Nat → Int
  | 0 => 0
  | n + 1 => msum y n + mdays y (n + 1)
def ysum : Nat → Int
  | 0 => 0
  | n + 1 => ysum n + ydays (1970 + n)
theorem msum_12 (y : Int) : msum y 12 = ydays y := by
  simp only [msum, ydays, mdays, mlen]
  cases leapB y <;> decide
theorem ysum_ge (n : Nat) : 365 * (n : Int) ≤ ysum n := by
  induction n with
  | zero => simp [ysum]
  | succ n ih => have := ydays_bd (1970 + n); simp only [ysum]; omega
theorem msum_le (y : Int) (n : Nat) : 0 ≤ msum y n ∧ msum y n ≤ 31 * n := by
  induction n with
  | zero => simp [msum]
  | succ n ih => have := mdays_bd y (n + 1); simp only [msum]; omega
theorem ysum_le (n : Nat) : ysum n ≤ 366 * n := by
  induction n with
  | zero => simp [ysum]
  | succ n ih => have := ydays_bd (1970 + n); simp only [ysum]; omega
theorem msum_mono (y : Int) (a j : Nat) : msum y a + 28 * j ≤ msum y (a + j) := by
  induction j with
  | zero => simp
  | succ j ih => have := mdays_bd y (a + j + 1 : Nat); have e : msum y (a + (j + 1)) = msum y (a + j) + mdays y ((a + j : Nat) + 1) := rfl; rw [e]; push_cast at *; omega
theorem ysum_mono (a j : Nat) : ysum a + 365 * j ≤ ysum (a + j) := by
  induction j with
  | zero => simp
  | succ j ih => have := ydays_bd (1970 + (a + j : Nat)); have e : ysum (a + (j + 1)) = ysum (a + j) + ydays (1970 + (a + j : Nat)) := rfl; rw [e]; push_cast at *; omega

/-- A day of the calendar: the n-th year from 1970 on, its (m+1)-th month, the day d. -/
structure Cal (x : Int) (n m : Nat) (d : Int) : Prop where
  month : m ≤ 11
  day1 : 1 ≤ d
  day2 : d ≤ mdays (1970 + n) (m + 1)
  sum : ysum n + msum (1970 + n) m + (d - 1) = x

theorem Cal.inYear {x : Int} {n m : Nat} {d : Int} (h : Cal x n m d) : ysum n ≤ x ∧ x < ysum (n + 1) := by
  have h1 := msum_mono (1970 + n) (m + 1) (11 - m)
  have e : m + 1 + (11 - m) = 12 := by have := h.month; omega
  rw [e, msum_12] at h1
  have e2 : msum (1970 + n) (m + 1) = msum (1970 + n) m + mdays (1970 + n) (m + 1) := rfl
  have e3 : ysum (n + 1) = ysum n + ydays (1970 + n) := rfl
  have := (msum_le (1970 + n) m).1
  have := h.day1; have := h.day2; have := h.sum
  omega
theorem Cal.unique {x : Int} {n n' m m' : Nat} {d d' : Int} (h : Cal x n m d) (h' : Cal x n' m' d') : n = n' ∧ m = m' ∧ d = d' := by
  have hn : n = n' := by
    have a := h.inYear; have b := h'.inYear
    rcases Nat.lt_trichotomy n n' with hl | he | hl
    · have := ysum_mono (n + 1) (n' - (n + 1)); rw [show n + 1 + (n' - (n + 1)) = n' by omega] at this; omega
    · exact he
    · have := ysum_mono (n' + 1) (n - (n' + 1)); rw [show n' + 1 + (n - (n' + 1)) = n by omega] at this; omega
  subst hn
  have hm : m = m' := by
    have a1 := h.sum; have a2 := h'.sum; have b1 := h.day1; have b2 := h.day2; have c1 := h'.day1; have c2 := h'.day2
    have e1 : msum (1970 + n) (m + 1) = msum (1970 + n) m + mdays (1970 + n) (m + 1) := rfl
    have e2 : msum (1970 + n) (m' + 1) = msum (1970 + n) m' + mdays (1970 + n) (m' + 1) := rfl
    rcases Nat.lt_trichotomy m m' with hl | he | hl
    · have := msum_mono (1970 + n) (m + 1) (m' - (m + 1)); rw [show m + 1 + (m' - (m + 1)) = m' by omega] at this; omega
    · exact he
    · have := msum_mono (1970 + n) (m' + 1) (m - (m' + 1)); rw [show m' + 1 + (m - (m' + 1)) = m by omega] at this; omega
  subst hm
  have a1 := h.sum; have a2 := h'.sum
  exact ⟨rfl, rfl, by omega⟩

theorem split_l1 (j : Nat) : ∀ (k n i : Nat) (x : Int) (c2 c3 c4 c5 : Int), n + j = 11 → j + 1 ≤ k → i ≤ 1000 → 0 ≤ x → msum (1970 + i) n + x < ydays (1970 + i) →
    ∃ (m : Nat) (d : Int), datetime_Split.l1 k x (1970 + i) (n + 1) c2 c3 c4 c5 = some ((1970 : Int) + i, (m : Int) + 1, d, c3, c4, c5, 0) ∧ Cal (ysum i + msum (1970 + i) n + x) i m d := by
  induction j with
  | zero =>
    intro k n i x c2 c3 c4 c5 hn hk hi h0 hx
    obtain ⟨k, rfl⟩ : ∃ z, k = z + 1 := ⟨k - 1, by omega⟩
    obtain rfl : n = 11 := by omega
    have h12 := msum_12 (1970 + i)
    have e : msum (1970 + i) 12 = msum (1970 + i) 11 + mdays (1970 + i) 12 := rfl
    have hb := mdays_bd (1970 + i) 12
    refine ⟨11, x + 1, ?_, ⟨by omega, by omega, ?_, by omega⟩⟩
    · rw [datetime_Split.l1]
      unfold datetime_monthDays.f
      rw [if_pos (by omega), Option.bind_some]
      have e12 : ((11 : Nat) : Int) + 1 = 12 := rfl
      rw [e12, if_neg (by omega), wrap_id (by omega) (by omega)]
    · show x + 1 ≤ mdays (1970 + i) 12
      omega
  | succ j ih =>
    intro k n i x c2 c3 c4 c5 hn hk hi h0 hx
    obtain ⟨k, rfl⟩ : ∃ z, k = z + 1 := ⟨k - 1, by omega⟩
    have hb := mdays_bd (1970 + i) (n + 1)
    rw [datetime_Split.l1]
    unfold datetime_monthDays.f
    rw [if_pos (by omega), Option.bind_some]
    by_cases hc : x ≥ mdays (1970 + i) (n + 1)
    · rw [if_pos hc, Option.bind_some]
      have hy := ydays_bd (1970 + i)
      have hm := msum_le (1970 + i) n
      rw [wrap_id (x := x - mdays (1970 + i) (n + 1)) (by omega) (by omega), wrap_id (x := (n : Int) + 1 + 1) (by omega) (by omega)]
      have e : msum (1970 + i) (n + 1) = msum (1970 + i) n + mdays (1970 + i) (n + 1) := rfl
      obtain ⟨m, d, hl, hcal⟩ := ih k (n + 1) i (x - mdays (1970 + i) (n + 1)) c2 c3 c4 c5 (by omega) (by omega) hi (by omega) (by rw [e]; omega)
      refine ⟨m, d, ?_, ?_⟩
      · rw [← hl]; push_cast; rfl
      · have es : ysum i + msum (1970 + i) (n + 1) + (x - mdays (1970 + i) (n + 1)) = ysum i + msum (1970 + i) n + x := by rw [e]; omega
        rw [es] at hcal
        exact hcal
    · rw [if_neg hc]
      have hy := ydays_bd (1970 + i)
      have hm := msum_le (1970 + i) n
      refine ⟨n, x + 1, by rw [wrap_id (by omega) (by omega)], ⟨by omega, by omega, by omega, by omega⟩⟩

theorem split_l0 (j : Nat) : ∀ (k i : Nat) (x : Int) (c2 c3 c4 c5 : Int), j + 14 ≤ k → i + j ≤ 1000 → 0 ≤ x → x ≤ 365 * j →
    ∃ (n m : Nat) (d : Int), datetime_Split.l0 k x (1970 + i) 1 c2 c3 c4 c5 = some ((1970 : Int) + n, (m : Int) + 1, d, c3, c4, c5, 0) ∧ Cal (ysum i + x) n m d := by
  induction j with
  | zero =>
    intro k i x c2 c3 c4 c5 hk hi h0 hx
    obtain ⟨k, rfl⟩ : ∃ z, k = z + 1 := ⟨k - 1, by omega⟩
    have hy := ydays_bd (1970 + i)
    rw [datetime_Split.l0, yearDays_f, Option.bind_some, if_neg (by omega)]
    obtain ⟨m, d, hl, hcal⟩ := split_l1 11 k 0 i x c2 c3 c4 c5 rfl (by omega) (by omega) h0 (by simp only [msum]; omega)
    refine ⟨i, m, d, hl, ?_⟩
    simpa [msum] using hcal
  | succ j ih =>
    intro k i x c2 c3 c4 c5 hk hi h0 hx
    obtain ⟨k, rfl⟩ : ∃ z, k = z + 1 := ⟨k - 1, by omega⟩
    have hy := ydays_bd (1970 + i)
    rw [datetime_Split.l0, yearDays_f, Option.bind_some]
    by_cases hc : x ≥ ydays (1970 + i)
    · rw [if_pos hc, Option.bind_some, wrap_id (x := x - ydays (1970 + i)) (by omega) (by omega), wrap_id (x := (1970 : Int) + i + 1) (by omega) (by omega)]
      obtain ⟨n, m, d, hl, hcal⟩ := ih k (i + 1) (x - ydays (1970 + i)) c2 c3 c4 c5 (by omega) (by omega) (by omega) (by push_cast at hx; omega)
      refine ⟨n, m, d, ?_, ?_⟩
      · rw [← hl]; congr 1
      · have e : ysum (i + 1) = ysum i + ydays (1970 + i) := rfl
        have es : ysum (i + 1) + (x - ydays (1970 + i)) = ysum i + x := by rw [e]; omega
        rw [es] at hcal
        exact hcal
    · rw [if_neg hc]
      obtain ⟨m, d, hl, hcal⟩ := split_l1 11 k 0 i x c2 c3 c4 c5 rfl (by omega) (by omega) h0 (by simp only [msum]; omega)
      refine ⟨i, m, d, hl, ?_⟩
      simpa [msum] using hcal

end Go.Proofs.Ytagnefbgclpccaa.Q

namespace Go.Proofs.Ytagnefbgclpccaa.Q
open Go.RowKit Go.Proofs.YtagnefbgclpccaaW.PrintWords Go.Proofs.YtagnefbgclpccaaW.PrintLast Go.Proofs.Ytagnefbgclpccaa.A Go.Proofs.Ytagnefbgclpccaa.H
set_option linter.unusedVariables false

def TimeOk (t : Int) : Prop := 315532800 ≤ t ∧ t ≤ 4102444799
def ZoneOk (z : Int) : Prop := -1440 ≤ z ∧ z ≤ 1440
def QuarterOk (z : Int) : Prop := z % 15 = 0 ∧ -720 ≤ z ∧ z ≤ 780
instance (t : Int) : Decidable (TimeOk t) := inferInstanceAs (Decidable (_ ∧ _))
instance (t : Int) : Decidable (ZoneOk t) := inferInstanceAs (Decidable (_ ∧ _))
instance (t : Int) : Decidable (QuarterOk t) := inferInstanceAs (Decidable (_ ∧ _))
theorem isTime_f (t : Int) : datetime_isTime.f t = some (decide (TimeOk t)) := by
  unfold datetime_isTime.f TimeOk
  by_cases h : t ≥ 315532800
  · rw [if_pos h]; congr 1; exact decide_eq_decide.mpr ⟨fun h2 => ⟨h, h2⟩, fun h2 => h2.2⟩
  · rw [if_neg h]; congr 1; exact (decide_eq_false (fun h2 => h h2.1)).symm
theorem isZone_f (t : Int) : datetime_isZone.f t = some (decide (ZoneOk t)) := by
  unfold datetime_isZone.f ZoneOk
  by_cases h : t ≥ -1440
  · rw [if_pos h]; congr 1; exact decide_eq_decide.mpr ⟨fun h2 => ⟨h, h2⟩, fun h2 => h2.2⟩
  · rw [if_neg h]; congr 1; exact (decide_eq_false (fun h2 => h h2.1)).symm
theorem tmod15 (z : Int) : Int.tmod z 15 = 0 ↔ z % 15 = 0 := by
  constructor
  · intro h; exact Int.emod_eq_zero_of_dvd (Int.dvd_of_tmod_eq_zero h)
  · intro h; exact Int.tmod_eq_zero_of_dvd (Int.dvd_of_emod_eq_zero h)
theorem isQuarter_f (z : Int) : datetime_isQuarter.f z = some (decide (QuarterOk z)) := by
  unfold datetime_isQuarter.f QuarterOk
  by_cases h0 : Int.tmod z 15 = 0
  · rw [if_pos h0]
    have h1 := (tmod15 z).1 h0
    by_cases h : z ≥ -720
    · rw [if_pos h]; congr 1; exact decide_eq_decide.mpr ⟨fun h2 => ⟨h1, h, h2⟩, fun h2 => h2.2.2⟩
    · rw [if_neg h]; congr 1; exact (decide_eq_false (fun h2 => h h2.2.1)).symm
  · rw [if_neg h0]; congr 1; exact (decide_eq_false (fun h2 => h0 ((tmod15 z).2 h2.1))).symm

/-- Split refuses, or tells the clock. -/
theorem split_no (k : Nat) (t z : Int) (h : ¬ (TimeOk t ∧ ZoneOk z)) : datetime_Split.f (k + 1) t z = some (0, 0, 0, 0, 0, 0, 2) := by
  unfold datetime_Split.f
  rw [isTime_f, isZone_f, Option.bind_some, Option.bind_some]
  by_cases h1 : TimeOk t
  · rw [decide_eq_true h1, if_pos rfl, decide_eq_false (fun h2 => h ⟨h1, h2⟩), datetime_Split.j0]
    rfl
  · rw [decide_eq_false h1, if_neg (by decide), datetime_Split.j0]
    rfl
theorem split_yes (t z : Int) (ht : TimeOk t) (hz : ZoneOk z) :
    ∃ (n m : Nat) (d : Int), datetime_Split.f 400 t z = some ((1970 : Int) + n, (m : Int) + 1, d, (t + 60 * z) % 86400 / 3600, (t + 60 * z) / 60 % 60, (t + 60 * z) % 60, 0) ∧ Cal ((t + 60 * z) / 86400) n m d ∧ n ≤ 131 := by
  obtain ⟨t0, t1⟩ := ht
  obtain ⟨z0, z1⟩ := hz
  unfold datetime_Split.f
  rw [isTime_f, isZone_f, Option.bind_some, Option.bind_some, decide_eq_true (show TimeOk t from ⟨t0, t1⟩), if_pos rfl, decide_eq_true (show ZoneOk z from ⟨z0, z1⟩), datetime_Split.j0, if_neg (by decide)]
  have w1 : wrap64 (60 * z) = 60 * z := wrap_id (by omega) (by omega)
  rw [w1]
  have w2 : wrap64 (t + 60 * z) = t + 60 * z := wrap_id (by omega) (by omega)
  rw [w2]
  generalize hL : t + 60 * z = L
  have l0 : 0 ≤ L := by omega
  have l1 : L ≤ 4102531199 := by omega
  have e1 : Int.tdiv L 86400 = L / 86400 := Int.tdiv_eq_ediv_of_nonneg l0
  have e2 : Int.tmod L 86400 = L % 86400 := Int.tmod_eq_emod_of_nonneg l0
  have e3 : Int.tmod L 60 = L % 60 := Int.tmod_eq_emod_of_nonneg l0
  rw [e1, e2, e3]
  have e4 : Int.tdiv (L % 86400) 3600 = L % 86400 / 3600 := Int.tdiv_eq_ediv_of_nonneg (by omega)
  have e5 : Int.tdiv (L % 86400) 60 = L % 86400 / 60 := Int.tdiv_eq_ediv_of_nonneg (by omega)
  rw [e4, e5, wrap_id (x := L / 86400) (by omega) (by omega), wrap_id (x := L % 86400 / 3600) (by omega) (by omega), wrap_id (x := L % 86400 / 60) (by omega) (by omega)]
  have e6 : Int.tmod (L % 86400 / 60) 60 = L / 60 % 60 := by rw [Int.tmod_eq_emod_of_nonneg (by omega)]; omega
  rw [e6]
  obtain ⟨n, m, d, hl, hc⟩ := split_l0 131 399 0 (L / 86400) 0 (L % 86400 / 3600) (L / 60 % 60) (L % 60) (by omega) (by omega) (by omega) (by omega)
  refine ⟨n, m, d, ?_, ?_, ?_⟩
  · rw [← hl]; rfl
  · simpa [ysum] using hc
  · have h1 := hc.inYear.1
    have h2 := ysum_ge n
    simp [ysum] at h1
    omega

theorem wrap_i8 (n : Int) : IntKind.i8.wrap n = (n + 128) % 256 - 128 := by
  simp [IntKind.wrap, IntKind.bits, IntKind.signed]
  split <;> omega
/-- The seven bytes of a date. -/
def dateL (n m : Nat) (d L z : Int) : List Int := [(70 + n) % 256, ((m : Int) + 1) % 256, d % 256, (L % 86400 / 3600) % 256, (L / 60 % 60) % 256, (L % 60) % 256, (z / 15) % 256]
theorem record_no (k : Nat) (t z : Int) (h : ¬ (TimeOk t ∧ QuarterOk z)) : datetime_Record.f 400 t z = some (⟨#[]⟩, 2) := by
  unfold datetime_Record.f
  by_cases h1 : TimeOk t ∧ ZoneOk z
  · obtain ⟨n, m, d, hs, _⟩ := split_yes t z h1.1 h1.2
    rw [hs, Option.bind_some, if_pos rfl, isQuarter_f, Option.bind_some, decide_eq_false (fun h2 => h ⟨h1.1, h2⟩), if_neg (by decide)]
  · rw [split_no 399 t z h1, Option.bind_some, if_neg (by decide)]
theorem record_yes (t z : Int) (ht : TimeOk t) (hq : QuarterOk z) :
    ∃ (n m : Nat) (d : Int), datetime_Record.f 400 t z = some (strOfNums (dateL n m d (t + 60 * z) z), 0) ∧ Cal ((t + 60 * z) / 86400) n m d ∧ n ≤ 131 := by
  have hz : ZoneOk z := ⟨by have := hq.2.1; omega, by have := hq.2.2; omega⟩
  obtain ⟨n, m, d, hs, hc, hn⟩ := split_yes t z ht hz
  refine ⟨n, m, d, ?_, hc, hn⟩
  unfold datetime_Record.f
  rw [hs, Option.bind_some, if_pos rfl, isQuarter_f, Option.bind_some, decide_eq_true hq, if_pos rfl]
  have e1 : wrap64 (1970 + (n : Int) - 1900) = 70 + n := by rw [wrap_id (by omega) (by omega)]; omega
  have e2 : IntKind.i8.wrap (wrap64 (Int.tdiv z 15)) % 256 = z / 15 % 256 := by
    have e3 : Int.tdiv z 15 = z / 15 := Int.tdiv_eq_ediv_of_dvd (Int.dvd_of_emod_eq_zero hq.1)
    have := hq.2.1
    have := hq.2.2
    rw [e3, wrap_id (by omega) (by omega)]
    rw [wrap_i8]
    omega
  rw [e1, e2]
  rfl

end Go.Proofs.Ytagnefbgclpccaa.Q

namespace Go.Proofs.Ytagnefbgclpccaa.Q
open Go.RowKit Go.Proofs.YtagnefbgclpccaaW.PrintWords Go.Proofs.YtagnefbgclpccaaW.PrintLast Go.Proofs.Ytagnefbgclpccaa.A Go.Proofs.Ytagnefbgclpccaa.H
set_option linter.unusedVariables false

theorem zeros_size (n : Nat) : (strOfNums (List.replicate n 0)).size = n := by
  show ((List.replicate n (0 : Int)).map _).toArray.size = n
  simp
theorem encL_length (size : Int) (s1 s2 d : ByteArray) (a5 : Int) (s3 a0 : ByteArray) (t : List UInt8) :
    (encL size s1 s2 d a5 s3 a0 t).length = 6 + s1.size + s2.size + d.size + s3.size + a0.size + t.length := by
  unfold encL
  simp only [List.length_cons, List.length_append, Array.length_toList]
  simp only [ByteArray.size]
  omega
theorem bytes_size (l : List UInt8) : (⟨l.toArray⟩ : ByteArray).size = l.length := by
  show l.toArray.size = l.length
  simp

def theDate : ByteArray := ⟨#[126, 11, 16, 17, 4, 5, 4]⟩
def both20 : ByteArray := ⟨#[20, 0, 0, 0, 0, 0, 0, 20]⟩
def both5 : ByteArray := ⟨#[5, 0, 0, 0, 0, 0, 0, 5]⟩
def both1 : ByteArray := ⟨#[1, 0, 0, 1]⟩
theorem t_date : datetime_Record.f 400 1794845045 60 = some (theDate, 0) := by kernel_rfl
theorem t_both20 : endian_Both.f 20 4 = some (both20, 0) := by kernel_rfl
theorem t_both5 : endian_Both.f 5 4 = some (both5, 0) := by kernel_rfl
theorem t_both1 : endian_Both.f 1 2 = some (both1, 0) := by kernel_rfl

/-- The example with other strings: what is encoded has the size, or is refused where there is none. -/
theorem enc_zeros (x y : ByteArray) (hx : x.size ≤ 255) (hy : y.size ≤ 255) :
    ∃ s e, dirrecord_Encode.f 400 x 20 5 1794845045 60 0 1 y = some (s, e) ∧ (s.size : Int) = sizeV x.size y.size ∧ (e == 0) = decide (0 < sizeV x.size y.size) := by
  unfold dirrecord_Encode.f
  rw [if_pos ⟨by omega, by omega⟩]
  by_cases h0 : x.size = 0
  · rw [if_pos h0]
    have hz : sizeV x.size y.size = 0 := by unfold sizeV; rw [if_neg (by omega)]
    exact ⟨_, _, rfl, by rw [hz]; rfl, by rw [hz]; rfl⟩
  · rw [if_neg h0]
    by_cases h1 : (y.size : Int) % 2 ≠ 0
    · rw [if_pos h1]
      have hz : sizeV x.size y.size = 0 := by unfold sizeV; rw [if_neg (by omega)]
      exact ⟨_, _, rfl, by rw [hz]; rfl, by rw [hz]; rfl⟩
    · rw [if_neg h1, size_eq 399]
      simp only [Option.bind_some]
      by_cases h2 : sizeV x.size y.size = 0
      · rw [if_pos h2]
        exact ⟨_, _, rfl, by rw [h2]; rfl, by rw [h2]; rfl⟩
      · rw [if_neg h2, t_date, t_both20, t_both5, t_both1]
        simp only [Option.bind_some]
        have g1 : theDate.size = 7 := rfl
        have g2 : both20.size = 8 := rfl
        have g3 : both5.size = 8 := rfl
        have g4 : both1.size = 4 := rfl
        rw [if_pos ⟨by omega, by omega, by omega, by omega, by omega, by omega⟩, if_neg (by decide), if_neg (by decide), if_neg (by decide)]
        have hv : sizeV x.size y.size = (34 + (x.size : Int)) / 2 * 2 + y.size ∧ 0 < sizeV x.size y.size := by
          unfold sizeV at h2 ⊢
          split at h2
          · split at h2
            · rw [if_pos (by assumption), if_pos (by assumption)]
              omega
            · exact absurd rfl h2
          · exact absurd rfl h2
        have hd : decide (0 < sizeV x.size y.size) = true := decide_eq_true hv.2
        have ly : y.data.toList.length = y.size := Array.length_toList
        by_cases h3 : (x.size : Int) % 2 = 0
        · rw [if_pos h3]
          refine ⟨_, _, rfl, ?_, by rw [hd]; rfl⟩
          rw [bytes_size, encL_length, g1, g2, g3, g4, List.length_cons, ly, hv.1]
          omega
        · rw [if_neg h3]
          refine ⟨_, _, rfl, ?_, by rw [hd]; rfl⟩
          rw [bytes_size, encL_length, g1, g2, g3, g4, ly, hv.1]
          omega

end Go.Proofs.Ytagnefbgclpccaa.Q

namespace Go.Proofs.Ytagnefbgclpccaa.Q
open Go.RowKit Go.Proofs.YtagnefbgclpccaaW.PrintWords Go.Proofs.YtagnefbgclpccaaW.PrintLast Go.Proofs.Ytagnefbgclpccaa.A Go.Proofs.Ytagnefbgclpccaa.H
set_option linter.unusedVariables false

/-! What dirrecord.Encode returns, for any record. -/
theorem le4_len (n : Int) : (le4 n).size = 4 := rfl
theorem be4_len (n : Int) : (be4 n).size = 4 := rfl
theorem le2_len (n : Int) : (le2 n).size = 2 := rfl
theorem be2_len (n : Int) : (be2 n).size = 2 := rfl

/-- The numbers of a record lie within their bounds. -/
def GoodR (a1 a2 a3 a4 a5 a6 : Int) : Prop := (0 ≤ a1 ∧ a1 < 4294967296) ∧ (0 ≤ a2 ∧ a2 < 4294967296) ∧ (TimeOk a3 ∧ QuarterOk a4) ∧ (0 ≤ a5 ∧ a5 ≤ 255) ∧ (0 ≤ a6 ∧ a6 < 65536)

theorem both_f4 (n : Int) : endian_Both.f n 4 = if 0 ≤ n ∧ n < 4294967296 then some (le4 n ++ be4 n, 0) else some ((⟨#[]⟩ : ByteArray), 2) := by
  unfold endian_Both.f; rw [if_pos rfl]
theorem both_f2 (n : Int) : endian_Both.f n 2 = if 0 ≤ n ∧ n < 65536 then some (le2 n ++ be2 n, 0) else some ((⟨#[]⟩ : ByteArray), 2) := by
  unfold endian_Both.f; rw [if_neg (by decide), if_pos rfl]
theorem ee_ne_l {e e1 : Int} (h : e ≠ 0) : ee e e1 ≠ 0 := by unfold ee; split <;> omega
theorem ee_ne_r {e e1 : Int} (h : e1 ≠ 0) : ee e e1 ≠ 0 := by unfold ee; split <;> omega

/-- What stands between the identifier and Use. -/
def padL (a0 : ByteArray) : List UInt8 := if (a0.size : Int) % 2 = 0 then [0] else []

theorem size_bds {a b : Int} (h : sizeV a b ≠ 0) : sizeV a b = (34 + a) / 2 * 2 + b ∧ 1 ≤ a ∧ a ≤ 254 ∧ 0 ≤ b ∧ b ≤ 254 ∧ b % 2 = 0 ∧ sizeV a b ≤ 254 ∧ 34 ≤ sizeV a b := by
  unfold sizeV at h ⊢
  split at h
  · split at h
    · rw [if_pos (by assumption), if_pos (by assumption)]
      omega
    · exact absurd rfl h
  · exact absurd rfl h

theorem enc_nosize (a0 : ByteArray) (a1 a2 a3 a4 a5 a6 : Int) (a7 : ByteArray) (z0 : a0.size ≤ 9223372036854775807) (z7 : a7.size ≤ 9223372036854775807) (h : sizeV a0.size a7.size = 0) :
    dirrecord_Encode.f 400 a0 a1 a2 a3 a4 a5 a6 a7 = some ((⟨#[]⟩ : ByteArray), if a0.size = 0 ∨ (a7.size : Int) % 2 ≠ 0 then 1 else 7) := by
  unfold dirrecord_Encode.f
  rw [if_pos ⟨z0, z7⟩]
  by_cases h0 : a0.size = 0
  · rw [if_pos h0, if_pos (Or.inl h0)]
  · rw [if_neg h0]
    by_cases h1 : (a7.size : Int) % 2 ≠ 0
    · rw [if_pos h1, if_pos (Or.inr h1)]
    · rw [if_neg h1, if_neg (by omega), size_eq 399, Option.bind_some, if_pos h]

theorem enc_bad (a0 : ByteArray) (a1 a2 a3 a4 a5 a6 : Int) (a7 : ByteArray) (h : sizeV a0.size a7.size ≠ 0) (hg : ¬ GoodR a1 a2 a3 a4 a5 a6) :
    dirrecord_Encode.f 400 a0 a1 a2 a3 a4 a5 a6 a7 = some ((⟨#[]⟩ : ByteArray), 2) := by
  obtain ⟨_, i0, i1, u0, u1, u2, _, _⟩ := size_bds h
  unfold dirrecord_Encode.f
  rw [if_pos ⟨by omega, by omega⟩, if_neg (by omega), if_neg (by omega), size_eq 399, Option.bind_some, if_neg h]
  have hd : ∃ d e, datetime_Record.f 400 a3 a4 = some (d, e) ∧ d.size ≤ 1000 ∧ (e = 0 → TimeOk a3 ∧ QuarterOk a4) := by
    by_cases hq : TimeOk a3 ∧ QuarterOk a4
    · obtain ⟨n, m, d, hr, _⟩ := record_yes a3 a4 hq.1 hq.2
      exact ⟨_, _, hr, by simp [dateL, strOfNums, ByteArray.size], fun _ => hq⟩
    · exact ⟨_, _, record_no 400 a3 a4 hq, by decide, fun h => by omega⟩
  have hb : ∀ n, ∃ p e, endian_Both.f n 4 = some (p, e) ∧ p.size ≤ 1000 ∧ (e = 0 → 0 ≤ n ∧ n < 4294967296) := fun n => by
    by_cases hn : 0 ≤ n ∧ n < 4294967296
    · exact ⟨_, _, by rw [both_f4, if_pos hn], by rw [ByteArray.size_append, le4_len, be4_len]; decide, fun _ => hn⟩
    · exact ⟨_, _, by rw [both_f4, if_neg hn], by decide, fun h => by omega⟩
  have hc : ∃ p e, endian_Both.f a6 2 = some (p, e) ∧ p.size ≤ 1000 ∧ (e = 0 → 0 ≤ a6 ∧ a6 < 65536) := by
    by_cases hn : 0 ≤ a6 ∧ a6 < 65536
    · exact ⟨_, _, by rw [both_f2, if_pos hn], by rw [ByteArray.size_append, le2_len, be2_len]; decide, fun _ => hn⟩
    · exact ⟨_, _, by rw [both_f2, if_neg hn], by decide, fun h => by omega⟩
  obtain ⟨d, e, hd, zd, kd⟩ := hd
  obtain ⟨p1, e1, h1, z1, k1⟩ := hb a1
  obtain ⟨p2, e2, h2, z2, k2⟩ := hb a2
  obtain ⟨p3, e3, h3, z3, k3⟩ := hc
  rw [hd, h1, h2, h3, Option.bind_some, Option.bind_some, Option.bind_some, Option.bind_some, if_pos ⟨by omega, by omega, zd, z1, z2, z3⟩]
  show (if ee (ee (ee e e1) e2) e3 ≠ 0 then _ else _) = _
  by_cases hw : ee (ee (ee e e1) e2) e3 ≠ 0
  · rw [if_pos hw]
  · rw [if_neg hw]
    have q3 : e3 = 0 := Classical.byContradiction fun h => hw (ee_ne_r h)
    have q2 : e2 = 0 := Classical.byContradiction fun h => hw (ee_ne_l (ee_ne_r h))
    have q1 : e1 = 0 := Classical.byContradiction fun h => hw (ee_ne_l (ee_ne_l (ee_ne_r h)))
    have q0 : e = 0 := Classical.byContradiction fun h => hw (ee_ne_l (ee_ne_l (ee_ne_l h)))
    by_cases f0 : a5 < 0
    · rw [if_pos f0]
    · rw [if_neg f0]
      by_cases f1 : 255 < a5
      · rw [if_pos f1]
      · exact absurd ⟨k1 q1, k2 q2, kd q0, ⟨by omega, by omega⟩, k3 q3⟩ hg

/-- The bytes of a record. -/
def recL (a0 : ByteArray) (a1 a2 : Int) (d : ByteArray) (a5 a6 : Int) (t : List UInt8) (n : Int) : List UInt8 :=
  encL n (le4 a1 ++ be4 a1) (le4 a2 ++ be4 a2) d a5 (le2 a6 ++ be2 a6) a0 t

theorem enc_good (a0 : ByteArray) (a1 a2 a3 a4 a5 a6 : Int) (a7 : ByteArray) (h : sizeV a0.size a7.size ≠ 0) (hg : GoodR a1 a2 a3 a4 a5 a6) :
    ∃ (n m : Nat) (d : Int), dirrecord_Encode.f 400 a0 a1 a2 a3 a4 a5 a6 a7 = some (⟨(recL a0 a1 a2 (strOfNums (dateL n m d (a3 + 60 * a4) a4)) a5 a6 (padL a0 ++ a7.data.toList) (sizeV a0.size a7.size)).toArray⟩, 0) ∧ Cal ((a3 + 60 * a4) / 86400) n m d ∧ n ≤ 131 := by
  obtain ⟨_, i0, i1, u0, u1, u2, _, _⟩ := size_bds h
  obtain ⟨g1, g2, g3, g5, g6⟩ := hg
  obtain ⟨n, m, d, hr, hc, hn⟩ := record_yes a3 a4 g3.1 g3.2
  refine ⟨n, m, d, ?_, hc, hn⟩
  unfold dirrecord_Encode.f
  rw [if_pos ⟨by omega, by omega⟩, if_neg (by omega), if_neg (by omega), size_eq 399, Option.bind_some, if_neg h, hr, both_f4, both_f4, both_f2, if_pos g1, if_pos g2, if_pos g6,
    Option.bind_some, Option.bind_some, Option.bind_some, Option.bind_some,
    if_pos ⟨by omega, by omega, by simp [dateL, strOfNums, ByteArray.size], by rw [ByteArray.size_append, le4_len, be4_len]; decide, by rw [ByteArray.size_append, le4_len, be4_len]; decide, by rw [ByteArray.size_append, le2_len, be2_len]; decide⟩,
    if_neg (fun h => h rfl), if_neg (by omega), if_neg (by omega)]
  unfold padL
  by_cases h2 : (a0.size : Int) % 2 = 0
  · rw [if_pos h2, if_pos h2]; rfl
  · rw [if_neg h2, if_neg h2]; rfl

end Go.Proofs.Ytagnefbgclpccaa.Q

namespace Go.Proofs.Ytagnefbgclpccaa.Q
open Go.RowKit Go.Proofs.YtagnefbgclpccaaW.PrintWords Go.Proofs.YtagnefbgclpccaaW.PrintLast Go.Proofs.Ytagnefbgclpccaa.A Go.Proofs.Ytagnefbgclpccaa.H
set_option linter.unusedVariables false

/-! The bytes of an encoded record, and what dirrecord.Decode tells of them, with more behind. -/
/-- A byte of a list, as a number. -/
def bl (l : List UInt8) (i : Nat) : Int := ((l[i]?).getD 0).toNat
theorem bt_bl (s : ByteArray) (i : Nat) : bt s (i : Int) = bl s.data.toList i := by
  unfold bt bl
  rw [Array.getElem?_toList]
  by_cases h : (i : Int).toNat < s.size
  · rw [dif_pos h]
    have h2 : i < s.data.size := by simpa using h
    rw [Array.getElem?_eq_getElem h2]
    rfl
  · rw [dif_neg h]
    have h2 : s.data.size ≤ i := by simpa using h
    rw [Array.getElem?_eq_none h2]
    rfl
theorem bt_l (l : List UInt8) (i : Nat) : bt (⟨l.toArray⟩ : ByteArray) (i : Int) = bl l i := by
  rw [bt_bl]
theorem ext_l (l : List UInt8) (a b : Nat) : (⟨l.toArray⟩ : ByteArray).extract a b = ⟨((l.drop a).take (b - a)).toArray⟩ := by
  apply ByteArray.ext
  rw [ByteArray.data_extract, List.extract_toArray]
theorem of_toList (s : ByteArray) : (⟨s.data.toList.toArray⟩ : ByteArray) = s := by
  apply ByteArray.ext
  rfl
theorem ext_mid (p x q : List UInt8) (a b : Nat) (ha : p.length = a) (hb : a + x.length = b) : (⟨(p ++ (x ++ q)).toArray⟩ : ByteArray).extract a b = ⟨x.toArray⟩ := by
  rw [ext_l]
  subst ha
  rw [List.drop_left, ← hb, Nat.add_sub_cancel_left, List.take_left]

theorem list8 (l : List UInt8) (h : l.length = 8) : ∃ a b c d e f g i, l = [a, b, c, d, e, f, g, i] := by
  match l, h with
  | [a, b, c, d, e, f, g, i], _ => exact ⟨a, b, c, d, e, f, g, i, rfl⟩
theorem list7 (l : List UInt8) (h : l.length = 7) : ∃ a b c d e f g, l = [a, b, c, d, e, f, g] := by
  match l, h with
  | [a, b, c, d, e, f, g], _ => exact ⟨a, b, c, d, e, f, g, rfl⟩
theorem list4 (l : List UInt8) (h : l.length = 4) : ∃ a b c d, l = [a, b, c, d] := by
  match l, h with
  | [a, b, c, d], _ => exact ⟨a, b, c, d, rfl⟩

/-- The bytes of a record, told from their places. -/
structure Parts (n : Int) (s1 s2 d : ByteArray) (a5 : Int) (s3 a0 : ByteArray) (t : List UInt8) (S : ByteArray) : Prop where
  size : (S.size : Int) = 33 + a0.size + t.length
  b0 : bt S 0 = n % 256
  b1 : bt S 1 = 0
  b25 : bt S 25 = a5 % 256
  b26 : bt S 26 = 0
  b27 : bt S 27 = 0
  b32 : bt S 32 = (a0.size : Int) % 256
  n1 : ∀ i : Nat, i < 8 → bt S (2 + i : Nat) = bt s1 i
  n2 : ∀ i : Nat, i < 8 → bt S (10 + i : Nat) = bt s2 i
  n3 : ∀ i : Nat, i < 4 → bt S (28 + i : Nat) = bt s3 i
  date : S.extract 18 25 = d
  iden : ∀ b, 33 + a0.size = b → S.extract 33 b = a0
  tail : ∀ (p x q : List UInt8) (a b : Nat), t = p ++ (x ++ q) → 33 + a0.size + p.length = a → a + x.length = b → S.extract a b = ⟨x.toArray⟩

theorem bz_int (x : Int) : ((bz x).toNat : Int) = x % 256 := bz_toNat x

theorem parts (n : Int) (s1 s2 d : ByteArray) (a5 : Int) (s3 a0 : ByteArray) (t : List UInt8) (h1 : s1.size = 8) (h2 : s2.size = 8) (hd : d.size = 7) (h3 : s3.size = 4) :
    Parts n s1 s2 d a5 s3 a0 t ⟨(encL n s1 s2 d a5 s3 a0 t).toArray⟩ := by
  have z1 : s1.data.toList.length = 8 := h1
  have z2 : s2.data.toList.length = 8 := h2
  have zd : d.data.toList.length = 7 := hd
  have z3 : s3.data.toList.length = 4 := h3
  have z0 : a0.data.toList.length = a0.size := Array.length_toList
  obtain ⟨x0, x1, x2, x3, x4, x5, x6, x7, ex⟩ := list8 _ z1
  obtain ⟨y0, y1, y2, y3, y4, y5, y6, y7, ey⟩ := list8 _ z2
  obtain ⟨d0, d1, d2, d3, d4, d5, d6, ed⟩ := list7 _ zd
  obtain ⟨w0, w1, w2, w3, ew⟩ := list4 _ z3
  have e : encL n s1 s2 d a5 s3 a0 t = bz n :: 0 :: x0 :: x1 :: x2 :: x3 :: x4 :: x5 :: x6 :: x7 :: y0 :: y1 :: y2 :: y3 :: y4 :: y5 :: y6 :: y7 :: d0 :: d1 :: d2 :: d3 :: d4 :: d5 :: d6 :: bz a5 :: 0 :: 0 :: w0 :: w1 :: w2 :: w3 :: bz a0.size :: (a0.data.toList ++ t) := by
    unfold encL; rw [ex, ey, ed, ew]; rfl
  have k1 : ∀ i, bt s1 (i : Nat) = bl [x0, x1, x2, x3, x4, x5, x6, x7] i := fun i => by rw [bt_bl, ex]
  have k2 : ∀ i, bt s2 (i : Nat) = bl [y0, y1, y2, y3, y4, y5, y6, y7] i := fun i => by rw [bt_bl, ey]
  have k3 : ∀ i, bt s3 (i : Nat) = bl [w0, w1, w2, w3] i := fun i => by rw [bt_bl, ew]
  have hd' : d = ⟨[d0, d1, d2, d3, d4, d5, d6].toArray⟩ := by rw [← ed]
  have sz := encL_length n s1 s2 d a5 s3 a0 t
  have hp : [bz n, 0, x0, x1, x2, x3, x4, x5, x6, x7, y0, y1, y2, y3, y4, y5, y6, y7, d0, d1, d2, d3, d4, d5, d6, bz a5, 0, 0, w0, w1, w2, w3, bz a0.size].length = 33 := rfl
  constructor
  · rw [bytes_size, sz]; omega
  · rw [e]; exact (bt_l _ 0).trans (bz_int n)
  · rw [e]; exact bt_l _ 1
  · rw [e]; exact (bt_l _ 25).trans (bz_int a5)
  · rw [e]; exact bt_l _ 26
  · rw [e]; exact bt_l _ 27
  · rw [e]; exact (bt_l _ 32).trans (bz_int _)
  · intro i hi; rw [e, k1, bt_l]
    match i, hi with
    | 0, _ => rfl | 1, _ => rfl | 2, _ => rfl | 3, _ => rfl | 4, _ => rfl | 5, _ => rfl | 6, _ => rfl | 7, _ => rfl
  · intro i hi; rw [e, k2, bt_l]
    match i, hi with
    | 0, _ => rfl | 1, _ => rfl | 2, _ => rfl | 3, _ => rfl | 4, _ => rfl | 5, _ => rfl | 6, _ => rfl | 7, _ => rfl
  · intro i hi; rw [e, k3, bt_l]
    match i, hi with
    | 0, _ => rfl | 1, _ => rfl | 2, _ => rfl | 3, _ => rfl
  · rw [e, hd']
    exact ext_mid [bz n, 0, x0, x1, x2, x3, x4, x5, x6, x7, y0, y1, y2, y3, y4, y5, y6, y7] [d0, d1, d2, d3, d4, d5, d6] _ 18 25 rfl rfl
  · intro b hb
    rw [e, ← of_toList a0]
    exact ext_mid [bz n, 0, x0, x1, x2, x3, x4, x5, x6, x7, y0, y1, y2, y3, y4, y5, y6, y7, d0, d1, d2, d3, d4, d5, d6, bz a5, 0, 0, w0, w1, w2, w3, bz a0.size] a0.data.toList t 33 b rfl (by rw [z0]; exact hb)
  · intro p x q a b ht ha hb
    rw [e, ht]
    have := ext_mid ([bz n, 0, x0, x1, x2, x3, x4, x5, x6, x7, y0, y1, y2, y3, y4, y5, y6, y7, d0, d1, d2, d3, d4, d5, d6, bz a5, 0, 0, w0, w1, w2, w3, bz a0.size] ++ a0.data.toList ++ p) x q a b (by rw [List.length_append, List.length_append, hp, z0]; exact ha) hb
    simpa only [List.append_assoc, List.cons_append, List.nil_append] using this

/-- What Decode tells of such bytes. -/
theorem dec_parts {n : Int} {s1 s2 d : ByteArray} {a5 : Int} {s3 a0 : ByteArray} {u v : List UInt8} {S : ByteArray} {tt zz : Int} (h : Parts n s1 s2 d a5 s3 a0 (padL a0 ++ (u ++ v)) S)
    (hn : n = (34 + (a0.size : Int)) / 2 * 2 + u.length) (hi : 1 ≤ a0.size) (hi2 : a0.size ≤ 254) (hu : u.length % 2 = 0) (hn2 : n ≤ 254) (hv : v.length ≤ 1000) (h5 : 0 ≤ a5) (h6 : a5 ≤ 255)
    (hr : datetime_ReadRecord.f 400 d = some (tt, zz, 0)) :
    dirrecord_Decode.f 400 S = some (a0, numK S 2 4, numK S 10 4, tt, zz, a5, numK S 28 2, ⟨u.toArray⟩, n, 0) := by
  have hpl : ((padL a0).length : Int) = (34 + (a0.size : Int)) / 2 * 2 - 33 - a0.size := by
    unfold padL
    by_cases h2 : (a0.size : Int) % 2 = 0
    · rw [if_pos h2]; show (1 : Int) = _; omega
    · rw [if_neg h2]; show (0 : Int) = _; omega
  have hs := h.size
  rw [List.length_append, List.length_append] at hs
  have e0 : bt S 0 = n := by rw [h.b0]; omega
  have e32 : bt S 32 = a0.size := by rw [h.b32]; omega
  have ep : padE (bt S 32) = (34 + (a0.size : Int)) / 2 * 2 := by rw [e32]; rfl
  unfold dirrecord_Decode.f
  rw [if_pos (by omega), if_neg (by omega), ep, e0, e32, h.b1, h.b26, h.b27, h.b25, h.date, hr]
  have c0 : (n % 2 != 0) = false := bne_eq_false_iff_eq.2 (by omega)
  have c1 : decide (n < 34) = false := decide_eq_false (by omega)
  have c2 : decide ((S.size : Int) < n) = false := decide_eq_false (by omega)
  have c3 : ((a0.size : Int) == 0) = false := beq_eq_false_iff_ne.2 (by omega)
  have c4 : decide (n < (34 + (a0.size : Int)) / 2 * 2) = false := decide_eq_false (by omega)
  rw [c0, c1, c2, c3, c4, if_neg (by decide), if_neg (by decide), Option.bind_some, if_pos rfl, h.iden (33 + (a0.size : Int)).toNat (by omega), h.tail (padL a0) u v ((34 + (a0.size : Int)) / 2 * 2).toNat n.toNat rfl (by omega) (by omega)]
  have e5 : a5 % 256 = a5 := by omega
  rw [e5]

end Go.Proofs.Ytagnefbgclpccaa.Q

namespace Go.Proofs.Ytagnefbgclpccaa.Q
open Go.RowKit Go.Proofs.YtagnefbgclpccaaW.PrintWords Go.Proofs.YtagnefbgclpccaaW.PrintLast Go.Proofs.Ytagnefbgclpccaa.A Go.Proofs.Ytagnefbgclpccaa.H
set_option linter.unusedVariables false

/-! No beginning of an encoded record is decoded. -/
theorem bt_extract0 (s : ByteArray) (m : Nat) (h0 : 0 < m) (h1 : m ≤ s.size) : bt (s.extract 0 m) 0 = bt s 0 := by
  have e := bt_bl (s.extract 0 m) 0
  have e2 := bt_bl s 0
  have : (s.extract 0 m).data.toList = (s.data.toList).take m := by
    rw [ByteArray.data_extract]
    simp
  rw [this] at e
  refine e.trans (Eq.trans ?_ e2.symm)
  unfold bl
  rw [List.getElem?_take, if_pos h0]
theorem dec_prefix (k : Nat) (s : ByteArray) (m : Nat) (h : bt s 0 = s.size) (hm : m < s.size) (h2 : s.size ≤ 254) (h3 : s.size % 2 = 0) :
    dirrecord_Decode.f k (s.extract 0 m) = some ((⟨#[]⟩ : ByteArray), 0, 0, 0, 0, 0, 0, (⟨#[]⟩ : ByteArray), 0, 10) := by
  have hs : (s.extract 0 m).size = m := by rw [ByteArray.size_extract]; omega
  unfold dirrecord_Decode.f
  rw [if_pos (by omega)]
  by_cases h34 : (s.extract 0 m).size < 34
  · rw [if_pos h34]
  · rw [if_neg h34, bt_extract0 s m (by omega) (by omega), h]
    have c2 : decide (((s.extract 0 m).size : Int) < (s.size : Int)) = true := decide_eq_true (by omega)
    rw [c2]
    have e : ∀ a b c : Bool, ((a || (b || (true || c))) = true) := by decide
    rw [if_pos (e _ _ _)]

/-- An encoded record: its size stands in its first byte. -/
theorem enc_size (a0 : ByteArray) (a1 a2 a3 a4 a5 a6 : Int) (a7 : ByteArray) (z0 : a0.size ≤ 9223372036854775807) (z7 : a7.size ≤ 9223372036854775807) :
    ∃ s e, dirrecord_Encode.f 400 a0 a1 a2 a3 a4 a5 a6 a7 = some (s, e) ∧ (e ≠ 0 ∨ e = 0 ∧ bt s 0 = s.size ∧ 34 ≤ s.size ∧ s.size ≤ 254 ∧ s.size % 2 = 0) := by
  by_cases h : sizeV a0.size a7.size = 0
  · exact ⟨_, _, enc_nosize a0 a1 a2 a3 a4 a5 a6 a7 z0 z7 h, Or.inl (by split <;> decide)⟩
  · by_cases hg : GoodR a1 a2 a3 a4 a5 a6
    · obtain ⟨n, m, d, he, hc, hn⟩ := enc_good a0 a1 a2 a3 a4 a5 a6 a7 h hg
      obtain ⟨v, i0, i1, u0, u1, u2, v1, v2⟩ := size_bds h
      have P := parts (sizeV a0.size a7.size) (le4 a1 ++ be4 a1) (le4 a2 ++ be4 a2) (strOfNums (dateL n m d (a3 + 60 * a4) a4)) a5 (le2 a6 ++ be2 a6) a0 (padL a0 ++ a7.data.toList)
        (by rw [ByteArray.size_append, le4_len, be4_len]) (by rw [ByteArray.size_append, le4_len, be4_len]) (by simp [dateL, strOfNums, ByteArray.size]) (by rw [ByteArray.size_append, le2_len, be2_len])
      have hs := P.size
      have hb := P.b0
      have lp : ((padL a0).length : Int) = (34 + (a0.size : Int)) / 2 * 2 - 33 - a0.size := by
        unfold padL
        by_cases h2 : (a0.size : Int) % 2 = 0
        · rw [if_pos h2]; show (1 : Int) = _; omega
        · rw [if_neg h2]; show (0 : Int) = _; omega
      have l7 : a7.data.toList.length = a7.size := Array.length_toList
      rw [List.length_append, l7] at hs
      refine ⟨_, _, he, Or.inr ⟨rfl, ?_, ?_, ?_, ?_⟩⟩
      · show bt (⟨(encL _ _ _ _ _ _ _ _).toArray⟩ : ByteArray) 0 = _
        rw [hb]
        show _ = ((⟨(encL _ _ _ _ _ _ _ _).toArray⟩ : ByteArray).size : Int)
        rw [hs]; omega
      · show 34 ≤ (⟨(encL _ _ _ _ _ _ _ _).toArray⟩ : ByteArray).size
        omega
      · show (⟨(encL _ _ _ _ _ _ _ _).toArray⟩ : ByteArray).size ≤ 254
        omega
      · show (⟨(encL _ _ _ _ _ _ _ _).toArray⟩ : ByteArray).size % 2 = 0
        omega
    · exact ⟨_, _, enc_bad a0 a1 a2 a3 a4 a5 a6 a7 h hg, Or.inl (by decide)⟩

theorem awake_true : masterdisclaw20_awake.f = some true := rfl
theorem short_true (a0 : ByteArray) (a1 a2 a3 a4 a5 a6 : Int) (a7 : ByteArray) (c : Int) (z0 : a0.size ≤ 9223372036854775807) (z7 : a7.size ≤ 9223372036854775807) (c0 : 0 ≤ c) (c1 : c ≤ 255) :
    masterdisclaw20_DirrecordShort.f 400 a0 a1 a2 a3 a4 a5 a6 a7 c = some true := by
  obtain ⟨s, e, he, h⟩ := enc_size a0 a1 a2 a3 a4 a5 a6 a7 z0 z7
  unfold masterdisclaw20_DirrecordShort.f
  rw [awake_true, Option.bind_some, if_pos rfl, he, Option.bind_some]
  rcases h with h | ⟨rfl, hb, h34, h254, h2⟩
  · rw [if_neg h]
    show some (e != 0) = some true
    rw [bne_iff_ne.2 h]
  · have hm : Int.tmod c s.size = c % s.size := Int.tmod_eq_emod_of_nonneg c0
    have m0 : 0 ≤ c % (s.size : Int) := Int.emod_nonneg _ (by omega)
    have m1 : c % (s.size : Int) < s.size := Int.emod_lt_of_pos _ (by omega)
    rw [if_pos rfl, if_neg (by show ¬ ((s.size : Int) = 0); omega)]
    show (if 0 ≤ (Int.tmod (wrap64 c) (s.size : Int)) then (if (Int.tmod (wrap64 c) (s.size : Int)) ≤ (s.size : Int) then ((dirrecord_Decode.f 400 (s.extract 0 ((Int.tmod (wrap64 c) (s.size : Int)) : Int).toNat)).bind _) else none) else none) = _
    rw [wrap_id (x := c) (by omega) (by omega), hm, if_pos m0, if_pos (by omega), dec_prefix 400 s (c % (s.size : Int)).toNat hb (by omega) h254 h2, Option.bind_some]
    have eE : (⟨#[]⟩ : ByteArray).toList = [] := by rw [Lib.toList_data]
    rw [if_pos rfl, if_pos rfl]
    simp only [eE]
    rfl

end Go.Proofs.Ytagnefbgclpccaa.Q
