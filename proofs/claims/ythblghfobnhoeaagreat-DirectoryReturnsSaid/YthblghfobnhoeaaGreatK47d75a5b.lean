import Derived.Test.YthblghfobnhoeaaGreatK4ce3f8eb
import Derived.Test.YthblghfobnhoeaaGreatKe7e6dfb4
import Derived.Test.YthblghfobnhoeaaGreatKeb91b463
import Derived.Test.YthblghfobnhoeaaGreatKebf21747
import Derived.Test.YthblghfobnhoeaaGreatK34bd3b12
namespace Go.Proofs.YthblghfobnhoeaaGreat.Q
open Go.RowKit Go.Proofs.YthblghfobnhoeaaGreatW.PrintWords Go.Proofs.YthblghfobnhoeaaGreatW.PrintLast Go.Proofs.YthblghfobnhoeaaGreat.A Go.Proofs.YthblghfobnhoeaaGreat.H
set_option linter.unusedVariables false

def ydays (y : Int) : Int := if leapB y then 366 else 365
theorem leap_f (y : Int) : datetime_leap.f y = some (leapB y) := by
  unfold datetime_leap.f leapB
  by_cases h1 : Int.tmod y 400 = 0
  · rw [if_pos h1]; simp [h1]
  · rw [if_neg h1]
    by_cases h2 : Int.tmod y 4 = 0
    · rw [if_pos h2]; simp [h1, h2]
    · rw [if_neg h2]; simp [h1, h2]
theorem yearDays_f (y : Int) : datetime_yearDays.f y = some (ydays y) := by
  unfold datetime_yearDays.f ydays
  rw [leap_f, Option.bind_some]
  cases leapB y <;> rfl
theorem ydays_bd (y : Int) : 365 ≤ ydays y ∧ ydays y ≤ 366 := by
  unfold ydays
  split <;> omega

/-- The days of the first n months; the days of the first n years from 1970 on. -/
def msum (y : Int) : Nat → Int
  | 0 => 0
  | n + 1 => msum y n + mdays y (n + 1)
def ysum : Nat → Int
  | 0 => 0
  | n + 1 => ysum n + ydays (1970 + n)
theorem msum_12 (y : Int) : msum y 12 = ydays y := by
  simp only [msum, ydays, mdays, mlen]
  cases leapB y <;> decide
theorem ysum_ge (n : Nat) : 365 * (n : Int) ≤ ysum n := by
  induction n with
  | zero => simp [ysum]
  | succ n ih => have := ydays_bd (1970 + n); simp only [ysum]; omega
theorem msum_le (y : Int) (n : Nat) : 0 ≤ msum y n ∧ msum y n ≤ 31 * n := by
  induction n with
  | zero => simp [msum]
  | succ n ih => have := mdays_bd y (n + 1); simp only [msum]; omega
theorem ysum_le (n : Nat) : ysum n ≤ 366 * n := by
  induction n with
  | zero => simp [ysum]
  | succ n ih => have := ydays_bd (1970 + n); simp only [ysum]; omega
theorem msum_mono (y : Int) (a j : Nat) : msum y a + 28 * j ≤ msum y (a + j) := by
  induction j with
  | zero => simp
  | succ j ih => have := mdays_bd y (a + j + 1 : Nat); have e : msum y (a + (j + 1)) = msum y (a + j) + mdays y ((a + j : Nat) + 1) := rfl; rw [e]; push_cast at *; omega
theorem ysum_mono (a j : Nat) : ysum a + 365 * j ≤ ysum (a + j) := by
  induction j with
  | zero => simp
  | succ j ih => have := ydays_bd (1970 + (a + j : Nat)); have e : ysum (a + (j + 1)) = ysum (a + j) + ydays (1970 + (a + j : Nat)) := rfl; rw [e]; push_cast at *; omega

/-- A day of the calendar: the n-th year from 1970 on, its (m+1)-th month, the day d. -/
structure Cal (x : Int) (n m : Nat) (d : Int) : Prop where
  month : m ≤ 11
  day1 : 1 ≤ d
  day2 : d ≤ mdays (1970 + n) (m + 1)
  sum : ysum n + msum (1970 + n) m + (d - 1) = x

theorem Cal.inYear {x : Int} {n m : Nat} {d : Int} (h : Cal x n m d) : ysum n ≤ x ∧ x < ysum (n + 1) := by
  have h1 := msum_mono (1970 + n) (m + 1) (11 - m)
  have e : m + 1 + (11 - m) = 12 := by have := h.month; omega
  rw [e, msum_12] at h1
  have e2 : msum (1970 + n) (m + 1) = msum (1970 + n) m + mdays (1970 + n) (m + 1) := rfl
  have e3 : ysum (n + 1) = ysum n + ydays (1970 + n) := rfl
  have := (msum_le (1970 + n) m).1
  have := h.day1; have := h.day2; have := h.sum
  omega
theorem Cal.unique {x : Int} {n n' m m' : Nat} {d d' : Int} (h : Cal x n m d) (h' : Cal x n' m' d') : n = n' ∧ m = m' ∧ d = d' := by
  have hn : n = n' := by
    have a := h.inYear; have b := h'.inYear
    rcases Nat.lt_trichotomy n n' with hl | he | hl
    · have := ysum_mono (n + 1) (n' - (n + 1)); rw [show n + 1 + (n' - (n + 1)) = n' by omega] at this; omega
    · exact he
    · have := ysum_mono (n' + 1) (n - (n' + 1)); rw [show n' + 1 + (n - (n' + 1)) = n by omega] at this; omega
  subst hn
  have hm : m = m' := by
    have a1 := h.sum; have a2 := h'.sum; have b1 := h.day1; have b2 := h.day2; have c1 := h'.day1; have c2 := h'.day2
    have e1 : msum (1970 + n) (m + 1) = msum (1970 + n) m + mdays (1970 + n) (m + 1) := rfl
    have e2 : msum (1970 + n) (m' + 1) = msum (1970 + n) m' + mdays (1970 + n) (m' + 1) := rfl
    rcases Nat.lt_trichotomy m m' with hl | he | hl
    · have := msum_mono (1970 + n) (m + 1) (m' - (m + 1)); rw [show m + 1 + (m' - (m + 1)) = m' by omega] at this; omega
    · exact he
    · have := msum_mono (1970 + n) (m' + 1) (m - (m' + 1)); rw [show m' + 1 + (m - (m' + 1)) = m by omega] at this; omega
  subst hm
  have a1 := h.sum; have a2 := h'.sum
  exact ⟨rfl, rfl, by omega⟩

theorem split_l1 (j : Nat) : ∀ (k n i : Nat) (x : Int) (c2 c3 c4 c5 : Int), n + j = 11 → j + 1 ≤ k → i ≤ 1000 → 0 ≤ x → msum (1970 + i) n + x < ydays (1970 + i) →
    ∃ (m : Nat) (d : Int), datetime_Split.l1 k x (1970 + i) (n + 1) c2 c3 c4 c5 = some ((1970 : Int) + i, (m : Int) + 1, d, c3, c4, c5, 0) ∧ Cal (ysum i + msum (1970 + i) n + x) i m d := by
  induction j with
  | zero =>
    intro k n i x c2 c3 c4 c5 hn hk hi h0 hx
    obtain ⟨k, rfl⟩ : ∃ z, k = z + 1 := ⟨k - 1, by omega⟩
    obtain rfl : n = 11 := by omega
    have h12 := msum_12 (1970 + i)
    have e : msum (1970 + i) 12 = msum (1970 + i) 11 + mdays (1970 + i) 12 := rfl
    have hb := mdays_bd (1970 + i) 12
    refine ⟨11, x + 1, ?_, ⟨by omega, by omega, ?_, by omega⟩⟩
    · rw [datetime_Split.l1]
      unfold datetime_monthDays.f
      rw [if_pos (by omega), Option.bind_some]
      have e12 : ((11 : Nat) : Int) + 1 = 12 := rfl
      rw [e12, if_neg (by omega), wrap_id (by omega) (by omega)]
    · show x + 1 ≤ mdays (1970 + i) 12
      omega
  | succ j ih =>
    intro k n i x c2 c3 c4 c5 hn hk hi h0 hx
    obtain ⟨k, rfl⟩ : ∃ z, k = z + 1 := ⟨k - 1, by omega⟩
    have hb := mdays_bd (1970 + i) (n + 1)
    rw [datetime_Split.l1]
    unfold datetime_monthDays.f
    rw [if_pos (by omega), Option.bind_some]
    by_cases hc : x ≥ mdays (1970 + i) (n + 1)
    · rw [if_pos hc, Option.bind_some]
      have hy := ydays_bd (1970 + i)
      have hm := msum_le (1970 + i) n
      rw [wrap_id (x := x - mdays (1970 + i) (n + 1)) (by omega) (by omega), wrap_id (x := (n : Int) + 1 + 1) (by omega) (by omega)]
      have e : msum (1970 + i) (n + 1) = msum (1970 + i) n + mdays (1970 + i) (n + 1) := rfl
      obtain ⟨m, d, hl, hcal⟩ := ih k (n + 1) i (x - mdays (1970 + i) (n + 1)) c2 c3 c4 c5 (by omega) (by omega) hi (by omega) (by rw [e]; omega)
      refine ⟨m, d, ?_, ?_⟩
      · rw [← hl]; push_cast; rfl
      · have es : ysum i + msum (1970 + i) (n + 1) + (x - mdays (1970 + i) (n + 1)) = ysum i + msum (1970 + i) n + x := by rw [e]; omega
        rw [es] at hcal
        exact hcal
    · rw [if_neg hc]
      have hy := ydays_bd (1970 + i)
      have hm := msum_le (1970 + i) n
      refine ⟨n, x + 1, by rw [wrap_id (by omega) (by omega)], ⟨by omega, by omega, by omega, by omega⟩⟩

theorem split_l0 (j : Nat) : ∀ (k i : Nat) (x : Int) (c2 c3 c4 c5 : Int), j + 14 ≤ k → i + j ≤ 1000 → 0 ≤ x → x ≤ 365 * j →
    ∃ (n m : Nat) (d : Int), datetime_Split.l0 k x (1970 + i) 1 c2 c3 c4 c5 = some ((1970 : Int) + n, (m : Int) + 1, d, c3, c4, c5, 0) ∧ Cal (ysum i + x) n m d := by
  induction j with
  | zero =>
    intro k i x c2 c3 c4 c5 hk hi h0 hx
    obtain ⟨k, rfl⟩ : ∃ z, k = z + 1 := ⟨k - 1, by omega⟩
    have hy := ydays_bd (1970 + i)
    rw [datetime_Split.l0, yearDays_f, Option.bind_some, if_neg (by omega)]
    obtain ⟨m, d, hl, hcal⟩ := split_l1 11 k 0 i x c2 c3 c4 c5 rfl (by omega) (by omega) h0 (by simp only [msum]; omega)
    refine ⟨i, m, d, hl, ?_⟩
    simpa [msum] using hcal
  | succ j ih =>
    intro k i x c2 c3 c4 c5 hk hi h0 hx
    obtain ⟨k, rfl⟩ : ∃ z, k = z + 1 := ⟨k - 1, by omega⟩
    have hy := ydays_bd (1970 + i)
    rw [datetime_Split.l0, yearDays_f, Option.bind_some]
    by_cases hc : x ≥ ydays (1970 + i)
    · rw [if_pos hc, Option.bind_some, wrap_id (x := x - ydays (1970 + i)) (by omega) (by omega), wrap_id (x := (1970 : Int) + i + 1) (by omega) (by omega)]
      obtain ⟨n, m, d, hl, hcal⟩ := ih k (i + 1) (x - ydays (1970 + i)) c2 c3 c4 c5 (by omega) (by omega) (by omega) (by push_cast at hx; omega)
      refine ⟨n, m, d, ?_, ?_⟩
      · rw [← hl]; congr 1
      · have e : ysum (i + 1) = ysum i + ydays (1970 + i) := rfl
        have es : ysum (i + 1) + (x - ydays (1970 + i)) = ysum i + x := by rw [e]; omega
        rw [es] at hcal
        exact hcal
    · rw [if_neg hc]
      obtain ⟨m, d, hl, hcal⟩ := split_l1 11 k 0 i x c2 c3 c4 c5 rfl (by omega) (by omega) h0 (by simp only [msum]; omega)
      refine ⟨i, m, d, hl, ?_⟩
      simpa [msum] using hcal

end Go.Proofs.YthblghfobnhoeaaGreat.Q
namespace Go.Proofs.YthblghfobnhoeaaGreat.Q
open Go.RowKit Go.Proofs.YthblghfobnhoeaaGreatW.PrintWords Go.Proofs.YthblghfobnhoeaaGreatW.PrintLast Go.Proofs.YthblghfobnhoeaaGreat.A Go.Proofs.YthblghfobnhoeaaGreat.H
set_option linter.unusedVariables false

def TimeOk (t : Int) : Prop := 315532800 ≤ t ∧ t ≤ 4102444799
def ZoneOk (z : Int) : Prop := -1440 ≤ z ∧ z ≤ 1440
def QuarterOk (z : Int) : Prop := z % 15 = 0 ∧ -720 ≤ z ∧ z ≤ 780
instance (t : Int) : Decidable (TimeOk t) := inferInstanceAs (Decidable (_ ∧ _))
instance (t : Int) : Decidable (ZoneOk t) := inferInstanceAs (Decidable (_ ∧ _))
instance (t : Int) : Decidable (QuarterOk t) := inferInstanceAs (Decidable (_ ∧ _))
theorem isTime_f (t : Int) : datetime_isTime.f t = some (decide (TimeOk t)) := by
  unfold datetime_isTime.f TimeOk
  by_cases h : t ≥ 315532800
  · rw [if_pos h]; congr 1; exact decide_eq_decide.mpr ⟨fun h2 => ⟨h, h2⟩, fun h2 => h2.2⟩
  · rw [if_neg h]; congr 1; exact (decide_eq_false (fun h2 => h h2.1)).symm
theorem isZone_f (t : Int) : datetime_isZone.f t = some (decide (ZoneOk t)) := by
  unfold datetime_isZone.f ZoneOk
  by_cases h : t ≥ -1440
  · rw [if_pos h]; congr 1; exact decide_eq_decide.mpr ⟨fun h2 => ⟨h, h2⟩, fun h2 => h2.2⟩
  · rw [if_neg h]; congr 1; exact (decide_eq_false (fun h2 => h h2.1)).symm
theorem tmod15 (z : Int) : Int.tmod z 15 = 0 ↔ z % 15 = 0 := by
  constructor
  · intro h; exact Int.emod_eq_zero_of_dvd (Int.dvd_of_tmod_eq_zero h)
  · intro h; exact Int.tmod_eq_zero_of_dvd (Int.dvd_of_emod_eq_zero h)
theorem isQuarter_f (z : Int) : datetime_isQuarter.f z = some (decide (QuarterOk z)) := by
  unfold datetime_isQuarter.f QuarterOk
  by_cases h0 : Int.tmod z 15 = 0
  · rw [if_pos h0]
    have h1 := (tmod15 z).1 h0
    by_cases h : z ≥ -720
    · rw [if_pos h]; congr 1; exact decide_eq_decide.mpr ⟨fun h2 => ⟨h1, h, h2⟩, fun h2 => h2.2.2⟩
    · rw [if_neg h]; congr 1; exact (decide_eq_false (fun h2 => h h2.2.1)).symm
  · rw [if_neg h0]; congr 1; exact (decide_eq_false (fun h2 => h0 ((tmod15 z).2 h2.1))).symm

/-- Split refuses, or tells the clock. -/
theorem split_no (k : Nat) (t z : Int) (h : ¬ (TimeOk t ∧ ZoneOk z)) : datetime_Split.f (k + 1) t z = some (0, 0, 0, 0, 0, 0, 2) := by
  unfold datetime_Split.f
  rw [isTime_f, isZone_f, Option.bind_some, Option.bind_some]
  by_cases h1 : TimeOk t
  · rw [decide_eq_true h1, if_pos rfl, decide_eq_false (fun h2 => h ⟨h1, h2⟩), datetime_Split.j0]
    rfl
  · rw [decide_eq_false h1, if_neg (by decide), datetime_Split.j0]
    rfl
theorem split_yes (t z : Int) (ht : TimeOk t) (hz : ZoneOk z) :
    ∃ (n m : Nat) (d : Int), datetime_Split.f 400 t z = some ((1970 : Int) + n, (m : Int) + 1, d, (t + 60 * z) % 86400 / 3600, (t + 60 * z) / 60 % 60, (t + 60 * z) % 60, 0) ∧ Cal ((t + 60 * z) / 86400) n m d ∧ n ≤ 131 := by
  obtain ⟨t0, t1⟩ := ht
  obtain ⟨z0, z1⟩ := hz
  unfold datetime_Split.f
  rw [isTime_f, isZone_f, Option.bind_some, Option.bind_some, decide_eq_true (show TimeOk t from ⟨t0, t1⟩), if_pos rfl, decide_eq_true (show ZoneOk z from ⟨z0, z1⟩), datetime_Split.j0, if_neg (by decide)]
  have w1 : wrap64 (60 * z) = 60 * z := wrap_id (by omega) (by omega)
  rw [w1]
  have w2 : wrap64 (t + 60 * z) = t + 60 * z := wrap_id (by omega) (by omega)
  rw [w2]
  generalize hL : t + 60 * z = L
  have l0 : 0 ≤ L := by omega
  have l1 : L ≤ 4102531199 := by omega
  have e1 : Int.tdiv L 86400 = L / 86400 := Int.tdiv_eq_ediv_of_nonneg l0
  have e2 : Int.tmod L 86400 = L % 86400 := Int.tmod_eq_emod_of_nonneg l0
  have e3 : Int.tmod L 60 = L % 60 := Int.tmod_eq_emod_of_nonneg l0
  rw [e1, e2, e3]
  have e4 : Int.tdiv (L % 86400) 3600 = L % 86400 / 3600 := Int.tdiv_eq_ediv_of_nonneg (by omega)
  have e5 : Int.tdiv (L % 86400) 60 = L % 86400 / 60 := Int.tdiv_eq_ediv_of_nonneg (by omega)
  rw [e4, e5, wrap_id (x := L / 86400) (by omega) (by omega), wrap_id (x := L % 86400 / 3600) (by omega) (by omega), wrap_id (x := L % 86400 / 60) (by omega) (by omega)]
  have e6 : Int.tmod (L % 86400 / 60) 60 = L / 60 % 60 := by rw [Int.tmod_eq_emod_of_nonneg (by omega)]; omega
  rw [e6]
  obtain ⟨n, m, d, hl, hc⟩ := split_l0 131 399 0 (L / 86400) 0 (L % 86400 / 3600) (L / 60 % 60) (L % 60) (by omega) (by omega) (by omega) (by omega)
  refine ⟨n, m, d, ?_, ?_, ?_⟩
  · rw [← hl]; rfl
  · simpa [ysum] using hc
  · have h1 := hc.inYear.1
    have h2 := ysum_ge n
    simp [ysum] at h1
    omega

theorem wrap_i8 (n : Int) : IntKind.i8.wrap n = (n + 128) % 256 - 128 := by
  simp [IntKind.wrap, IntKind.bits, IntKind.signed]
  split <;> omega
/-- The seven bytes of a date. -/
def dateL (n m : Nat) (d L z : Int) : List Int := [(70 + n) % 256, ((m : Int) + 1) % 256, d % 256, (L % 86400 / 3600) % 256, (L / 60 % 60) % 256, (L % 60) % 256, (z / 15) % 256]
theorem record_no (k : Nat) (t z : Int) (h : ¬ (TimeOk t ∧ QuarterOk z)) : datetime_Record.f 400 t z = some (⟨#[]⟩, 2) := by
  unfold datetime_Record.f
  by_cases h1 : TimeOk t ∧ ZoneOk z
  · obtain ⟨n, m, d, hs, _⟩ := split_yes t z h1.1 h1.2
    rw [hs, Option.bind_some, if_pos rfl, isQuarter_f, Option.bind_some, decide_eq_false (fun h2 => h ⟨h1.1, h2⟩), if_neg (by decide)]
  · rw [split_no 399 t z h1, Option.bind_some, if_neg (by decide)]
theorem record_yes (t z : Int) (ht : TimeOk t) (hq : QuarterOk z) :
    ∃ (n m : Nat) (d : Int), datetime_Record.f 400 t z = some (strOfNums (dateL n m d (t + 60 * z) z), 0) ∧ Cal ((t + 60 * z) / 86400) n m d ∧ n ≤ 131 := by
  have hz : ZoneOk z := ⟨by have := hq.2.1; omega, by have := hq.2.2; omega⟩
  obtain ⟨n, m, d, hs, hc, hn⟩ := split_yes t z ht hz
  refine ⟨n, m, d, ?_, hc, hn⟩
  unfold datetime_Record.f
  rw [hs, Option.bind_some, if_pos rfl, isQuarter_f, Option.bind_some, decide_eq_true hq, if_pos rfl]
  have e1 : wrap64 (1970 + (n : Int) - 1900) = 70 + n := by rw [wrap_id (by omega) (by omega)]; omega
  have e2 : IntKind.i8.wrap (wrap64 (Int.tdiv z 15)) % 256 = z / 15 % 256 := by
    have e3 : Int.tdiv z 15 = z / 15 := Int.tdiv_eq_ediv_of_dvd (Int.dvd_of_emod_eq_zero hq.1)
    have := hq.2.1
    have := hq.2.2
    rw [e3, wrap_id (by omega) (by omega)]
    rw [wrap_i8]
    omega
  rw [e1, e2]
  rfl

end Go.Proofs.YthblghfobnhoeaaGreat.Q
namespace Go.Proofs.YthblghfobnhoeaaGreat.Q
open Go.RowKit Go.Proofs.YthblghfobnhoeaaGreatW.PrintWords Go.Proofs.YthblghfobnhoeaaGreatW.PrintLast Go.Proofs.YthblghfobnhoeaaGreat.A Go.Proofs.YthblghfobnhoeaaGreat.H
set_option linter.unusedVariables false

/-- The sum of the days of years from y on, j of them. -/
def ysumFrom (y : Int) : Nat → Int
  | 0 => 0
  | j + 1 => ysumFrom y j + ydays (y + j)
theorem ysumFrom_bd (y : Int) (j : Nat) : 0 ≤ ysumFrom y j ∧ ysumFrom y j ≤ 366 * j := by
  induction j with
  | zero => simp [ysumFrom]
  | succ j ih => have := ydays_bd (y + j); simp only [ysumFrom]; push_cast; omega
theorem ysumFrom_first (y : Int) (j : Nat) : ydays y ≤ ysumFrom y (j + 1) := by
  induction j with
  | zero => simp [ysumFrom]
  | succ j ih => have := ydays_bd (y + (j + 1 : Nat)); have e : ysumFrom y (j + 1 + 1) = ysumFrom y (j + 1) + ydays (y + (j + 1 : Nat)) := rfl; rw [e]; omega
theorem ysumFrom_shift (y : Int) (j : Nat) : ysumFrom y (j + 1) = ydays y + ysumFrom (y + 1) j := by
  induction j with
  | zero => simp [ysumFrom]
  | succ j ih =>
    have e1 : ysumFrom y (j + 1 + 1) = ysumFrom y (j + 1) + ydays (y + (j + 1 : Nat)) := rfl
    have e2 : ysumFrom (y + 1) (j + 1) = ysumFrom (y + 1) j + ydays (y + 1 + j) := rfl
    have e3 : y + 1 + (j : Int) = y + (j + 1 : Nat) := by push_cast; omega
    rw [e1, e2, ih, e3]; omega

/-- What seconds tells behind the sums. -/
def secs (x h mi s : Int) : Int := x * 86400 + h * 3600 + mi * 60 + s
theorem seconds_l2 (j : Nat) : ∀ (k : Nat) (x y cy cm cd h mi s : Int), j + 1 ≤ k → y + j = 1970 → -1000000 ≤ x → x ≤ 1000000 → -100000 ≤ x - ysumFrom y j → 0 ≤ h → h ≤ 23 → 0 ≤ mi → mi ≤ 59 → 0 ≤ s → s ≤ 59 → j ≤ 1000 →
    datetime_seconds.l2 k x y cy cm cd h mi s = some (secs (x - ysumFrom y j) h mi s) := by
  induction j with
  | zero =>
    intro k x y cy cm cd h mi s hk hy x0 x1 x2 a1 a2 a3 a4 a5 a6 hj
    obtain ⟨k, rfl⟩ : ∃ z, k = z + 1 := ⟨k - 1, by omega⟩
    rw [datetime_seconds.l2, if_neg (by omega)]
    rw [wrap_id (x := x * 86400) (by omega) (by omega), wrap_id (x := h * 3600) (by omega) (by omega), wrap_id (x := mi * 60) (by omega) (by omega), wrap_id (x := x * 86400 + h * 3600) (by omega) (by omega), wrap_id (x := x * 86400 + h * 3600 + mi * 60) (by omega) (by omega), wrap_id (by omega) (by omega)]
    simp [ysumFrom, secs]
  | succ j ih =>
    intro k x y cy cm cd h mi s hk hy x0 x1 x2 a1 a2 a3 a4 a5 a6 hj
    obtain ⟨k, rfl⟩ : ∃ z, k = z + 1 := ⟨k - 1, by omega⟩
    have hb := ydays_bd y
    have hs := ysumFrom_shift y j
    have hb2 := ysumFrom_bd (y + 1) j
    rw [datetime_seconds.l2, if_pos (by push_cast at hy; omega), yearDays_f, Option.bind_some, wrap_id (x := x - ydays y) (by omega) (by omega), wrap_id (x := y + 1) (by push_cast at hy; omega) (by push_cast at hy; omega)]
    rw [ih k (x - ydays y) (y + 1) cy cm cd h mi s (by omega) (by push_cast at hy; omega) (by omega) (by omega) (by omega) a1 a2 a3 a4 a5 a6 (by omega)]
    rw [hs]
    congr 2
    omega
theorem seconds_l1 (j : Nat) : ∀ (k i : Nat) (x cm cd h mi s : Int), j + 2 ≤ k → i + j ≤ 1000 → 0 ≤ x → x + 366 * (i + j) ≤ 1000000 → 0 ≤ h → h ≤ 23 → 0 ≤ mi → mi ≤ 59 → 0 ≤ s → s ≤ 59 →
    datetime_seconds.l1 k (x + ysum i) (1970 + i) (1970 + (i + j : Nat)) cm cd h mi s = some (secs (x + ysum (i + j)) h mi s) := by
  induction j with
  | zero =>
    intro k i x cm cd h mi s hk hi h0 h1 a1 a2 a3 a4 a5 a6
    obtain ⟨k, rfl⟩ : ∃ z, k = z + 1 := ⟨k - 1, by omega⟩
    obtain ⟨k, rfl⟩ : ∃ z, k = z + 1 := ⟨k - 1, by omega⟩
    have hy := ysum_le i
    have hy0 := ysum_ge i
    rw [datetime_seconds.l1, if_neg (by simp), datetime_seconds.l2, if_neg (by simp; omega)]
    generalize hx : x + ysum i = X
    rw [wrap_id (x := X * 86400) (by omega) (by omega), wrap_id (x := h * 3600) (by omega) (by omega), wrap_id (x := mi * 60) (by omega) (by omega), wrap_id (x := X * 86400 + h * 3600) (by omega) (by omega), wrap_id (x := X * 86400 + h * 3600 + mi * 60) (by omega) (by omega), wrap_id (by omega) (by omega)]
    rfl
  | succ j ih =>
    intro k i x cm cd h mi s hk hi h0 h1 a1 a2 a3 a4 a5 a6
    obtain ⟨k, rfl⟩ : ∃ z, k = z + 1 := ⟨k - 1, by omega⟩
    have hy := ysum_le i
    have hy0 := ysum_ge i
    have hb := ydays_bd (1970 + i)
    rw [datetime_seconds.l1, if_pos (by push_cast; omega), yearDays_f, Option.bind_some, wrap_id (x := x + ysum i + ydays (1970 + i)) (by push_cast at h1; omega) (by push_cast at h1; omega), wrap_id (x := (1970 : Int) + i + 1) (by omega) (by omega)]
    have e : x + ysum i + ydays (1970 + i) = x + ysum (i + 1) := by simp only [ysum]; omega
    have e2 : (1970 : Int) + i + 1 = 1970 + (i + 1 : Nat) := by push_cast; omega
    have e3 : i + (j + 1) = i + 1 + j := by omega
    rw [e, e2, e3]
    exact ih k (i + 1) x cm cd h mi s (by omega) (by omega) h0 (by push_cast at h1 ⊢; omega) a1 a2 a3 a4 a5 a6

theorem seconds_l0 (j : Nat) : ∀ (k a : Nat) (x cy cd h mi s : Int), a + j ≤ 11 → 0 ≤ x → x ≤ 400 →
    datetime_seconds.l0 (k + j + 1) (x + msum cy a) ((a : Int) + 1) cy ((a + j : Nat) + 1) cd h mi s = datetime_seconds.l1 k (x + msum cy (a + j)) 1970 cy ((a + j : Nat) + 1) cd h mi s := by
  induction j with
  | zero =>
    intro k a x cy cd h mi s ha h0 h1
    rw [datetime_seconds.l0, if_neg (by simp)]
    rfl
  | succ j ih =>
    intro k a x cy cd h mi s ha h0 h1
    have hb := mdays_bd cy (a + 1)
    have hm := msum_le cy a
    rw [datetime_seconds.l0, if_pos (by push_cast; omega)]
    unfold datetime_monthDays.f
    rw [if_pos (by omega), Option.bind_some, wrap_id (x := x + msum cy a + mdays cy (a + 1)) (by omega) (by omega), wrap_id (x := (a : Int) + 1 + 1) (by omega) (by omega)]
    have e : x + msum cy a + mdays cy (a + 1) = x + msum cy (a + 1) := by simp only [msum]; omega
    have e2 : (a : Int) + 1 + 1 = (a + 1 : Nat) + 1 := by push_cast; omega
    have e3 : a + (j + 1) = a + 1 + j := by omega
    rw [e, e2, e3]
    exact ih k (a + 1) x cy cd h mi s (by omega) h0 h1

/-- The seconds of a valid clock from 1970 on. -/
theorem seconds_yes (n m : Nat) (d h mi s : Int) (hn : n ≤ 200) (hm : m ≤ 11) (hd : 1 ≤ d) (hd2 : d ≤ 31) (a1 : 0 ≤ h) (a2 : h ≤ 23) (a3 : 0 ≤ mi) (a4 : mi ≤ 59) (a5 : 0 ≤ s) (a6 : s ≤ 59) :
    datetime_seconds.f 380 (1970 + n) ((m : Int) + 1) d h mi s = some (secs (ysum n + msum (1970 + n) m + (d - 1)) h mi s) := by
  unfold datetime_seconds.f
  rw [wrap_id (x := d - 1) (by omega) (by omega)]
  have h0 := seconds_l0 m (379 - m) 0 (d - 1) (1970 + n) d h mi s (by omega) (by omega) (by omega)
  rw [show 379 - m + m + 1 = 380 by omega] at h0
  simp only [msum, Int.add_zero, Nat.zero_add] at h0
  rw [show ((0 : Nat) : Int) + 1 = 1 from rfl] at h0
  rw [h0]
  have hb := msum_le (1970 + n) m
  have h1 := seconds_l1 n (379 - m) 0 (d - 1 + msum (1970 + n) m) ((m : Int) + 1) d h mi s (by omega) (by omega) (by omega) (by omega) a1 a2 a3 a4 a5 a6
  simp only [ysum, Int.add_zero, Nat.zero_add] at h1
  rw [show (1970 : Int) + ((0 : Nat) : Int) = 1970 from rfl] at h1
  rw [h1]
  congr 2
  omega
/-- The seconds of a valid clock before 1970 are below 0. -/
theorem seconds_no (j m : Nat) (y d h mi s : Int) (hy : y + (j + 1 : Nat) = 1970) (hj : j ≤ 70) (hm : m ≤ 11) (hd : 1 ≤ d) (hd2 : d ≤ mdays y (m + 1)) (a1 : 0 ≤ h) (a2 : h ≤ 23) (a3 : 0 ≤ mi) (a4 : mi ≤ 59) (a5 : 0 ≤ s) (a6 : s ≤ 59) :
    ∃ v, datetime_seconds.f 380 y ((m : Int) + 1) d h mi s = some v ∧ v < 0 ∧ -3000000000 ≤ v := by
  unfold datetime_seconds.f
  have hdm := mdays_bd y (m + 1)
  rw [wrap_id (x := d - 1) (by omega) (by omega)]
  have h0 := seconds_l0 m (379 - m) 0 (d - 1) y d h mi s (by omega) (by omega) (by omega)
  rw [show 379 - m + m + 1 = 380 by omega] at h0
  simp only [msum, Int.add_zero, Nat.zero_add] at h0
  rw [show ((0 : Nat) : Int) + 1 = 1 from rfl] at h0
  rw [h0]
  have hb := msum_le y m
  obtain ⟨k, hk⟩ : ∃ z, 379 - m = z + 1 := ⟨378 - m, by omega⟩
  rw [hk, datetime_seconds.l1, if_neg (by push_cast at hy; omega)]
  have hs := ysumFrom_bd y (j + 1)
  have hf := ysumFrom_first y j
  have h12 := msum_mono y (m + 1) (11 - m)
  rw [show m + 1 + (11 - m) = 12 by omega, msum_12] at h12
  have e : msum y (m + 1) = msum y m + mdays y (m + 1) := rfl
  refine ⟨_, seconds_l2 (j + 1) k (d - 1 + msum y m) y y ((m : Int) + 1) d h mi s (by omega) hy (by omega) (by omega) (by push_cast at hs; omega) a1 a2 a3 a4 a5 a6 (by omega), ?_, ?_⟩
  · unfold secs; omega
  · unfold secs; push_cast at hs; omega

end Go.Proofs.YthblghfobnhoeaaGreat.Q
namespace Go.Proofs.YthblghfobnhoeaaGreat.Q
open Go.RowKit Go.Proofs.YthblghfobnhoeaaGreatW.PrintWords Go.Proofs.YthblghfobnhoeaaGreatW.PrintLast Go.Proofs.YthblghfobnhoeaaGreat.A Go.Proofs.YthblghfobnhoeaaGreat.H
set_option linter.unusedVariables false

def validB (y mo d h mi s : Int) : Bool := decide (1 ≤ d ∧ d ≤ mdays y mo) && (inB h 23 && (inB mi 59 && inB s 59))
theorem valid_f (k : Nat) (y mo d h mi s : Int) (y0 : 1900 ≤ y) (y1 : y ≤ 2155) :
    datetime_valid.f (k + 1) y mo d h mi s = some (decide (1 ≤ mo ∧ mo ≤ 12) && validB y mo d h mi s) := by
  unfold datetime_valid.f validB
  rw [if_neg (by omega), if_neg (by omega)]
  by_cases h1 : mo < 1
  · rw [if_pos h1, datetime_valid.j0, if_pos rfl, decide_eq_false (by omega)]
    rfl
  · rw [if_neg h1, datetime_valid.j0]
    by_cases h2 : mo > 12
    · rw [decide_eq_true h2, if_pos rfl, decide_eq_false (by omega)]
      rfl
    · rw [decide_eq_false h2, if_neg (by decide), decide_eq_true (show 1 ≤ mo ∧ mo ≤ 12 by omega)]
      by_cases h3 : d ≥ 1
      · rw [if_pos h3]
        unfold datetime_monthDays.f datetime_valid_1.f
        rw [if_pos (by omega), Option.bind_some]
        by_cases h4 : d ≤ mdays y mo
        · rw [if_pos h4, decide_eq_true (show 1 ≤ d ∧ d ≤ mdays y mo from ⟨h3, h4⟩), Option.bind_some, Option.bind_some, Option.bind_some]
          cases inB h 23 <;> cases inB mi 59 <;> cases inB s 59 <;> rfl
        · rw [if_neg h4, decide_eq_false (show ¬ (1 ≤ d ∧ d ≤ mdays y mo) from fun h5 => h4 h5.2)]
          rfl
      · rw [if_neg h3, decide_eq_false (show ¬ (1 ≤ d ∧ d ≤ mdays y mo) from fun h5 => h3 h5.1)]
        rfl

theorem quarter_f (b : Int) (h0 : 0 ≤ b) (h1 : b ≤ 255) : datetime_quarter.f b = some (15 * ((b + 128) % 256 - 128), decide (-48 ≤ (b + 128) % 256 - 128 ∧ (b + 128) % 256 - 128 ≤ 52)) := by
  unfold datetime_quarter.f
  rw [wrap_i8, wrap_id (x := (b + 128) % 256 - 128) (by omega) (by omega), wrap_id (x := 15 * ((b + 128) % 256 - 128)) (by omega) (by omega)]
  by_cases h : (b + 128) % 256 - 128 ≥ -48
  · rw [if_pos h]
    congr 2
    exact decide_eq_decide.mpr ⟨fun x => ⟨h, x⟩, fun x => x.2⟩
  · rw [if_neg h]
    congr 2
    exact (decide_eq_false (fun x => h x.1)).symm

/-- A valid clock of 1970 and later, read. -/
theorem join_yes (k n m : Nat) (d h mi s z : Int) (hn : n ≤ 185) (hm : m ≤ 11) (hd : 1 ≤ d) (hd2 : d ≤ mdays (1970 + n) (m + 1)) (a1 : 0 ≤ h) (a2 : h ≤ 23) (a3 : 0 ≤ mi) (a4 : mi ≤ 59) (a5 : 0 ≤ s) (a6 : s ≤ 59) (z0 : -720 ≤ z) (z1 : z ≤ 780) :
    datetime_Join.f 380 (1970 + n) ((m : Int) + 1) d h mi s z =
      if TimeOk (secs (ysum n + msum (1970 + n) m + (d - 1)) h mi s - 60 * z) then some (secs (ysum n + msum (1970 + n) m + (d - 1)) h mi s - 60 * z, 0) else some (0, 2) := by
  have hdm := mdays_bd (1970 + n) (m + 1)
  have hv : validB (1970 + n) ((m : Int) + 1) d h mi s = true := by
    unfold validB inB
    rw [decide_eq_true ⟨hd, hd2⟩, decide_eq_true ⟨a1, a2⟩, decide_eq_true ⟨a3, a4⟩, decide_eq_true ⟨a5, a6⟩]
    rfl
  unfold datetime_Join.f
  rw [valid_f 379 _ _ _ _ _ _ (by omega) (by omega), hv, decide_eq_true (by omega), Option.bind_some, Bool.true_and, if_pos rfl, isZone_f, Option.bind_some, decide_eq_true (show ZoneOk z from ⟨by omega, by omega⟩), if_pos rfl, seconds_yes n m d h mi s (by omega) hm hd (by omega) a1 a2 a3 a4 a5 a6, Option.bind_some]
  have b1 := ysum_le n
  have b2 := msum_le (1970 + n) m
  have b0 := ysum_ge n
  generalize hX : secs (ysum n + msum (1970 + n) m + (d - 1)) h mi s = X
  have x0 : 0 ≤ X ∧ X ≤ 10000000000 := by rw [← hX]; unfold secs; omega
  rw [wrap_id (x := 60 * z) (by omega) (by omega), wrap_id (x := X - 60 * z) (by omega) (by omega), isTime_f, Option.bind_some]
  by_cases ht : TimeOk (X - 60 * z)
  · rw [decide_eq_true ht, if_pos rfl, if_pos ht]
  · rw [decide_eq_false ht, if_neg (by decide), if_neg ht]
/-- A valid clock before 1970 is no time. -/
theorem join_no (j m : Nat) (y d h mi s z : Int) (hy : y + (j + 1 : Nat) = 1970) (hj : j ≤ 69) (hm : m ≤ 11) (hd : 1 ≤ d) (hd2 : d ≤ mdays y (m + 1)) (a1 : 0 ≤ h) (a2 : h ≤ 23) (a3 : 0 ≤ mi) (a4 : mi ≤ 59) (a5 : 0 ≤ s) (a6 : s ≤ 59) (z0 : -720 ≤ z) (z1 : z ≤ 780) :
    datetime_Join.f 380 y ((m : Int) + 1) d h mi s z = some (0, 2) := by
  have hdm := mdays_bd y (m + 1)
  have hv : validB y ((m : Int) + 1) d h mi s = true := by
    unfold validB inB
    rw [decide_eq_true ⟨hd, hd2⟩, decide_eq_true ⟨a1, a2⟩, decide_eq_true ⟨a3, a4⟩, decide_eq_true ⟨a5, a6⟩]
    rfl
  obtain ⟨v, hv2, v0, v1⟩ := seconds_no j m y d h mi s hy (by omega) hm hd hd2 a1 a2 a3 a4 a5 a6
  unfold datetime_Join.f
  push_cast at hy
  rw [valid_f 379 _ _ _ _ _ _ (by omega) (by omega), hv, decide_eq_true (by omega), Option.bind_some, Bool.true_and, if_pos rfl, isZone_f, Option.bind_some, decide_eq_true (show ZoneOk z from ⟨by omega, by omega⟩), if_pos rfl, hv2, Option.bind_some]
  rw [wrap_id (x := 60 * z) (by omega) (by omega), wrap_id (x := v - 60 * z) (by omega) (by omega), isTime_f, Option.bind_some, decide_eq_false (by unfold TimeOk; omega), if_neg (by decide)]

end Go.Proofs.YthblghfobnhoeaaGreat.Q
namespace Go.Proofs.YthblghfobnhoeaaGreat.Q
open Go.RowKit Go.Proofs.YthblghfobnhoeaaGreatW.PrintWords Go.Proofs.YthblghfobnhoeaaGreatW.PrintLast Go.Proofs.YthblghfobnhoeaaGreat.A Go.Proofs.YthblghfobnhoeaaGreat.H
set_option linter.unusedVariables false

/-- More rounds tell the same, over any distance. -/
theorem lift_le {α : Type} {f : Nat → Option α} (hm : ∀ k, LeO (f k) (f (k + 1))) {a b : Nat} (h : a ≤ b) {x : α} (e : f a = some x) : f b = some x := by
  induction b with
  | zero => obtain rfl : a = 0 := by omega
            exact e
  | succ b ih =>
    rcases Nat.lt_or_ge a (b + 1) with h1 | h1
    · exact hm b _ (ih (by omega))
    · obtain rfl : a = b + 1 := by omega
      exact e

theorem bt7 (a b c d e f g : Int) (ha : 0 ≤ a ∧ a ≤ 255) (hb : 0 ≤ b ∧ b ≤ 255) (hc : 0 ≤ c ∧ c ≤ 255) (hd : 0 ≤ d ∧ d ≤ 255) (he : 0 ≤ e ∧ e ≤ 255) (hf : 0 ≤ f ∧ f ≤ 255) (hg : 0 ≤ g ∧ g ≤ 255) :
    bt (strOfNums [a, b, c, d, e, f, g]) 0 = a ∧ bt (strOfNums [a, b, c, d, e, f, g]) 1 = b ∧ bt (strOfNums [a, b, c, d, e, f, g]) 2 = c ∧ bt (strOfNums [a, b, c, d, e, f, g]) 3 = d ∧ bt (strOfNums [a, b, c, d, e, f, g]) 4 = e ∧ bt (strOfNums [a, b, c, d, e, f, g]) 5 = f ∧ bt (strOfNums [a, b, c, d, e, f, g]) 6 = g :=
  ⟨bt_nums _ 0 (by simp) ha.1 ha.2, bt_nums _ 1 (by simp) hb.1 hb.2, bt_nums _ 2 (by simp) hc.1 hc.2, bt_nums _ 3 (by simp) hd.1 hd.2, bt_nums _ 4 (by simp) he.1 he.2, bt_nums _ 5 (by simp) hf.1 hf.2, bt_nums _ 6 (by simp) hg.1 hg.2⟩

/-- What read tells of valid numbers of 1970 and later. -/
theorem read_yes (n m : Nat) (d h mi s z t : Int) (hn : n ≤ 185) (hm : m ≤ 11) (hd : 1 ≤ d) (hd2 : d ≤ mdays (1970 + n) (m + 1)) (a1 : 0 ≤ h) (a2 : h ≤ 23) (a3 : 0 ≤ mi) (a4 : mi ≤ 59) (a5 : 0 ≤ s) (a6 : s ≤ 59) (z0 : -720 ≤ z) (z1 : z ≤ 780)
    (ht : secs (ysum n + msum (1970 + n) m + (d - 1)) h mi s - 60 * z = t) (hok : TimeOk t) : datetime_read.f 400 (1970 + n) ((m : Int) + 1) d h mi s z true = some (t, z, 0) := by
  have hv : validB (1970 + n) ((m : Int) + 1) d h mi s = true := by
    unfold validB inB
    rw [decide_eq_true ⟨hd, hd2⟩, decide_eq_true ⟨a1, a2⟩, decide_eq_true ⟨a3, a4⟩, decide_eq_true ⟨a5, a6⟩]
    rfl
  have hj := join_yes 0 n m d h mi s z hn hm hd hd2 a1 a2 a3 a4 a5 a6 z0 z1
  rw [ht, if_pos hok] at hj
  have hj2 : datetime_Join.f 399 (1970 + n) ((m : Int) + 1) d h mi s z = some (t, 0) := lift_le (f := fun k => datetime_Join.f k (1970 + n) ((m : Int) + 1) d h mi s z) (fun k => datetime_Join.mono _ _ _ _ _ _ _ k) (by omega) hj
  unfold datetime_read.f
  rw [if_pos rfl, valid_f 399 _ _ _ _ _ _ (by omega) (by omega), hv, decide_eq_true (by omega), Option.bind_some, datetime_read.j0, if_neg (by decide), hj2, Option.bind_some, if_pos rfl]

end Go.Proofs.YthblghfobnhoeaaGreat.Q
namespace Go.Proofs.YthblghfobnhoeaaGreat.Q
open Go.RowKit Go.Proofs.YthblghfobnhoeaaGreatW.PrintWords Go.Proofs.YthblghfobnhoeaaGreatW.PrintLast Go.Proofs.YthblghfobnhoeaaGreat.A Go.Proofs.YthblghfobnhoeaaGreat.H
set_option linter.unusedVariables false

theorem secs_split (L : Int) (h : 0 ≤ L) : secs (L / 86400) (L % 86400 / 3600) (L / 60 % 60) (L % 60) = L := by
  unfold secs
  have a1 : L % 86400 / 60 / 60 = L % 86400 / 3600 := by omega
  have a2 : L / 60 % 60 = L % 86400 / 60 % 60 := by omega
  have a3 : L % 60 = L % 86400 % 60 := by omega
  have a4 : L / 86400 * 86400 + L % 86400 = L := by omega
  rw [a2, a3]
  generalize L / 86400 = q at *
  generalize L % 86400 = r at *
  omega
theorem hms_bd (L : Int) (h : 0 ≤ L) : 0 ≤ L % 86400 / 3600 ∧ L % 86400 / 3600 ≤ 23 ∧ 0 ≤ L / 60 % 60 ∧ L / 60 % 60 ≤ 59 ∧ 0 ≤ L % 60 ∧ L % 60 ≤ 59 := by omega
theorem rr_eq (k : Nat) (S : ByteArray) (hs : (S.size : Int) = 7) : datetime_ReadRecord.f k S =
    (datetime_quarter.f (bt S 6)).bind fun q => datetime_read.f k (wrap64 (1900 + wrap64 (bt S 0))) (wrap64 (bt S 1)) (wrap64 (bt S 2)) (wrap64 (bt S 3)) (wrap64 (bt S 4)) (wrap64 (bt S 5)) q.1 q.2 := by
  unfold datetime_ReadRecord.f
  rw [if_pos hs, if_pos (by omega)]
  cases datetime_quarter.f (bt S 6) with
  | none => rfl
  | some q =>
    rw [Option.bind_some, Option.bind_some, if_pos (by omega), if_pos (by omega), if_pos (by omega), if_pos (by omega), if_pos (by omega), if_pos (by omega)]
    cases datetime_read.f k (wrap64 (1900 + wrap64 (bt S 0))) (wrap64 (bt S 1)) (wrap64 (bt S 2)) (wrap64 (bt S 3)) (wrap64 (bt S 4)) (wrap64 (bt S 5)) q.1 q.2 with
    | none => rfl
    | some r => rfl
theorem readback (t z : Int) (n m : Nat) (d : Int) (ht : TimeOk t) (hq : QuarterOk z) (hc : Cal ((t + 60 * z) / 86400) n m d) (hn : n ≤ 131) :
    datetime_ReadRecord.f 400 (strOfNums (dateL n m d (t + 60 * z) z)) = some (t, z, 0) := by
  have hdm := mdays_bd (1970 + n) (m + 1)
  have hm := hc.month
  have hd := hc.day1
  have hd2 := hc.day2
  obtain ⟨t0, t1⟩ := ht
  obtain ⟨q0, q1, q2⟩ := hq
  generalize hL : t + 60 * z = L at hc ⊢
  have l0 : 0 ≤ L := by omega
  have hs : ((strOfNums (dateL n m d L z)).size : Int) = 7 := by rw [nums_size]; rfl
  obtain ⟨c0, c1, c2, c3, c4, c5, c6⟩ := bt7 ((70 + (n : Int)) % 256) (((m : Int) + 1) % 256) (d % 256) ((L % 86400 / 3600) % 256) ((L / 60 % 60) % 256) ((L % 60) % 256) ((z / 15) % 256) (by omega) (by omega) (by omega) (by omega) (by omega) (by omega) (by omega)
  have hl : dateL n m d L z = [(70 + (n : Int)) % 256, ((m : Int) + 1) % 256, d % 256, (L % 86400 / 3600) % 256, (L / 60 % 60) % 256, (L % 60) % 256, (z / 15) % 256] := rfl
  rw [← hl] at c0 c1 c2 c3 c4 c5 c6
  have b0 : bt (strOfNums (dateL n m d L z)) 0 = 70 + n := by rw [c0]; omega
  have b1 : bt (strOfNums (dateL n m d L z)) 1 = (m : Int) + 1 := by rw [c1]; omega
  have b2 : bt (strOfNums (dateL n m d L z)) 2 = d := by rw [c2]; omega
  have b3 : bt (strOfNums (dateL n m d L z)) 3 = L % 86400 / 3600 := by rw [c3]; omega
  have b4 : bt (strOfNums (dateL n m d L z)) 4 = L / 60 % 60 := by rw [c4]; omega
  have b5 : bt (strOfNums (dateL n m d L z)) 5 = L % 60 := by rw [c5]; omega
  have b6 : bt (strOfNums (dateL n m d L z)) 6 = z / 15 % 256 := c6
  clear c0 c1 c2 c3 c4 c5 c6 hl
  generalize strOfNums (dateL n m d L z) = S at *
  rw [rr_eq 400 S hs, b6, quarter_f _ (by omega) (by omega), Option.bind_some, b0, b1, b2, b3, b4, b5]
  have ez : 15 * ((z / 15 % 256 + 128) % 256 - 128) = z := by omega
  have eq : decide (-48 ≤ (z / 15 % 256 + 128) % 256 - 128 ∧ (z / 15 % 256 + 128) % 256 - 128 ≤ 52) = true := decide_eq_true (by omega)
  have w0 : wrap64 (1900 + wrap64 (70 + (n : Int))) = 1970 + n := by
    rw [wrap_id (x := 70 + (n : Int)) (by omega) (by omega), wrap_id (by omega) (by omega)]
    omega
  have w1 : wrap64 ((m : Int) + 1) = (m : Int) + 1 := wrap_id (by omega) (by omega)
  have w2 : wrap64 d = d := wrap_id (by omega) (by omega)
  have w3 : wrap64 (L % 86400 / 3600) = L % 86400 / 3600 := wrap_id (by omega) (by omega)
  have w4 : wrap64 (L / 60 % 60) = L / 60 % 60 := wrap_id (by omega) (by omega)
  have w5 : wrap64 (L % 60) = L % 60 := wrap_id (by omega) (by omega)
  rw [eq, ez, w0, w1, w2, w3, w4, w5]
  have hsum := hc.sum
  have hx : secs (ysum n + msum (1970 + n) m + (d - 1)) (L % 86400 / 3600) (L / 60 % 60) (L % 60) - 60 * z = t := by
    rw [hsum, secs_split L l0]; omega
  have b := hms_bd L l0
  exact read_yes n m d (L % 86400 / 3600) (L / 60 % 60) (L % 60) z t (Nat.le_trans hn (by decide)) hm hd hd2 b.1 b.2.1 b.2.2.1 b.2.2.2.1 b.2.2.2.2.1 b.2.2.2.2.2 q1 q2 hx ⟨t0, t1⟩

end Go.Proofs.YthblghfobnhoeaaGreat.Q
namespace Go.Proofs.YthblghfobnhoeaaGreat.Q
open Go.RowKit Go.Proofs.YthblghfobnhoeaaGreatW.PrintWords Go.Proofs.YthblghfobnhoeaaGreatW.PrintLast Go.Proofs.YthblghfobnhoeaaGreat.A Go.Proofs.YthblghfobnhoeaaGreat.H
set_option linter.unusedVariables false

/-! Where directory records of some sizes lie. -/
def okS (n : Int) : Bool := decide (34 ≤ n ∧ n ≤ 254 ∧ n % 2 = 0)
theorem okS_iff (n : Int) : okS n = true ↔ (34 ≤ n ∧ n ≤ 254 ∧ n % 2 = 0) := by unfold okS; exact decide_eq_true_iff
/-- The place of the next record, of n bytes, behind p bytes. -/
def place (p n : Int) : Int := if n > 2048 - p % 2048 then p + (2048 - p % 2048) else p
def offs : Int → List Int → List Int
  | _, [] => []
  | p, n :: t => place p n :: offs (place p n + n) t
def endOf : Int → List Int → Int
  | p, [] => p
  | p, n :: t => endOf (place p n + n) t
theorem place_bd {p n : Int} (h : 0 ≤ p) (hn : 34 ≤ n ∧ n ≤ 254) : p ≤ place p n ∧ place p n ≤ p + 253 ∧ place p n % 2048 + n ≤ 2048 ∧ (place p n = p ∨ (place p n % 2048 = 0 ∧ 0 < p % 2048)) := by
  unfold place
  split <;> omega
theorem offs_length : ∀ (l : List Int) (p : Int), (offs p l).length = l.length
  | [], _ => rfl
  | n :: t, p => by rw [offs, List.length_cons, offs_length t, List.length_cons]
theorem endOf_bd : ∀ (l : List Int) (p : Int), 0 ≤ p → (∀ n ∈ l, okS n = true) → p ≤ endOf p l ∧ endOf p l ≤ p + 507 * l.length
  | [], p, h, _ => by rw [endOf]; exact ⟨Int.le_refl _, by simp⟩
  | n :: t, p, h, hl => by
    have hn := (okS_iff n).1 (hl n (List.mem_cons_self))
    have hb := place_bd (p := p) (n := n) h ⟨hn.1, hn.2.1⟩
    have := endOf_bd t (place p n + n) (by omega) (fun x hx => hl x (List.mem_cons_of_mem _ hx))
    rw [endOf, List.length_cons]
    push_cast
    omega
theorem rd_nat (l : List Int) (i : Nat) (h : i < l.length) : rd l (i : Int) = l[i] := by
  unfold rd
  rw [Int.toNat_natCast, List.getD_eq_getElem?_getD, List.getElem?_eq_getElem h]; rfl
theorem tmod_even (n : Int) (h : 0 ≤ n) : (Int.tmod n 2 != 0) = !decide (n % 2 = 0) := by
  rw [Int.tmod_eq_emod_of_nonneg h]
  by_cases he : n % 2 = 0
  · simp [he]
  · simp [he]
theorem places_bad (k : Nat) (x5 : List Int) (x6 x8 : Int) (x10 : List Int) (x11 x12 : Int) : directory_places.j1 (k + 1) x5 x6 x8 x10 x11 x12 true = some ([], 0, false) := by
  rw [directory_places.j1, if_pos rfl]
theorem places_good (k : Nat) (x5 : List Int) (x6 x8 : Int) (x10 : List Int) (x11 : Int) (i : Nat) (h0 : 0 ≤ x6) (h1 : x6 ≤ 10000000) (hn : 34 ≤ x8 ∧ x8 ≤ 254) (hi : i < 10000000) (hx : x5.length < 10000000) :
    directory_places.j1 (k + 1) x5 x6 x8 x10 x11 i false = directory_places.l0 k (x5 ++ [place x6 x8]) (place x6 x8 + x8) x10 x11 ((i + 1 : Nat) : Int) := by
  have hm : Int.tmod x6 2048 = x6 % 2048 := Int.tmod_eq_emod_of_nonneg h0
  have hb := place_bd (p := x6) (n := x8) h0 hn
  have hw : wrap64 ((i : Int) + 1) = ((i + 1 : Nat) : Int) := by rw [wrap_id (by omega) (by omega)]; push_cast; rfl
  rw [directory_places.j1, if_neg (by decide), hm, wrap_id (x := 2048 - x6 % 2048) (by omega) (by omega)]
  unfold place at hb ⊢
  by_cases hp : x8 > 2048 - x6 % 2048
  · rw [if_pos hp, if_pos (by omega), hw, wrap_id (x := x6 + (2048 - x6 % 2048)) (by omega) (by omega), wrap_id (by omega) (by omega), if_pos hp]
  · rw [if_neg hp, if_pos (by omega), hw, wrap_id (by omega) (by omega), if_neg hp]
theorem places_l (l : List Int) (hl : l.length ≤ 10000) (j : Nat) : ∀ (k i : Nat) (acc : List Int) (p : Int), i + j = l.length → 2 * j + 2 ≤ k → 0 ≤ p → p ≤ 507 * i → acc.length = i →
    directory_places.l0 k acc p l (l.length : Int) (i : Int) = if (l.drop i).all okS = true then some (acc ++ offs p (l.drop i), endOf p (l.drop i), true) else some ([], 0, false) := by
  induction j with
  | zero =>
    intro k i acc p hij hk h0 h1 ha
    obtain ⟨k, rfl⟩ : ∃ m, k = m + 1 := ⟨k - 1, by omega⟩
    rw [directory_places.l0, if_neg (by omega), List.drop_of_length_le (by omega)]
    simp [offs, endOf]
  | succ j ih =>
    intro k i acc p hij hk h0 h1 ha
    obtain ⟨k, rfl⟩ : ∃ m, k = m + 1 + 1 := ⟨k - 2, by omega⟩
    have hi : i < l.length := by omega
    rw [directory_places.l0, if_pos (by omega), if_pos (by omega), if_pos (by omega), rd_nat l i hi, List.drop_eq_getElem_cons hi]
    generalize l[i] = n
    rw [List.all_cons]
    by_cases c1 : n < 34
    · have hf : okS n = false := by unfold okS; exact decide_eq_false (by omega)
      rw [if_pos c1, places_bad, hf]; rfl
    · rw [if_neg c1]
      by_cases c2 : n > 254
      · have hf : okS n = false := by unfold okS; exact decide_eq_false (by omega)
        rw [if_pos c2, places_bad, hf]; rfl
      · rw [if_neg c2, tmod_even n (by omega)]
        by_cases c3 : n % 2 = 0
        · have ht : okS n = true := by unfold okS; exact decide_eq_true (by omega)
          have hb := place_bd (p := p) (n := n) h0 (by omega)
          rw [decide_eq_true c3, ht, Bool.true_and, Bool.not_true, places_good k acc p n l _ i h0 (by omega) (by omega) (by omega) (by omega)]
          rw [ih k (i + 1) (acc ++ [place p n]) (place p n + n) (by omega) (by omega) (by omega) (by push_cast; omega) (by rw [List.length_append, List.length_singleton, ha])]
          rw [offs, endOf, List.append_assoc, List.singleton_append]
        · have hf : okS n = false := by unfold okS; exact decide_eq_false (by omega)
          rw [decide_eq_false c3, Bool.not_false, places_bad, hf]; rfl
theorem places_f (l : List Int) (hl : l.length ≤ 10000) (k : Nat) (hk : 2 * l.length + 2 ≤ k) :
    directory_places.f k l = if l.all okS = true then some (offs 0 l, endOf 0 l, true) else some ([], 0, false) := by
  unfold directory_places.f
  have := places_l l hl l.length k 0 [] 0 (by omega) (by omega) (by omega) (by omega) rfl
  rw [List.drop_zero, List.nil_append] at this
  exact this
def offsB (l : List Int) : List Int := if l.all okS = true then offs 0 l else []
def blocksB (l : List Int) : Int := if l.all okS = true then (endOf 0 l + 2047) / 2048 else 0
theorem offsets_f (l : List Int) (hl : l.length ≤ 10000) (k : Nat) (hk : 2 * l.length + 2 ≤ k) : directory_Offsets.f k l = some (offsB l) := by
  unfold directory_Offsets.f offsB
  rw [places_f l hl k hk]
  split <;> rfl
theorem all_mem {l : List Int} (h : l.all okS = true) : ∀ n ∈ l, okS n = true := fun n hn => List.all_eq_true.1 h n hn
theorem blocks_f (l : List Int) (hl : l.length ≤ 10000) (k : Nat) (hk : 2 * l.length + 2 ≤ k) : directory_Blocks.f k l = some (blocksB l) := by
  unfold directory_Blocks.f blocksB
  rw [places_f l hl k hk]
  by_cases h : l.all okS = true
  · have hb := endOf_bd l 0 (Int.le_refl _) (all_mem h)
    rw [if_pos h, if_pos h]
    simp only [Option.bind_some]
    rw [wrap_id (x := endOf 0 l + 2048) (by omega) (by omega), wrap_id (x := endOf 0 l + 2048 - 1) (by omega) (by omega), Int.tdiv_eq_ediv_of_nonneg (by omega), wrap_id (by omega) (by omega)]
    congr 2
    omega
  · rw [if_neg h, if_neg h]
    simp only [Option.bind_some]
    rw [wrap_id (x := 0 + 2048) (by omega) (by omega), wrap_id (x := 0 + 2048 - 1) (by omega) (by omega), Int.tdiv_eq_ediv_of_nonneg (by omega), wrap_id (by omega) (by omega)]
    rfl

end Go.Proofs.YthblghfobnhoeaaGreat.Q
namespace Go.Proofs.YthblghfobnhoeaaGreat.Q
open Go.RowKit Go.Proofs.YthblghfobnhoeaaGreatW.PrintWords Go.Proofs.YthblghfobnhoeaaGreatW.PrintLast Go.Proofs.YthblghfobnhoeaaGreat.H
set_option linter.unusedVariables false

/-! The order of numbers, of rows of numbers, and of strings with bytes behind them. -/
theorem cmpV_cases (x y : Int) : (x < y ∧ cmpV x y = -1) ∨ (x = y ∧ cmpV x y = 0) ∨ (y < x ∧ cmpV x y = 1) := by
  unfold cmpV
  rcases Int.lt_trichotomy x y with h | h | h
  · exact .inl ⟨h, by rw [if_pos h]⟩
  · exact .inr (.inl ⟨h, by rw [if_neg (by omega), if_neg (by omega)]⟩)
  · exact .inr (.inr ⟨h, by rw [if_neg (by omega), if_pos h]⟩)
theorem cmpV_self (x : Int) : cmpV x x = 0 := by rcases cmpV_cases x x with h | h | h <;> omega
/-- Rows of the same length. -/
def cmpK : List Int → List Int → Int
  | x :: xs, y :: ys => if cmpV x y = 0 then cmpK xs ys else cmpV x y
  | _, _ => 0
theorem cmpK_self : ∀ x, cmpK x x = 0
  | [] => rfl
  | x :: xs => by rw [cmpK, if_pos (cmpV_self x), cmpK_self xs]
theorem cmpK_anti : ∀ x y, cmpK y x = - cmpK x y
  | [], [] => rfl
  | [], _ :: _ => rfl
  | _ :: _, [] => rfl
  | x :: xs, y :: ys => by
    have ih := cmpK_anti xs ys
    rw [cmpK, cmpK]
    rcases cmpV_cases x y with h | h | h <;> rcases cmpV_cases y x with g | g | g <;> first | (exfalso; omega) | (rw [h.2, g.2]; simp [ih])
theorem cmpK_val : ∀ x y, cmpK x y = -1 ∨ cmpK x y = 0 ∨ cmpK x y = 1
  | [], [] => .inr (.inl rfl)
  | [], _ :: _ => .inr (.inl rfl)
  | _ :: _, [] => .inr (.inl rfl)
  | x :: xs, y :: ys => by
    have ih := cmpK_val xs ys
    rw [cmpK]
    split
    · exact ih
    · rcases cmpV_cases x y with h | h | h <;> omega
theorem cmpK_eq : ∀ x y : List Int, x.length = y.length → cmpK x y = 0 → x = y
  | [], [], _, _ => rfl
  | [], _ :: _, h, _ => by simp at h
  | _ :: _, [], h, _ => by simp at h
  | x :: xs, y :: ys, h, h0 => by
    rw [cmpK] at h0
    split at h0
    · rename_i hv
      have : x = y := by rcases cmpV_cases x y with g | g | g <;> omega
      rw [this, cmpK_eq xs ys (by simpa using h) h0]
    · contradiction
theorem cmpK_trans : ∀ x y z : List Int, x.length = y.length → y.length = z.length → cmpK x y ≤ 0 → cmpK y z ≤ 0 → cmpK x z ≤ 0
  | [], [], [], _, _, _, _ => by show (0 : Int) ≤ 0; decide
  | [], _ :: _, _, h, _, _, _ => by simp at h
  | _ :: _, [], _, h, _, _, _ => by simp at h
  | _, [], _ :: _, _, h, _, _ => by simp at h
  | _, _ :: _, [], _, h, _, _ => by simp at h
  | x :: xs, y :: ys, z :: zs, h1, h2, h3, h4 => by
    rw [cmpK] at h3 h4 ⊢
    have ih := cmpK_trans xs ys zs (by simpa using h1) (by simpa using h2)
    rcases cmpV_cases x y with a | a | a <;> rcases cmpV_cases y z with b | b | b <;> rcases cmpV_cases x z with c | c | c <;> rw [a.2] at h3 <;> rw [b.2] at h4 <;> rw [c.2] <;> simp at h3 h4 ⊢ <;> first | (exact ih h3 h4) | omega
theorem cmpK_app : ∀ (x y s t : List Int), x.length = y.length → cmpK (x ++ s) (y ++ t) = if cmpK x y = 0 then cmpK s t else cmpK x y
  | [], [], s, t, _ => by simp [cmpK]
  | [], _ :: _, _, _, h => by simp at h
  | _ :: _, [], _, _, h => by simp at h
  | x :: xs, y :: ys, s, t, h => by
    rw [List.cons_append, List.cons_append, cmpK, cmpK, cmpK_app xs ys s t (by simpa using h)]
    by_cases hv : cmpV x y = 0
    · rw [if_pos hv, if_pos hv]
    · rw [if_neg hv, if_neg hv, if_neg hv]
theorem cmpK_tail (x y t : List Int) (h : x.length = y.length) : cmpK (x ++ t) (y ++ t) = cmpK x y := by
  rw [cmpK_app x y t t h, cmpK_self]
  split
  · rename_i h0; exact h0.symm
  · rfl
theorem cmpK_head (x y t : List Int) : cmpK (t ++ x) (t ++ y) = cmpK x y := by rw [cmpK_app t t x y rfl, cmpK_self, if_pos rfl]
theorem cmpK_neg : ∀ x y, cmpK (x.map fun n => -n) (y.map fun n => -n) = cmpK y x
  | [], [] => rfl
  | [], _ :: _ => rfl
  | _ :: _, [] => rfl
  | x :: xs, y :: ys => by
    rw [List.map_cons, List.map_cons, cmpK, cmpK, cmpK_neg xs ys]
    have : cmpV (-x) (-y) = cmpV y x := by rcases cmpV_cases (-x) (-y) with a | a | a <;> rcases cmpV_cases y x with b | b | b <;> omega
    rw [this]

/-- A string's bytes as numbers. -/
def bl2 (l : List UInt8) : List Int := l.map fun x => (x.toNat : Int)
theorem bl2_length (l : List UInt8) : (bl2 l).length = l.length := List.length_map _
/-- .. with numbers behind, n in all. -/
def keyF (l : List UInt8) (f : Int) (n : Nat) : List Int := bl2 l ++ List.replicate (n - l.length) f
theorem keyF_length (l : List UInt8) (f : Int) (n : Nat) (h : l.length ≤ n) : (keyF l f n).length = n := by
  unfold keyF
  rw [List.length_append, bl2_length, List.length_replicate]; omega
theorem keyF_more (l : List UInt8) (f : Int) (n N : Nat) (h : l.length ≤ n) (hN : n ≤ N) : keyF l f N = keyF l f n ++ List.replicate (N - n) f := by
  unfold keyF
  rw [List.append_assoc, List.replicate_append_replicate]
  congr 2; omega
theorem keyF_get (s : ByteArray) (f : Int) (n i : Nat) (h : s.size ≤ n) (hi : i < n) : (keyF s.data.toList f n)[i]'(by rw [keyF_length _ _ _ (by rw [Array.length_toList]; exact h)]; exact hi) = atF s f i := by
  have hl : s.data.toList.length = s.size := Array.length_toList
  unfold atF
  unfold keyF
  by_cases hs : i < s.size
  · rw [if_pos hs, List.getElem_append_left (by rw [bl2_length, hl]; exact hs)]
    unfold bl2
    rw [List.getElem_map]
    have := bt_at s (i : Int) hs
    rw [← this]; rfl
  · rw [if_neg hs, List.getElem_append_right (by rw [bl2_length, hl]; omega), List.getElem_replicate]
theorem bh_key (a b : ByteArray) (f : Int) (n : Nat) (ha : a.size ≤ n) (hb : b.size ≤ n) (j : Nat) : ∀ i, i + j = n → bhV a b f j i = cmpK ((keyF a.data.toList f n).drop i) ((keyF b.data.toList f n).drop i) := by
  have la := keyF_length a.data.toList f n (by rw [Array.length_toList]; exact ha)
  have lb := keyF_length b.data.toList f n (by rw [Array.length_toList]; exact hb)
  induction j with
  | zero =>
    intro i hi
    rw [List.drop_of_length_le (by omega), List.drop_of_length_le (by omega)]; rfl
  | succ j ih =>
    intro i hi
    rw [bhV, List.drop_eq_getElem_cons (l := keyF a.data.toList f n) (i := i) (by omega), List.drop_eq_getElem_cons (l := keyF b.data.toList f n) (i := i) (by omega), keyF_get a f n i ha (by omega), keyF_get b f n i hb (by omega), cmpK, ih (i + 1) (by omega)]
theorem bh_cmp (a b : ByteArray) (f : Int) (N : Nat) (ha : a.size ≤ N) (hb : b.size ≤ N) : bhV a b f (max a.size b.size) 0 = cmpK (keyF a.data.toList f N) (keyF b.data.toList f N) := by
  have hla : a.data.toList.length = a.size := Array.length_toList
  have hlb : b.data.toList.length = b.size := Array.length_toList
  have h := bh_key a b f (max a.size b.size) (Nat.le_max_left _ _) (Nat.le_max_right _ _) (max a.size b.size) 0 (by omega)
  rw [List.drop_zero, List.drop_zero] at h
  have e1 := keyF_more a.data.toList f (max a.size b.size) N (by rw [hla]; exact Nat.le_max_left _ _) (Nat.max_le.2 ⟨ha, hb⟩)
  have e2 := keyF_more b.data.toList f (max a.size b.size) N (by rw [hlb]; exact Nat.le_max_right _ _) (Nat.max_le.2 ⟨ha, hb⟩)
  rw [e1, e2, cmpK_tail _ _ _ (by rw [keyF_length _ _ _ (by rw [hla]; exact Nat.le_max_left _ _), keyF_length _ _ _ (by rw [hlb]; exact Nat.le_max_right _ _)])]
  exact h
theorem compareBytes_key : ∀ (x y : List UInt8), x.length = y.length → Lib.compareBytes x y = cmpK (bl2 x) (bl2 y)
  | [], [], _ => rfl
  | [], _ :: _, h => by simp at h
  | _ :: _, [], h => by simp at h
  | a :: x, b :: y, h => by
    rw [Lib.compareBytes, compareBytes_key x y (by simpa using h)]
    simp only [bl2, List.map_cons, cmpK]
    rcases cmpV_cases (a.toNat : Int) (b.toNat : Int) with c | c | c
    · rw [if_pos (UInt8.lt_iff_toNat_lt.2 (by omega)), c.2, if_neg (by decide)]
    · rw [if_neg (fun hh => by have := UInt8.lt_iff_toNat_lt.1 hh; omega), if_neg (fun hh => by have := UInt8.lt_iff_toNat_lt.1 hh; omega), c.2, if_pos rfl]
    · rw [if_neg (fun hh => by have := UInt8.lt_iff_toNat_lt.1 hh; omega), if_pos (UInt8.lt_iff_toNat_lt.2 (by omega)), c.2, if_neg (by decide)]

/-- Name, extension and version. -/
def isDot (c : UInt8) : Bool := c == 46 || c == 59
def partsL (l : List UInt8) : List UInt8 × List UInt8 × List UInt8 :=
  match l.dropWhile (fun c => !isDot c) with
  | [] => (l, [], [])
  | c :: r => if c = 59 then (l.takeWhile (fun c => !isDot c), [], r) else (l.takeWhile (fun c => !isDot c), r.takeWhile (fun c => !(c == 59)), (r.dropWhile (fun c => !(c == 59))).drop 1)
/-- A version, left-padded; a greater one comes first. -/
def verK (v : List UInt8) (n : Nat) : List Int := (List.replicate (n - v.length) (48 : Int) ++ bl2 v).map fun x => -x
def rankP (a : ByteArray) : Int := if a.toList = ([0] : List UInt8) then 0 else if a.toList = ([1] : List UInt8) then 1 else 2
/-- What decides the order of an identifier. -/
def keyR (wide : Bool) (a : ByteArray) : List Int :=
  if wide = true then keyF a.data.toList 0 1000 else keyF (partsL a.data.toList).1 32 1000 ++ (keyF (partsL a.data.toList).2.1 32 1000 ++ verK (partsL a.data.toList).2.2 1000)
def key (wide : Bool) (a : ByteArray) : List Int := rankP a :: keyR wide a
theorem tw_dw (p : UInt8 → Bool) (l : List UInt8) : (l.takeWhile p).length + (l.dropWhile p).length = l.length := by
  have := congrArg List.length (List.takeWhile_append_dropWhile (p := p) (l := l))
  rw [List.length_append] at this; exact this
theorem parts_len (l : List UInt8) : (partsL l).1.length ≤ l.length ∧ (partsL l).2.1.length ≤ l.length ∧ (partsL l).2.2.length ≤ l.length := by
  have h := tw_dw (fun c => !isDot c) l
  unfold partsL
  split
  · exact ⟨Nat.le_refl _, Nat.zero_le _, Nat.zero_le _⟩
  · rename_i c r hr
    rw [hr, List.length_cons] at h
    have h2 := tw_dw (fun c => !(c == 59)) r
    split
    · exact ⟨by show (l.takeWhile _).length ≤ _; omega, Nat.zero_le _, by show r.length ≤ _; omega⟩
    · refine ⟨by show (l.takeWhile _).length ≤ _; omega, by show (r.takeWhile _).length ≤ _; omega, ?_⟩
      show ((r.dropWhile _).drop 1).length ≤ _
      rw [List.length_drop]; omega
theorem verK_length (v : List UInt8) (n : Nat) (h : v.length ≤ n) : (verK v n).length = n := by
  unfold verK
  rw [List.length_map, List.length_append, List.length_replicate, bl2_length]; omega
theorem keyR_length (wide : Bool) (a : ByteArray) (h : a.size ≤ 1000) : (keyR wide a).length = if wide = true then 1000 else 3000 := by
  have hl : a.data.toList.length = a.size := Array.length_toList
  have hp := parts_len a.data.toList
  unfold keyR
  split
  · exact keyF_length _ _ _ (by omega)
  · rw [List.length_append, List.length_append, keyF_length _ _ _ (by omega), keyF_length _ _ _ (by omega), verK_length _ _ (by omega)]
theorem key_length (wide : Bool) (a b : ByteArray) (ha : a.size ≤ 1000) (hb : b.size ≤ 1000) : (key wide a).length = (key wide b).length := by
  unfold key
  rw [List.length_cons, List.length_cons, keyR_length _ _ ha, keyR_length _ _ hb]
theorem ver_cmp (v z : List UInt8) (n : Nat) (hv : v.length ≤ n) (hz : z.length ≤ n) (hn : n ≤ 1000) :
    cmpK (verK v 1000) (verK z 1000) = cmpK (List.replicate (n - z.length) (48 : Int) ++ bl2 z) (List.replicate (n - v.length) (48 : Int) ++ bl2 v) := by
  unfold verK
  rw [cmpK_neg]
  have e := fun (x : List UInt8) (h : x.length ≤ n) => show List.replicate (1000 - x.length) (48 : Int) ++ bl2 x = List.replicate (1000 - n) 48 ++ (List.replicate (n - x.length) 48 ++ bl2 x) by
    rw [← List.append_assoc, List.replicate_append_replicate]; congr 2; omega
  rw [e v hv, e z hz, cmpK_head]

end Go.Proofs.YthblghfobnhoeaaGreat.Q
namespace Go.Proofs.YthblghfobnhoeaaGreat.Q
open Go.RowKit Go.Proofs.YthblghfobnhoeaaGreatW.PrintWords Go.Proofs.YthblghfobnhoeaaGreatW.PrintLast Go.Proofs.YthblghfobnhoeaaGreat.A Go.Proofs.YthblghfobnhoeaaGreat.H
set_option linter.unusedVariables false

theorem zeros_size (n : Nat) : (strOfNums (List.replicate n 0)).size = n := by
  show ((List.replicate n (0 : Int)).map _).toArray.size = n
  simp
theorem encL_length (size : Int) (s1 s2 d : ByteArray) (a5 : Int) (s3 a0 : ByteArray) (t : List UInt8) :
    (encL size s1 s2 d a5 s3 a0 t).length = 6 + s1.size + s2.size + d.size + s3.size + a0.size + t.length := by
  unfold encL
  simp only [List.length_cons, List.length_append, Array.length_toList]
  simp only [ByteArray.size]
  omega
theorem bytes_size (l : List UInt8) : (⟨l.toArray⟩ : ByteArray).size = l.length := by
  show l.toArray.size = l.length
  simp

def theDate : ByteArray := ⟨#[126, 11, 16, 17, 4, 5, 4]⟩
def both20 : ByteArray := ⟨#[20, 0, 0, 0, 0, 0, 0, 20]⟩
def both5 : ByteArray := ⟨#[5, 0, 0, 0, 0, 0, 0, 5]⟩
def both1 : ByteArray := ⟨#[1, 0, 0, 1]⟩
theorem t_date : datetime_Record.f 400 1794845045 60 = some (theDate, 0) := by kernel_rfl
theorem t_both20 : endian_Both.f 20 4 = some (both20, 0) := by kernel_rfl
theorem t_both5 : endian_Both.f 5 4 = some (both5, 0) := by kernel_rfl
theorem t_both1 : endian_Both.f 1 2 = some (both1, 0) := by kernel_rfl

/-- The example with other strings: what is encoded has the size, or is refused where there is none. -/
theorem enc_zeros (x y : ByteArray) (hx : x.size ≤ 255) (hy : y.size ≤ 255) :
    ∃ s e, dirrecord_Encode.f 400 x 20 5 1794845045 60 0 1 y = some (s, e) ∧ (s.size : Int) = sizeV x.size y.size ∧ (e == 0) = decide (0 < sizeV x.size y.size) := by
  unfold dirrecord_Encode.f
  rw [if_pos ⟨by omega, by omega⟩]
  by_cases h0 : x.size = 0
  · rw [if_pos h0]
    have hz : sizeV x.size y.size = 0 := by unfold sizeV; rw [if_neg (by omega)]
    exact ⟨_, _, rfl, by rw [hz]; rfl, by rw [hz]; rfl⟩
  · rw [if_neg h0]
    by_cases h1 : (y.size : Int) % 2 ≠ 0
    · rw [if_pos h1]
      have hz : sizeV x.size y.size = 0 := by unfold sizeV; rw [if_neg (by omega)]
      exact ⟨_, _, rfl, by rw [hz]; rfl, by rw [hz]; rfl⟩
    · rw [if_neg h1, size_eq 399]
      simp only [Option.bind_some]
      by_cases h2 : sizeV x.size y.size = 0
      · rw [if_pos h2]
        exact ⟨_, _, rfl, by rw [h2]; rfl, by rw [h2]; rfl⟩
      · rw [if_neg h2, t_date, t_both20, t_both5, t_both1]
        simp only [Option.bind_some]
        have g1 : theDate.size = 7 := rfl
        have g2 : both20.size = 8 := rfl
        have g3 : both5.size = 8 := rfl
        have g4 : both1.size = 4 := rfl
        rw [if_pos ⟨by omega, by omega, by omega, by omega, by omega, by omega⟩, if_neg (by decide), if_neg (by decide), if_neg (by decide)]
        have hv : sizeV x.size y.size = (34 + (x.size : Int)) / 2 * 2 + y.size ∧ 0 < sizeV x.size y.size := by
          unfold sizeV at h2 ⊢
          split at h2
          · split at h2
            · rw [if_pos (by assumption), if_pos (by assumption)]
              omega
            · exact absurd rfl h2
          · exact absurd rfl h2
        have hd : decide (0 < sizeV x.size y.size) = true := decide_eq_true hv.2
        have ly : y.data.toList.length = y.size := Array.length_toList
        by_cases h3 : (x.size : Int) % 2 = 0
        · rw [if_pos h3]
          refine ⟨_, _, rfl, ?_, by rw [hd]; rfl⟩
          rw [bytes_size, encL_length, g1, g2, g3, g4, List.length_cons, ly, hv.1]
          omega
        · rw [if_neg h3]
          refine ⟨_, _, rfl, ?_, by rw [hd]; rfl⟩
          rw [bytes_size, encL_length, g1, g2, g3, g4, ly, hv.1]
          omega

end Go.Proofs.YthblghfobnhoeaaGreat.Q
namespace Go.Proofs.YthblghfobnhoeaaGreat.Q
open Go.RowKit Go.Proofs.YthblghfobnhoeaaGreatW.PrintWords Go.Proofs.YthblghfobnhoeaaGreatW.PrintLast Go.Proofs.YthblghfobnhoeaaGreat.A Go.Proofs.YthblghfobnhoeaaGreat.H
set_option linter.unusedVariables false

/-! What dirrecord.Encode returns, for any record. -/
theorem le4_len (n : Int) : (le4 n).size = 4 := rfl
theorem be4_len (n : Int) : (be4 n).size = 4 := rfl
theorem le2_len (n : Int) : (le2 n).size = 2 := rfl
theorem be2_len (n : Int) : (be2 n).size = 2 := rfl

/-- The numbers of a record lie within their bounds. -/
def GoodR (a1 a2 a3 a4 a5 a6 : Int) : Prop := (0 ≤ a1 ∧ a1 < 4294967296) ∧ (0 ≤ a2 ∧ a2 < 4294967296) ∧ (TimeOk a3 ∧ QuarterOk a4) ∧ (0 ≤ a5 ∧ a5 ≤ 255) ∧ (0 ≤ a6 ∧ a6 < 65536)

theorem both_f4 (n : Int) : endian_Both.f n 4 = if 0 ≤ n ∧ n < 4294967296 then some (le4 n ++ be4 n, 0) else some ((⟨#[]⟩ : ByteArray), 2) := by
  unfold endian_Both.f; rw [if_pos rfl]
theorem both_f2 (n : Int) : endian_Both.f n 2 = if 0 ≤ n ∧ n < 65536 then some (le2 n ++ be2 n, 0) else some ((⟨#[]⟩ : ByteArray), 2) := by
  unfold endian_Both.f; rw [if_neg (by decide), if_pos rfl]
theorem ee_ne_l {e e1 : Int} (h : e ≠ 0) : ee e e1 ≠ 0 := by unfold ee; split <;> omega
theorem ee_ne_r {e e1 : Int} (h : e1 ≠ 0) : ee e e1 ≠ 0 := by unfold ee; split <;> omega

/-- What stands between the identifier and Use. -/
def padL (a0 : ByteArray) : List UInt8 := if (a0.size : Int) % 2 = 0 then [0] else []

theorem size_bds {a b : Int} (h : sizeV a b ≠ 0) : sizeV a b = (34 + a) / 2 * 2 + b ∧ 1 ≤ a ∧ a ≤ 254 ∧ 0 ≤ b ∧ b ≤ 254 ∧ b % 2 = 0 ∧ sizeV a b ≤ 254 ∧ 34 ≤ sizeV a b := by
  unfold sizeV at h ⊢
  split at h
  · split at h
    · rw [if_pos (by assumption), if_pos (by assumption)]
      omega
    · exact absurd rfl h
  · exact absurd rfl h

theorem enc_nosize (a0 : ByteArray) (a1 a2 a3 a4 a5 a6 : Int) (a7 : ByteArray) (z0 : a0.size ≤ 9223372036854775807) (z7 : a7.size ≤ 9223372036854775807) (h : sizeV a0.size a7.size = 0) :
    dirrecord_Encode.f 400 a0 a1 a2 a3 a4 a5 a6 a7 = some ((⟨#[]⟩ : ByteArray), if a0.size = 0 ∨ (a7.size : Int) % 2 ≠ 0 then 1 else 7) := by
  unfold dirrecord_Encode.f
  rw [if_pos ⟨z0, z7⟩]
  by_cases h0 : a0.size = 0
  · rw [if_pos h0, if_pos (Or.inl h0)]
  · rw [if_neg h0]
    by_cases h1 : (a7.size : Int) % 2 ≠ 0
    · rw [if_pos h1, if_pos (Or.inr h1)]
    · rw [if_neg h1, if_neg (by omega), size_eq 399, Option.bind_some, if_pos h]

theorem enc_bad (a0 : ByteArray) (a1 a2 a3 a4 a5 a6 : Int) (a7 : ByteArray) (h : sizeV a0.size a7.size ≠ 0) (hg : ¬ GoodR a1 a2 a3 a4 a5 a6) :
    dirrecord_Encode.f 400 a0 a1 a2 a3 a4 a5 a6 a7 = some ((⟨#[]⟩ : ByteArray), 2) := by
  obtain ⟨_, i0, i1, u0, u1, u2, _, _⟩ := size_bds h
  unfold dirrecord_Encode.f
  rw [if_pos ⟨by omega, by omega⟩, if_neg (by omega), if_neg (by omega), size_eq 399, Option.bind_some, if_neg h]
  have hd : ∃ d e, datetime_Record.f 400 a3 a4 = some (d, e) ∧ d.size ≤ 1000 ∧ (e = 0 → TimeOk a3 ∧ QuarterOk a4) := by
    by_cases hq : TimeOk a3 ∧ QuarterOk a4
    · obtain ⟨n, m, d, hr, _⟩ := record_yes a3 a4 hq.1 hq.2
      exact ⟨_, _, hr, by simp [dateL, strOfNums, ByteArray.size], fun _ => hq⟩
    · exact ⟨_, _, record_no 400 a3 a4 hq, by decide, fun h => by omega⟩
  have hb : ∀ n, ∃ p e, endian_Both.f n 4 = some (p, e) ∧ p.size ≤ 1000 ∧ (e = 0 → 0 ≤ n ∧ n < 4294967296) := fun n => by
    by_cases hn : 0 ≤ n ∧ n < 4294967296
    · exact ⟨_, _, by rw [both_f4, if_pos hn], by rw [ByteArray.size_append, le4_len, be4_len]; decide, fun _ => hn⟩
    · exact ⟨_, _, by rw [both_f4, if_neg hn], by decide, fun h => by omega⟩
  have hc : ∃ p e, endian_Both.f a6 2 = some (p, e) ∧ p.size ≤ 1000 ∧ (e = 0 → 0 ≤ a6 ∧ a6 < 65536) := by
    by_cases hn : 0 ≤ a6 ∧ a6 < 65536
    · exact ⟨_, _, by rw [both_f2, if_pos hn], by rw [ByteArray.size_append, le2_len, be2_len]; decide, fun _ => hn⟩
    · exact ⟨_, _, by rw [both_f2, if_neg hn], by decide, fun h => by omega⟩
  obtain ⟨d, e, hd, zd, kd⟩ := hd
  obtain ⟨p1, e1, h1, z1, k1⟩ := hb a1
  obtain ⟨p2, e2, h2, z2, k2⟩ := hb a2
  obtain ⟨p3, e3, h3, z3, k3⟩ := hc
  rw [hd, h1, h2, h3, Option.bind_some, Option.bind_some, Option.bind_some, Option.bind_some, if_pos ⟨by omega, by omega, zd, z1, z2, z3⟩]
  show (if ee (ee (ee e e1) e2) e3 ≠ 0 then _ else _) = _
  by_cases hw : ee (ee (ee e e1) e2) e3 ≠ 0
  · rw [if_pos hw]
  · rw [if_neg hw]
    have q3 : e3 = 0 := Classical.byContradiction fun h => hw (ee_ne_r h)
    have q2 : e2 = 0 := Classical.byContradiction fun h => hw (ee_ne_l (ee_ne_r h))
    have q1 : e1 = 0 := Classical.byContradiction fun h => hw (ee_ne_l (ee_ne_l (ee_ne_r h)))
    have q0 : e = 0 := Classical.byContradiction fun h => hw (ee_ne_l (ee_ne_l (ee_ne_l h)))
    by_cases f0 : a5 < 0
    · rw [if_pos f0]
    · rw [if_neg f0]
      by_cases f1 : 255 < a5
      · rw [if_pos f1]
      · exact absurd ⟨k1 q1, k2 q2, kd q0, ⟨by omega, by omega⟩, k3 q3⟩ hg

/-- The bytes of a record. -/
def recL (a0 : ByteArray) (a1 a2 : Int) (d : ByteArray) (a5 a6 : Int) (t : List UInt8) (n : Int) : List UInt8 :=
  encL n (le4 a1 ++ be4 a1) (le4 a2 ++ be4 a2) d a5 (le2 a6 ++ be2 a6) a0 t

theorem enc_good (a0 : ByteArray) (a1 a2 a3 a4 a5 a6 : Int) (a7 : ByteArray) (h : sizeV a0.size a7.size ≠ 0) (hg : GoodR a1 a2 a3 a4 a5 a6) :
    ∃ (n m : Nat) (d : Int), dirrecord_Encode.f 400 a0 a1 a2 a3 a4 a5 a6 a7 = some (⟨(recL a0 a1 a2 (strOfNums (dateL n m d (a3 + 60 * a4) a4)) a5 a6 (padL a0 ++ a7.data.toList) (sizeV a0.size a7.size)).toArray⟩, 0) ∧ Cal ((a3 + 60 * a4) / 86400) n m d ∧ n ≤ 131 := by
  obtain ⟨_, i0, i1, u0, u1, u2, _, _⟩ := size_bds h
  obtain ⟨g1, g2, g3, g5, g6⟩ := hg
  obtain ⟨n, m, d, hr, hc, hn⟩ := record_yes a3 a4 g3.1 g3.2
  refine ⟨n, m, d, ?_, hc, hn⟩
  unfold dirrecord_Encode.f
  rw [if_pos ⟨by omega, by omega⟩, if_neg (by omega), if_neg (by omega), size_eq 399, Option.bind_some, if_neg h, hr, both_f4, both_f4, both_f2, if_pos g1, if_pos g2, if_pos g6,
    Option.bind_some, Option.bind_some, Option.bind_some, Option.bind_some,
    if_pos ⟨by omega, by omega, by simp [dateL, strOfNums, ByteArray.size], by rw [ByteArray.size_append, le4_len, be4_len]; decide, by rw [ByteArray.size_append, le4_len, be4_len]; decide, by rw [ByteArray.size_append, le2_len, be2_len]; decide⟩,
    if_neg (fun h => h rfl), if_neg (by omega), if_neg (by omega)]
  unfold padL
  by_cases h2 : (a0.size : Int) % 2 = 0
  · rw [if_pos h2, if_pos h2]; rfl
  · rw [if_neg h2, if_neg h2]; rfl

end Go.Proofs.YthblghfobnhoeaaGreat.Q
namespace Go.Proofs.YthblghfobnhoeaaGreat.Q
open Go.RowKit Go.Proofs.YthblghfobnhoeaaGreatW.PrintWords Go.Proofs.YthblghfobnhoeaaGreatW.PrintLast Go.Proofs.YthblghfobnhoeaaGreat.A Go.Proofs.YthblghfobnhoeaaGreat.H
set_option linter.unusedVariables false

/-! The bytes of an encoded record, and what dirrecord.Decode tells of them, with more behind. -/
/-- A byte of a list, as a number. -/
def bl (l : List UInt8) (i : Nat) : Int := ((l[i]?).getD 0).toNat
theorem bt_bl (s : ByteArray) (i : Nat) : bt s (i : Int) = bl s.data.toList i := by
  unfold bt bl
  rw [Array.getElem?_toList]
  by_cases h : (i : Int).toNat < s.size
  · rw [dif_pos h]
    have h2 : i < s.data.size := by simpa using h
    rw [Array.getElem?_eq_getElem h2]
    rfl
  · rw [dif_neg h]
    have h2 : s.data.size ≤ i := by simpa using h
    rw [Array.getElem?_eq_none h2]
    rfl
theorem bt_l (l : List UInt8) (i : Nat) : bt (⟨l.toArray⟩ : ByteArray) (i : Int) = bl l i := by
  rw [bt_bl]
theorem ext_l (l : List UInt8) (a b : Nat) : (⟨l.toArray⟩ : ByteArray).extract a b = ⟨((l.drop a).take (b - a)).toArray⟩ := by
  apply ByteArray.ext
  rw [ByteArray.data_extract, List.extract_toArray]
theorem of_toList (s : ByteArray) : (⟨s.data.toList.toArray⟩ : ByteArray) = s := by
  apply ByteArray.ext
  rfl
theorem ext_mid (p x q : List UInt8) (a b : Nat) (ha : p.length = a) (hb : a + x.length = b) : (⟨(p ++ (x ++ q)).toArray⟩ : ByteArray).extract a b = ⟨x.toArray⟩ := by
  rw [ext_l]
  subst ha
  rw [List.drop_left, ← hb, Nat.add_sub_cancel_left, List.take_left]

theorem list8 (l : List UInt8) (h : l.length = 8) : ∃ a b c d e f g i, l = [a, b, c, d, e, f, g, i] := by
  match l, h with
  | [a, b, c, d, e, f, g, i], _ => exact ⟨a, b, c, d, e, f, g, i, rfl⟩
theorem list7 (l : List UInt8) (h : l.length = 7) : ∃ a b c d e f g, l = [a, b, c, d, e, f, g] := by
  match l, h with
  | [a, b, c, d, e, f, g], _ => exact ⟨a, b, c, d, e, f, g, rfl⟩
theorem list4 (l : List UInt8) (h : l.length = 4) : ∃ a b c d, l = [a, b, c, d] := by
  match l, h with
  | [a, b, c, d], _ => exact ⟨a, b, c, d, rfl⟩

/-- The bytes of a record, told from their places. -/
structure Parts (n : Int) (s1 s2 d : ByteArray) (a5 : Int) (s3 a0 : ByteArray) (t : List UInt8) (S : ByteArray) : Prop where
  size : (S.size : Int) = 33 + a0.size + t.length
  b0 : bt S 0 = n % 256
  b1 : bt S 1 = 0
  b25 : bt S 25 = a5 % 256
  b26 : bt S 26 = 0
  b27 : bt S 27 = 0
  b32 : bt S 32 = (a0.size : Int) % 256
  n1 : ∀ i : Nat, i < 8 → bt S (2 + i : Nat) = bt s1 i
  n2 : ∀ i : Nat, i < 8 → bt S (10 + i : Nat) = bt s2 i
  n3 : ∀ i : Nat, i < 4 → bt S (28 + i : Nat) = bt s3 i
  date : S.extract 18 25 = d
  iden : ∀ b, 33 + a0.size = b → S.extract 33 b = a0
  tail : ∀ (p x q : List UInt8) (a b : Nat), t = p ++ (x ++ q) → 33 + a0.size + p.length = a → a + x.length = b → S.extract a b = ⟨x.toArray⟩

theorem bz_int (x : Int) : ((bz x).toNat : Int) = x % 256 := bz_toNat x

theorem parts (n : Int) (s1 s2 d : ByteArray) (a5 : Int) (s3 a0 : ByteArray) (t : List UInt8) (h1 : s1.size = 8) (h2 : s2.size = 8) (hd : d.size = 7) (h3 : s3.size = 4) :
    Parts n s1 s2 d a5 s3 a0 t ⟨(encL n s1 s2 d a5 s3 a0 t).toArray⟩ := by
  have z1 : s1.data.toList.length = 8 := h1
  have z2 : s2.data.toList.length = 8 := h2
  have zd : d.data.toList.length = 7 := hd
  have z3 : s3.data.toList.length = 4 := h3
  have z0 : a0.data.toList.length = a0.size := Array.length_toList
  obtain ⟨x0, x1, x2, x3, x4, x5, x6, x7, ex⟩ := list8 _ z1
  obtain ⟨y0, y1, y2, y3, y4, y5, y6, y7, ey⟩ := list8 _ z2
  obtain ⟨d0, d1, d2, d3, d4, d5, d6, ed⟩ := list7 _ zd
  obtain ⟨w0, w1, w2, w3, ew⟩ := list4 _ z3
  have e : encL n s1 s2 d a5 s3 a0 t = bz n :: 0 :: x0 :: x1 :: x2 :: x3 :: x4 :: x5 :: x6 :: x7 :: y0 :: y1 :: y2 :: y3 :: y4 :: y5 :: y6 :: y7 :: d0 :: d1 :: d2 :: d3 :: d4 :: d5 :: d6 :: bz a5 :: 0 :: 0 :: w0 :: w1 :: w2 :: w3 :: bz a0.size :: (a0.data.toList ++ t) := by
    unfold encL; rw [ex, ey, ed, ew]; rfl
  have k1 : ∀ i, bt s1 (i : Nat) = bl [x0, x1, x2, x3, x4, x5, x6, x7] i := fun i => by rw [bt_bl, ex]
  have k2 : ∀ i, bt s2 (i : Nat) = bl [y0, y1, y2, y3, y4, y5, y6, y7] i := fun i => by rw [bt_bl, ey]
  have k3 : ∀ i, bt s3 (i : Nat) = bl [w0, w1, w2, w3] i := fun i => by rw [bt_bl, ew]
  have hd' : d = ⟨[d0, d1, d2, d3, d4, d5, d6].toArray⟩ := by rw [← ed]
  have sz := encL_length n s1 s2 d a5 s3 a0 t
  have hp : [bz n, 0, x0, x1, x2, x3, x4, x5, x6, x7, y0, y1, y2, y3, y4, y5, y6, y7, d0, d1, d2, d3, d4, d5, d6, bz a5, 0, 0, w0, w1, w2, w3, bz a0.size].length = 33 := rfl
  constructor
  · rw [bytes_size, sz]; omega
  · rw [e]; exact (bt_l _ 0).trans (bz_int n)
  · rw [e]; exact bt_l _ 1
  · rw [e]; exact (bt_l _ 25).trans (bz_int a5)
  · rw [e]; exact bt_l _ 26
  · rw [e]; exact bt_l _ 27
  · rw [e]; exact (bt_l _ 32).trans (bz_int _)
  · intro i hi; rw [e, k1, bt_l]
    match i, hi with
    | 0, _ => rfl | 1, _ => rfl | 2, _ => rfl | 3, _ => rfl | 4, _ => rfl | 5, _ => rfl | 6, _ => rfl | 7, _ => rfl
  · intro i hi; rw [e, k2, bt_l]
    match i, hi with
    | 0, _ => rfl | 1, _ => rfl | 2, _ => rfl | 3, _ => rfl | 4, _ => rfl | 5, _ => rfl | 6, _ => rfl | 7, _ => rfl
  · intro i hi; rw [e, k3, bt_l]
    match i, hi with
    | 0, _ => rfl | 1, _ => rfl | 2, _ => rfl | 3, _ => rfl
  · rw [e, hd']
    exact ext_mid [bz n, 0, x0, x1, x2, x3, x4, x5, x6, x7, y0, y1, y2, y3, y4, y5, y6, y7] [d0, d1, d2, d3, d4, d5, d6] _ 18 25 rfl rfl
  · intro b hb
    rw [e, ← of_toList a0]
    exact ext_mid [bz n, 0, x0, x1, x2, x3, x4, x5, x6, x7, y0, y1, y2, y3, y4, y5, y6, y7, d0, d1, d2, d3, d4, d5, d6, bz a5, 0, 0, w0, w1, w2, w3, bz a0.size] a0.data.toList t 33 b rfl (by rw [z0]; exact hb)
  · intro p x q a b ht ha hb
    rw [e, ht]
    have := ext_mid ([bz n, 0, x0, x1, x2, x3, x4, x5, x6, x7, y0, y1, y2, y3, y4, y5, y6, y7, d0, d1, d2, d3, d4, d5, d6, bz a5, 0, 0, w0, w1, w2, w3, bz a0.size] ++ a0.data.toList ++ p) x q a b (by rw [List.length_append, List.length_append, hp, z0]; exact ha) hb
    simpa only [List.append_assoc, List.cons_append, List.nil_append] using this

/-- What Decode tells of such bytes. -/
theorem dec_parts {n : Int} {s1 s2 d : ByteArray} {a5 : Int} {s3 a0 : ByteArray} {u v : List UInt8} {S : ByteArray} {tt zz : Int} (h : Parts n s1 s2 d a5 s3 a0 (padL a0 ++ (u ++ v)) S)
    (hn : n = (34 + (a0.size : Int)) / 2 * 2 + u.length) (hi : 1 ≤ a0.size) (hi2 : a0.size ≤ 254) (hu : u.length % 2 = 0) (hn2 : n ≤ 254) (hv : v.length ≤ 1000000) (h5 : 0 ≤ a5) (h6 : a5 ≤ 255)
    (hr : datetime_ReadRecord.f 400 d = some (tt, zz, 0)) :
    dirrecord_Decode.f 400 S = some (a0, numK S 2 4, numK S 10 4, tt, zz, a5, numK S 28 2, ⟨u.toArray⟩, n, 0) := by
  have hpl : ((padL a0).length : Int) = (34 + (a0.size : Int)) / 2 * 2 - 33 - a0.size := by
    unfold padL
    by_cases h2 : (a0.size : Int) % 2 = 0
    · rw [if_pos h2]; show (1 : Int) = _; omega
    · rw [if_neg h2]; show (0 : Int) = _; omega
  have hs := h.size
  rw [List.length_append, List.length_append] at hs
  have e0 : bt S 0 = n := by rw [h.b0]; omega
  have e32 : bt S 32 = a0.size := by rw [h.b32]; omega
  have ep : padE (bt S 32) = (34 + (a0.size : Int)) / 2 * 2 := by rw [e32]; rfl
  unfold dirrecord_Decode.f
  rw [if_pos (by omega), if_neg (by omega), ep, e0, e32, h.b1, h.b26, h.b27, h.b25, h.date, hr]
  have c0 : (n % 2 != 0) = false := bne_eq_false_iff_eq.2 (by omega)
  have c1 : decide (n < 34) = false := decide_eq_false (by omega)
  have c2 : decide ((S.size : Int) < n) = false := decide_eq_false (by omega)
  have c3 : ((a0.size : Int) == 0) = false := beq_eq_false_iff_ne.2 (by omega)
  have c4 : decide (n < (34 + (a0.size : Int)) / 2 * 2) = false := decide_eq_false (by omega)
  rw [c0, c1, c2, c3, c4, if_neg (by decide), if_neg (by decide), Option.bind_some, if_pos rfl, h.iden (33 + (a0.size : Int)).toNat (by omega), h.tail (padL a0) u v ((34 + (a0.size : Int)) / 2 * 2).toNat n.toNat rfl (by omega) (by omega)]
  have e5 : a5 % 256 = a5 := by omega
  rw [e5]

end Go.Proofs.YthblghfobnhoeaaGreat.Q
namespace Go.Proofs.YthblghfobnhoeaaGreat.Q
open Go.RowKit Go.Proofs.YthblghfobnhoeaaGreatW.PrintWords Go.Proofs.YthblghfobnhoeaaGreatW.PrintLast Go.Proofs.YthblghfobnhoeaaGreat.A Go.Proofs.YthblghfobnhoeaaGreat.H
set_option linter.unusedVariables false

/-! What dirrecord.Encode writes is decoded as the same record, whatever stands behind (without Differ). -/
theorem both4_nums (n : Int) : le4 n ++ be4 n = strOfNums [n % 256, n / 256 % 256, n / 65536 % 256, n / 16777216 % 256, n / 16777216 % 256, n / 65536 % 256, n / 256 % 256, n % 256] := by
  apply ByteArray.ext
  rw [ByteArray.data_append]
  rfl
theorem both2_nums (n : Int) : le2 n ++ be2 n = strOfNums [n % 256, n / 256 % 256, n / 256 % 256, n % 256] := by
  apply ByteArray.ext
  rw [ByteArray.data_append]
  rfl
theorem byte_bd (n : Int) : 0 ≤ n % 256 ∧ n % 256 ≤ 255 := by omega
theorem both4_bt (n : Int) : bt (le4 n ++ be4 n) 0 = n % 256 ∧ bt (le4 n ++ be4 n) 1 = n / 256 % 256 ∧ bt (le4 n ++ be4 n) 2 = n / 65536 % 256 ∧ bt (le4 n ++ be4 n) 3 = n / 16777216 % 256 ∧
    bt (le4 n ++ be4 n) 4 = n / 16777216 % 256 ∧ bt (le4 n ++ be4 n) 5 = n / 65536 % 256 ∧ bt (le4 n ++ be4 n) 6 = n / 256 % 256 ∧ bt (le4 n ++ be4 n) 7 = n % 256 := by
  rw [both4_nums]
  have b := fun n => (byte_bd n).1
  have c := fun n => (byte_bd n).2
  exact ⟨bt_nums _ 0 (by simp) (b _) (c _), bt_nums _ 1 (by simp) (b _) (c _), bt_nums _ 2 (by simp) (b _) (c _), bt_nums _ 3 (by simp) (b _) (c _), bt_nums _ 4 (by simp) (b _) (c _), bt_nums _ 5 (by simp) (b _) (c _), bt_nums _ 6 (by simp) (b _) (c _), bt_nums _ 7 (by simp) (b _) (c _)⟩
theorem both2_bt (n : Int) : bt (le2 n ++ be2 n) 0 = n % 256 ∧ bt (le2 n ++ be2 n) 1 = n / 256 % 256 ∧ bt (le2 n ++ be2 n) 2 = n / 256 % 256 ∧ bt (le2 n ++ be2 n) 3 = n % 256 := by
  rw [both2_nums]
  have b := fun n => (byte_bd n).1
  have c := fun n => (byte_bd n).2
  exact ⟨bt_nums _ 0 (by simp) (b _) (c _), bt_nums _ 1 (by simp) (b _) (c _), bt_nums _ 2 (by simp) (b _) (c _), bt_nums _ 3 (by simp) (b _) (c _)⟩
theorem bytes4 (n : Int) (h0 : 0 ≤ n) (h1 : n < 4294967296) : n % 256 + n / 256 % 256 * 256 + n / 65536 % 256 * 65536 + n / 16777216 % 256 * 16777216 = n := by omega
theorem bytes2 (n : Int) (h0 : 0 ≤ n) (h1 : n < 65536) : n % 256 + n / 256 % 256 * 256 = n := by omega

theorem nums_ok1 {n a1 a2 a5 a6 : Int} {d a0 : ByteArray} {t : List UInt8} {S : ByteArray} (P : Parts n (le4 a1 ++ be4 a1) (le4 a2 ++ be4 a2) d a5 (le2 a6 ++ be2 a6) a0 t S)
    (g1 : 0 ≤ a1 ∧ a1 < 4294967296) (g2 : 0 ≤ a2 ∧ a2 < 4294967296) (g6 : 0 ≤ a6 ∧ a6 < 65536) :
    numK S 2 4 = a1 ∧ numK S 10 4 = a2 ∧ numK S 28 2 = a6 := by
  obtain ⟨x0, x1, x2, x3, x4, x5, x6, x7⟩ := both4_bt a1
  obtain ⟨y0, y1, y2, y3, y4, y5, y6, y7⟩ := both4_bt a2
  obtain ⟨w0, w1, w2, w3⟩ := both2_bt a6
  have e1 : num4 S 2 = a1 := by
    unfold num4
    rw [show bt S 2 = _ from P.n1 0 (by decide), show bt S (2 + 1) = _ from P.n1 1 (by decide), show bt S (2 + 2) = _ from P.n1 2 (by decide), show bt S (2 + 3) = _ from P.n1 3 (by decide)]
    rw [show bt _ ((0 : Nat) : Int) = _ from x0, show bt _ ((1 : Nat) : Int) = _ from x1, show bt _ ((2 : Nat) : Int) = _ from x2, show bt _ ((3 : Nat) : Int) = _ from x3]
    exact bytes4 a1 g1.1 g1.2
  have e3 : num4 S 10 = a2 := by
    unfold num4
    rw [show bt S 10 = _ from P.n2 0 (by decide), show bt S (10 + 1) = _ from P.n2 1 (by decide), show bt S (10 + 2) = _ from P.n2 2 (by decide), show bt S (10 + 3) = _ from P.n2 3 (by decide)]
    rw [show bt _ ((0 : Nat) : Int) = _ from y0, show bt _ ((1 : Nat) : Int) = _ from y1, show bt _ ((2 : Nat) : Int) = _ from y2, show bt _ ((3 : Nat) : Int) = _ from y3]
    exact bytes4 a2 g2.1 g2.2
  have e5 : num2 S 28 = a6 := by
    unfold num2
    rw [show bt S 28 = _ from P.n3 0 (by decide), show bt S (28 + 1) = _ from P.n3 1 (by decide)]
    rw [show bt _ ((0 : Nat) : Int) = _ from w0, show bt _ ((1 : Nat) : Int) = _ from w1]
    exact bytes2 a6 g6.1 g6.2
  refine ⟨?_, ?_, ?_⟩
  · unfold numK; rw [if_pos rfl, e1]
  · unfold numK; rw [if_pos rfl, e3]
  · unfold numK; rw [if_neg (by decide), e5]
theorem encL_append (n : Int) (s1 s2 d : ByteArray) (a5 : Int) (s3 a0 : ByteArray) (t b : List UInt8) : encL n s1 s2 d a5 s3 a0 t ++ b = encL n s1 s2 d a5 s3 a0 (t ++ b) := by
  unfold encL
  simp only [List.append_assoc, List.cons_append]
theorem mk_append (l : List UInt8) (b : ByteArray) : (⟨l.toArray⟩ : ByteArray) ++ b = ⟨(l ++ b.data.toList).toArray⟩ := by
  apply ByteArray.ext
  rw [ByteArray.data_append]
  simp

theorem round1 (a0 : ByteArray) (a1 a2 a3 a4 a5 a6 : Int) (a7 : ByteArray) (h : sizeV a0.size a7.size ≠ 0) (hg : GoodR a1 a2 a3 a4 a5 a6) :
    ∃ s : ByteArray, dirrecord_Encode.f 400 a0 a1 a2 a3 a4 a5 a6 a7 = some (s, 0) ∧ (s.size : Int) = sizeV a0.size a7.size ∧ bt s 0 = sizeV a0.size a7.size ∧
      (∀ b : ByteArray, b.size ≤ 1000000 → dirrecord_Decode.f 400 (s ++ b) = some (a0, a1, a2, a3, a4, a5, a6, a7, sizeV a0.size a7.size, 0)) := by
  obtain ⟨n, m, d, he, hc, hn⟩ := enc_good a0 a1 a2 a3 a4 a5 a6 a7 h hg
  obtain ⟨v, i0, i1, u0, u1, u2, v1, v2⟩ := size_bds h
  obtain ⟨g1, g2, g3, g5, g6⟩ := hg
  have l7 : a7.data.toList.length = a7.size := Array.length_toList
  have P := fun t => parts (sizeV a0.size a7.size) (le4 a1 ++ be4 a1) (le4 a2 ++ be4 a2) (strOfNums (dateL n m d (a3 + 60 * a4) a4)) a5 (le2 a6 ++ be2 a6) a0 t
        (by rw [ByteArray.size_append, le4_len, be4_len]) (by rw [ByteArray.size_append, le4_len, be4_len]) (by simp [dateL, strOfNums, ByteArray.size]) (by rw [ByteArray.size_append, le2_len, be2_len])
  have hpl : ((padL a0).length : Int) = (34 + (a0.size : Int)) / 2 * 2 - 33 - a0.size := by
    unfold padL
    by_cases h2 : (a0.size : Int) % 2 = 0
    · rw [if_pos h2]; show (1 : Int) = _; omega
    · rw [if_neg h2]; show (0 : Int) = _; omega
  have hr := readback a3 a4 n m d g3.1 g3.2 hc hn
  have P0 := P (padL a0 ++ a7.data.toList)
  have hs := P0.size
  rw [List.length_append, l7] at hs
  refine ⟨_, he, ?_, ?_, fun b hb => ?_⟩
  · exact hs.trans (by omega)
  · exact P0.b0.trans (by omega)
  · rw [mk_append, recL, encL_append, List.append_assoc]
    have P1 := P (padL a0 ++ (a7.data.toList ++ b.data.toList))
    have lb : b.data.toList.length = b.size := Array.length_toList
    obtain ⟨k1, k2, k3⟩ := nums_ok1 P1 g1 g2 g6
    rw [dec_parts P1 (by rw [l7]; exact v) (by omega) (by omega) (by rw [l7]; omega) v1 (by rw [lb]; exact hb) g5.1 g5.2 hr, k1, k2, k3, of_toList]

end Go.Proofs.YthblghfobnhoeaaGreat.Q
namespace Go.Proofs.YthblghfobnhoeaaGreat.Q
open Go.RowKit Go.Proofs.YthblghfobnhoeaaGreatW.PrintWords Go.Proofs.YthblghfobnhoeaaGreatW.PrintLast Go.Proofs.YthblghfobnhoeaaGreat.A Go.Proofs.YthblghfobnhoeaaGreat.H
set_option linter.unusedVariables false

/-! directory.Compare is the order of the keys. -/
theorem rank_f (a : ByteArray) : directory_rank.f a = some (rankP a) := by
  unfold directory_rank.f rankP
  split
  · rfl
  · split <;> rfl
theorem rankP_bd (a : ByteArray) : 0 ≤ rankP a ∧ rankP a ≤ 2 := by unfold rankP; split <;> (try split) <;> decide
theorem rankP_same (a b : ByteArray) (h : rankP a = rankP b) (h2 : rankP a < 2) : a = b := by
  have e : a.toList = b.toList := by
    unfold rankP at h h2
    by_cases a0 : a.toList = ([0] : List UInt8)
    · rw [if_pos a0] at h h2
      by_cases b0 : b.toList = ([0] : List UInt8)
      · rw [a0, b0]
      · rw [if_neg b0] at h
        by_cases b1 : b.toList = ([1] : List UInt8)
        · rw [if_pos b1] at h; exact absurd h (by decide)
        · rw [if_neg b1] at h; exact absurd h (by decide)
    · rw [if_neg a0] at h h2
      by_cases a1 : a.toList = ([1] : List UInt8)
      · rw [if_pos a1] at h h2
        by_cases b0 : b.toList = ([0] : List UInt8)
        · rw [if_pos b0] at h; exact absurd h (by decide)
        · rw [if_neg b0] at h
          by_cases b1 : b.toList = ([1] : List UInt8)
          · rw [a1, b1]
          · rw [if_neg b1] at h; exact absurd h (by decide)
      · rw [if_neg a1] at h2; exact absurd h2 (by decide)
  rw [Lib.toList_data, Lib.toList_data] at e
  exact ByteArray.ext (Array.toList_inj.1 e)
theorem cmpInt_f (x y : Int) : cmp_Compare_int.f x y = some (cmpV x y) := by
  unfold cmp_Compare_int.f cmp_isNaN_int.f
  have h1 : (x != x) = false := bne_self_eq_false x
  have h2 : (y != y) = false := bne_self_eq_false y
  simp only [Option.bind_some, h1, h2, Bool.false_eq_true, if_false]
  unfold cmpV
  split
  · rfl
  · split <;> rfl

/-! ### The parts -/
theorem idx_tw (cs : List UInt8) : ∀ l : List UInt8, Lib.indexAny l cs = if l.dropWhile (fun c => !cs.contains c) = [] then -1 else ((l.takeWhile (fun c => !cs.contains c)).length : Int)
  | [] => rfl
  | b :: l => by
    rw [Lib.indexAny, idx_tw cs l, List.dropWhile_cons, List.takeWhile_cons]
    cases hb : cs.contains b
    · simp only [Bool.not_false, if_true, Bool.false_eq_true, if_false]
      by_cases h : l.dropWhile (fun c => !cs.contains c) = []
      · rw [if_pos h, if_pos h]; rfl
      · rw [if_neg h, if_neg h]
        rw [if_neg (by rw [beq_iff_eq]; omega), List.length_cons]; push_cast; rfl
    · simp
theorem idxb_tw (c : UInt8) : ∀ l : List UInt8, Lib.indexByte l c = if l.dropWhile (fun x => !(x == c)) = [] then -1 else ((l.takeWhile (fun x => !(x == c))).length : Int)
  | [] => rfl
  | b :: l => by
    rw [Lib.indexByte, idxb_tw c l, List.dropWhile_cons, List.takeWhile_cons]
    cases hb : b == c
    · simp only [Bool.not_false, if_true, Bool.false_eq_true, if_false]
      by_cases h : l.dropWhile (fun x => !(x == c)) = []
      · rw [if_pos h, if_pos h]; rfl
      · rw [if_neg h, if_neg h]
        rw [if_neg (by rw [beq_iff_eq]; omega), List.length_cons]; push_cast; rfl
    · simp
theorem dot_contains : (fun c : UInt8 => !([46, 59] : List UInt8).contains c) = fun c => !isDot c := by
  funext c
  unfold isDot
  cases h1 : c == 46 <;> cases h2 : c == 59 <;> simp [List.contains, List.elem, h1, h2]
theorem tw_take (p : UInt8 → Bool) (l : List UInt8) : l.take (l.takeWhile p).length = l.takeWhile p := by
  conv => lhs; rw [← List.takeWhile_append_dropWhile (p := p) (l := l)]
  rw [List.take_append_of_le_length (by
    have : (List.takeWhile p (List.takeWhile p l ++ List.dropWhile p l)) = List.takeWhile p l := by rw [List.takeWhile_append_dropWhile]
    rw [this]; exact Nat.le_refl _)]
  have : (List.takeWhile p (List.takeWhile p l ++ List.dropWhile p l)) = List.takeWhile p l := by rw [List.takeWhile_append_dropWhile]
  rw [this, List.take_length]
theorem tw_drop (p : UInt8 → Bool) (l : List UInt8) : l.drop (l.takeWhile p).length = l.dropWhile p := by
  have h := List.takeWhile_append_dropWhile (p := p) (l := l)
  have h2 : (l.takeWhile p ++ l.dropWhile p).drop (l.takeWhile p).length = l.dropWhile p := List.drop_left
  rw [h] at h2
  exact h2
theorem ext_drop (s : ByteArray) (a : Nat) : (s.extract a s.size).data.toList = s.data.toList.drop a := by
  have := ext_l s.data.toList a s.size
  rw [of_toList] at this
  rw [this]
  show (s.data.toList.drop a).take (s.size - a) = _
  rw [List.take_of_length_le]
  rw [List.length_drop, Array.length_toList]; exact Nat.le_refl _
theorem ext_take (s : ByteArray) (a : Nat) : (s.extract 0 a).data.toList = s.data.toList.take a := by
  have := ext_l s.data.toList 0 a
  rw [of_toList] at this
  rw [this]; rfl
theorem ba_ext {a b : ByteArray} (h : a.data.toList = b.data.toList) : a = b := ByteArray.ext (Array.toList_inj.1 h)
def mkB (l : List UInt8) : ByteArray := ⟨l.toArray⟩
theorem mkB_list (l : List UInt8) : (mkB l).data.toList = l := rfl
theorem mkB_size (l : List UInt8) : (mkB l).size = l.length := bytes_size l
theorem bt_head (s : ByteArray) (i : Nat) (c : UInt8) (r : List UInt8) (h : s.data.toList.drop i = c :: r) : bt s (i : Int) = (c.toNat : Int) := by
  rw [bt_bl]
  unfold bl
  have := congrArg (fun l => l[0]?) h
  simp only [List.getElem?_drop, Nat.add_zero, List.getElem?_cons_zero] at this
  rw [this]; rfl
theorem cut_f (s : ByteArray) (hs : s.size ≤ 1000000) : strings_Cut.f s (⟨#[59]⟩ : ByteArray) = some (mkB (s.data.toList.takeWhile fun c => !(c == 59)), mkB ((s.data.toList.dropWhile fun c => !(c == 59)).drop 1), !(s.data.toList.dropWhile fun c => !(c == 59)).isEmpty) := by
  unfold strings_Cut.f stringslite_Cut.f stringslite_Index.f
  have hg : (⟨#[59]⟩ : ByteArray).get! 0 = 59 := rfl
  rw [if_pos (show (⟨#[59]⟩ : ByteArray).size = 1 from rfl), hg, idxb_tw]
  have htd := tw_dw (fun c => !(c == 59)) s.data.toList
  have hl : s.data.toList.length = s.size := Array.length_toList
  by_cases h : s.data.toList.dropWhile (fun x => !(x == 59)) = []
  · rw [if_pos h, Option.bind_some, if_neg (by decide), Option.bind_some, h]
    rw [h, List.length_nil] at htd
    have : s.data.toList.takeWhile (fun c => !(c == 59)) = s.data.toList := by
      conv => rhs; rw [← List.takeWhile_append_dropWhile (p := fun c : UInt8 => !(c == 59)) (l := s.data.toList), h, List.append_nil]
    rw [this]
    rfl
  · have hp : 0 < (s.data.toList.dropWhile (fun x => !(x == 59))).length := List.length_pos_iff.2 h
    have h1 : (⟨#[59]⟩ : ByteArray).size = 1 := rfl
    rw [if_neg h, Option.bind_some, if_pos (by omega), if_pos (by omega), if_pos (by omega), h1, wrap_id (by omega) (by omega), if_pos (by omega), if_pos (by omega), Option.bind_some]
    congr 2
    · apply ba_ext
      rw [ext_take, mkB_list, Int.toNat_natCast, tw_take]
    · congr 1
      · apply ba_ext
        rw [ext_drop, mkB_list, show (((s.data.toList.takeWhile fun x => !(x == 59)).length : Int) + ((1 : Nat) : Int)).toNat = (s.data.toList.takeWhile fun x => !(x == 59)).length + 1 by omega, ← List.drop_drop, tw_drop]
      · symm
        cases hh : s.data.toList.dropWhile (fun x => !(x == 59)) with
        | nil => exact absurd hh h
        | cons a b => rfl
theorem parts_f (s : ByteArray) (hs : s.size ≤ 1000000) : directory_parts.f s = some (mkB (partsL s.data.toList).1, mkB (partsL s.data.toList).2.1, mkB (partsL s.data.toList).2.2) := by
  unfold directory_parts.f strings_IndexAny.f
  rw [if_pos ⟨rfl, by omega⟩, idx_tw, dot_contains, Option.bind_some]
  have htd := tw_dw (fun c => !isDot c) s.data.toList
  have hl : s.data.toList.length = s.size := Array.length_toList
  unfold partsL
  cases h : s.data.toList.dropWhile (fun c => !isDot c) with
  | nil =>
    rw [if_pos rfl, if_pos (by decide)]
    rfl
  | cons c r =>
    rw [h, List.length_cons] at htd
    have hd : s.data.toList.drop (s.data.toList.takeWhile fun c => !isDot c).length = c :: r := by rw [tw_drop, h]
    have hw : wrap64 (((s.data.toList.takeWhile fun c => !isDot c).length : Int) + 1) = (((s.data.toList.takeWhile fun c => !isDot c).length + 1 : Nat) : Int) := by rw [wrap_id (by omega) (by omega)]; omega
    have hr : (s.extract ((s.data.toList.takeWhile fun c => !isDot c).length + 1) s.size).data.toList = r := by rw [ext_drop, ← List.drop_drop, hd]; rfl
    have hrs : (s.extract ((s.data.toList.takeWhile fun c => !isDot c).length + 1) s.size).size = r.length := by rw [← hr]; exact Array.length_toList.symm
    have hn : s.extract 0 (s.data.toList.takeWhile fun c => !isDot c).length = mkB (s.data.toList.takeWhile fun c => !isDot c) := ba_ext (by rw [ext_take, tw_take]; rfl)
    rw [if_neg (List.cons_ne_nil c r), if_neg (by omega), if_pos (by omega), if_pos (by omega), hw, if_pos (by omega), if_pos (by omega), if_pos (by omega), bt_head s _ c r hd, Int.toNat_natCast, Int.toNat_natCast, hn]
    by_cases hc : c = 59
    · rw [if_pos (by rw [hc]; rfl)]
      simp only [hc, if_true]
      rw [show s.extract ((s.data.toList.takeWhile fun c => !isDot c).length + 1) s.size = mkB r from ba_ext hr]
      rfl
    · rw [if_neg (fun hh => hc (UInt8.toNat_inj.1 (by have : (c.toNat : Int) = 59 := hh; show c.toNat = 59; omega)))]
      simp only [hc, if_false]
      rw [cut_f _ (by omega), Option.bind_some, hr]

/-! ### The whole -/
theorem behind_f (a b : ByteArray) (f : Int) (ha : a.size ≤ 1000) (hb : b.size ≤ 1000) : directory_behind.f a b f = some (cmpK (keyF a.data.toList f 1000) (keyF b.data.toList f 1000)) := by
  unfold directory_behind.f
  rw [if_pos ⟨by omega, by omega⟩, bh_cmp a b f 1000 ha hb]
theorem or_f (k : Nat) (x y : Int) : cmp_Or_int.f (k + 3) [x, y] = some (if x = 0 then y else x) := by
  unfold cmp_Or_int.f
  have h0 : rd [x, y] 0 = x := rfl
  have h1 : rd [x, y] 1 = y := rfl
  have hl : (([x, y] : List Int).length : Int) = 2 := rfl
  have w1 : wrap64 ((0 : Int) + 1) = 1 := wrap_id (by decide) (by decide)
  have w2 : wrap64 ((1 : Int) + 1) = 2 := wrap_id (by decide) (by decide)
  rw [hl, cmp_Or_int.l0, if_pos (by decide), if_pos (by decide), hl, if_pos (by decide), h0]
  by_cases hx : x = 0
  · rw [if_pos hx, w1, cmp_Or_int.l0, if_pos (by decide), if_pos (by decide), hl, if_pos (by decide), h1, if_pos hx]
    by_cases hy : y = 0
    · rw [if_pos hy, w2, cmp_Or_int.l0, if_neg (by decide), hy]
    · rw [if_neg hy]
  · rw [if_neg hx, if_neg hx]
theorem repeat_list (n : Nat) : Lib.repeatL [48] n = List.replicate n 48 := by
  induction n with
  | zero => rfl
  | succ n ih => rw [Lib.repeatL, ih]; rfl
theorem repeat_f (n : Nat) (h : n ≤ 1000000) : strings_Repeat.f (⟨#[48]⟩ : ByteArray) (n : Int) = some (mkB (List.replicate n 48)) := by
  unfold strings_Repeat.f
  rw [if_pos ⟨by omega, by omega, by decide⟩]
  have : (⟨#[48]⟩ : ByteArray).data.toList = [48] := rfl
  rw [this, Int.toNat_natCast, repeat_list]; rfl
theorem mx_nat (a b : Nat) : mx (a : Int) (b : Int) = ((max a b : Nat) : Int) := by unfold mx; split <;> omega
theorem vers_f (v z : List UInt8) (n : Nat) (hn : n = max v.length z.length) (h : n ≤ 1000) :
    strings_Compare.f ((mkB (List.replicate n 48)).extract z.length (mkB (List.replicate n 48)).size ++ mkB z) ((mkB (List.replicate n 48)).extract v.length (mkB (List.replicate n 48)).size ++ mkB v) = some (cmpK (verK v 1000) (verK z 1000)) := by
  unfold strings_Compare.f
  have e : ∀ x : List UInt8, ((mkB (List.replicate n 48)).extract x.length (mkB (List.replicate n 48)).size ++ mkB x).data.toList = List.replicate (n - x.length) 48 ++ x := by
    intro x
    rw [ByteArray.data_append, Array.toList_append, ext_drop, mkB_list, mkB_list, List.drop_replicate]
  have hv : v.length ≤ n := by omega
  have hz : z.length ≤ n := by omega
  rw [e z, e v, compareBytes_key _ _ (by rw [List.length_append, List.length_append, List.length_replicate, List.length_replicate]; omega), ver_cmp v z n hv hz h]
  have e2 : ∀ (m : Nat) (x : List UInt8), bl2 (List.replicate m 48 ++ x) = List.replicate m (48 : Int) ++ bl2 x := by
    intro m x; unfold bl2; rw [List.map_append, List.map_replicate]; rfl
  rw [e2, e2]
theorem cmp_j0_end (k : Nat) (a b : ByteArray) (w : Bool) (c : Int) : directory_Compare.j0 (k + 1) a b w c true = some c := by rw [directory_Compare.j0, if_pos rfl]
theorem cmp_j0 (k : Nat) (a b : ByteArray) (w : Bool) (c : Int) (ha : a.size ≤ 1000) (hb : b.size ≤ 1000) : directory_Compare.j0 (k + 4) a b w c false = some (cmpK (keyR w a) (keyR w b)) := by
  have la : a.data.toList.length = a.size := Array.length_toList
  have lb : b.data.toList.length = b.size := Array.length_toList
  obtain ⟨pa1, pa2, pa3⟩ := parts_len a.data.toList
  obtain ⟨pb1, pb2, pb3⟩ := parts_len b.data.toList
  rw [directory_Compare.j0, if_neg (by decide)]
  unfold keyR
  cases w
  · rw [if_neg (by decide), if_neg (by decide), if_neg (by decide), parts_f a (by omega), parts_f b (by omega), Option.bind_some, Option.bind_some]
    rw [behind_f _ _ 32 (by rw [mkB_size]; omega) (by rw [mkB_size]; omega), Option.bind_some, behind_f _ _ 32 (by rw [mkB_size]; omega) (by rw [mkB_size]; omega), Option.bind_some, or_f, Option.bind_some]
    simp only [mkB_list, mkB_size]
    generalize hA : partsL a.data.toList = A at *
    generalize hB : partsL b.data.toList = B at *
    have l1 : (keyF A.1 32 1000).length = (keyF B.1 32 1000).length := by rw [keyF_length _ _ _ (by omega), keyF_length _ _ _ (by omega)]
    have l2 : (keyF A.2.1 32 1000).length = (keyF B.2.1 32 1000).length := by rw [keyF_length _ _ _ (by omega), keyF_length _ _ _ (by omega)]
    rw [cmpK_app _ _ _ _ l1, cmpK_app _ _ _ _ l2]
    by_cases c1 : cmpK (keyF A.1 32 1000) (keyF B.1 32 1000) = 0
    · simp only [c1, if_true]
      by_cases c2 : cmpK (keyF A.2.1 32 1000) (keyF B.2.1 32 1000) = 0
      · simp only [c2, if_true]
        rw [mx_nat, repeat_f _ (by omega), Option.bind_some]
        have hz : (mkB (List.replicate (max A.2.2.length B.2.2.length) 48)).size = max A.2.2.length B.2.2.length := by rw [mkB_size, List.length_replicate]
        have e : ∀ m : Nat, ((mkB (List.replicate (max A.2.2.length B.2.2.length) 48)).extract m (mkB (List.replicate (max A.2.2.length B.2.2.length) 48)).size).size = max A.2.2.length B.2.2.length - m := by
          intro m
          have h := congrArg List.length (ext_drop (mkB (List.replicate (max A.2.2.length B.2.2.length) 48)) m)
          rw [Array.length_toList, List.length_drop, mkB_list, List.length_replicate] at h
          exact h
        rw [if_pos (by omega), if_pos (by rw [hz]; omega), Int.toNat_natCast, e, if_pos (by omega), if_pos (by omega), if_pos (by rw [hz]; omega), Int.toNat_natCast, e, if_pos (by omega), vers_f A.2.2 B.2.2 _ rfl (by omega), Option.bind_some]
      · simp only [c2, if_false]
    · simp only [c1, if_false]
  · rw [if_pos rfl, if_pos rfl, if_pos rfl, behind_f a b 0 ha hb, Option.bind_some]
/-- directory.Compare tells the order of the keys. -/
theorem compare_f (a b : ByteArray) (w : Bool) (ha : a.size ≤ 1000) (hb : b.size ≤ 1000) (k : Nat) (hk : 4 ≤ k) : directory_Compare.f k a b w = some (cmpK (key w a) (key w b)) := by
  obtain ⟨k, rfl⟩ : ∃ m, k = m + 4 := ⟨k - 4, by omega⟩
  unfold directory_Compare.f key
  rw [rank_f, rank_f, Option.bind_some, Option.bind_some, cmpInt_f, Option.bind_some, cmpK]
  have ra := rankP_bd a
  have rb := rankP_bd b
  rcases cmpV_cases (rankP a) (rankP b) with h | h | h
  · rw [h.2, if_neg (by decide), cmp_j0_end, if_neg (by decide)]
  · rw [h.2, if_pos rfl, Option.bind_some, if_pos rfl]
    by_cases h2 : rankP a < 2
    · rw [decide_eq_true h2, cmp_j0_end, rankP_same a b h.1 h2, cmpK_self]
    · rw [decide_eq_false h2, cmp_j0 k a b w 0 ha hb]
  · rw [h.2, if_neg (by decide), cmp_j0_end, if_neg (by decide)]

end Go.Proofs.YthblghfobnhoeaaGreat.Q
namespace Go.Proofs.YthblghfobnhoeaaGreat.Q
open Go.RowKit Go.Proofs.YthblghfobnhoeaaGreatW.PrintWords Go.Proofs.YthblghfobnhoeaaGreatW.PrintLast Go.Proofs.YthblghfobnhoeaaGreat.A Go.Proofs.YthblghfobnhoeaaGreat.H
set_option linter.unusedVariables false

/-! What directory.Encode returns. -/
abbrev Dr := S45
/-- What dirrecord.Encode tells of a record. -/
def encK (k : Nat) (x : Dr) : Option (ByteArray × Int) := dirrecord_Encode.f k x.f0 x.f1 x.f2 x.f3 x.f4 x.f5 x.f6 x.f7
def encR (x : Dr) : ByteArray × Int := (encK 400 x).getD (⟨#[]⟩, 0)
def SmallR (x : Dr) : Prop := x.f0.size ≤ 1000 ∧ x.f7.size ≤ 1000
theorem enc_cases (x : Dr) (h : SmallR x) : (∃ e, encK 400 x = some (⟨#[]⟩, e) ∧ e ≠ 0) ∨ (sizeV x.f0.size x.f7.size ≠ 0 ∧ GoodR x.f1 x.f2 x.f3 x.f4 x.f5 x.f6) := by
  by_cases hs : sizeV x.f0.size x.f7.size = 0
  · refine .inl ⟨_, enc_nosize x.f0 x.f1 x.f2 x.f3 x.f4 x.f5 x.f6 x.f7 (by have := h.1; omega) (by have := h.2; omega) hs, ?_⟩
    split <;> (try split) <;> decide
  · by_cases hg : GoodR x.f1 x.f2 x.f3 x.f4 x.f5 x.f6
    · exact .inr ⟨hs, hg⟩
    · exact .inl ⟨_, enc_bad x.f0 x.f1 x.f2 x.f3 x.f4 x.f5 x.f6 x.f7 hs hg, by decide⟩
theorem enc400 (x : Dr) (h : SmallR x) : encK 400 x = some (encR x) := by
  rcases enc_cases x h with ⟨e, he, _⟩ | ⟨hs, hg⟩
  · unfold encR; rw [he]; rfl
  · obtain ⟨s, he, _⟩ := round1 x.f0 x.f1 x.f2 x.f3 x.f4 x.f5 x.f6 x.f7 hs hg
    have he : encK 400 x = some (s, 0) := he
    unfold encR; rw [he]; rfl
theorem encK_eq (x : Dr) (h : SmallR x) (k : Nat) (hk : 400 ≤ k) : encK k x = some (encR x) :=
  lift_le (fun k => dirrecord_Encode.mono _ _ _ _ _ _ _ _ k) hk (enc400 x h)
/-- A record that is encoded. -/
structure Coded (x : Dr) : Prop where
  err : (encR x).2 = 0
  ok : okS ((encR x).1.size : Int) = true
  size : ((encR x).1.size : Int) = sizeV x.f0.size x.f7.size
  first : bt (encR x).1 0 = ((encR x).1.size : Int)
  back : ∀ (b : ByteArray) (k : Nat), b.size ≤ 1000000 → 400 ≤ k → dirrecord_Decode.f k ((encR x).1 ++ b) = some (x.f0, x.f1, x.f2, x.f3, x.f4, x.f5, x.f6, x.f7, ((encR x).1.size : Int), 0)
theorem coded_of (x : Dr) (h : SmallR x) (h0 : (encR x).2 = 0) : Coded x := by
  rcases enc_cases x h with ⟨e, he, hne⟩ | ⟨hs, hg⟩
  · exfalso; unfold encR at h0; rw [he] at h0; exact hne h0
  · obtain ⟨s, he, h1, h2, h3⟩ := round1 x.f0 x.f1 x.f2 x.f3 x.f4 x.f5 x.f6 x.f7 hs hg
    have he : encK 400 x = some (s, 0) := he
    have hx : encR x = (s, 0) := by unfold encR; rw [he]; rfl
    have hb := size_bds hs
    exact ⟨by rw [hx], by rw [hx, okS_iff]; show 34 ≤ (s.size : Int) ∧ (s.size : Int) ≤ 254 ∧ (s.size : Int) % 2 = 0; omega, by rw [hx]; exact h1, by rw [hx]; exact h2.trans h1.symm, fun b k hb hk => by
      rw [hx]
      show dirrecord_Decode.f k (s ++ b) = _
      rw [lift_le (fun k => dirrecord_Decode.mono _ k) hk (h3 b hb), ← h1]⟩
theorem err_empty (x : Dr) (h : SmallR x) (h0 : (encR x).2 ≠ 0) : (encR x).1 = ⟨#[]⟩ := by
  rcases enc_cases x h with ⟨e, he, hne⟩ | ⟨hs, hg⟩
  · unfold encR; rw [he]; rfl
  · obtain ⟨s, he, h1, h2, h3⟩ := round1 x.f0 x.f1 x.f2 x.f3 x.f4 x.f5 x.f6 x.f7 hs hg
    have he : encK 400 x = some (s, 0) := he
    exact absurd (by unfold encR; rw [he]; rfl) h0

def bad? (l : List Dr) : Option Dr := l.find? fun x => !((encR x).2 == 0)
def codes (l : List Dr) : List ByteArray := l.map fun x => (encR x).1
def sizesOf (l : List ByteArray) : List Int := l.map fun s => (s.size : Int)

theorem rd_rec (l : List Dr) (i : Nat) (h : i < l.length) : rd_T45 l (i : Int) = l[i] := by
  unfold rd_T45
  rw [Int.toNat_natCast, List.getD_eq_getElem?_getD, List.getElem?_eq_getElem h]; rfl
theorem enc_l0 (l : List Dr) (hl : l.length ≤ 1100) (hz : ∀ x ∈ l, SmallR x) (j : Nat) : ∀ (k i : Nat) (R : List ByteArray) (S : List Int), i + j = l.length → j + 402 ≤ k → R.length = i → S.length = i →
    directory_Encode.l0 k R S l (l.length : Int) (i : Int) = match bad? (l.drop i) with
      | some x => some (⟨#[]⟩, (encR x).2)
      | none => directory_Encode.l0 (k - j) (R ++ codes (l.drop i)) (S ++ sizesOf (codes (l.drop i))) l (l.length : Int) (l.length : Int) := by
  induction j with
  | zero =>
    intro k i R S hij hk hR hS
    rw [List.drop_of_length_le (by omega)]
    simp only [bad?, List.find?_nil, codes, sizesOf, List.map_nil, List.append_nil, Nat.sub_zero]
    rw [show i = l.length by omega]
  | succ j ih =>
    intro k i R S hij hk hR hS
    obtain ⟨k, rfl⟩ : ∃ m, k = m + 1 := ⟨k - 1, by omega⟩
    have hi : i < l.length := by omega
    have hw : wrap64 ((i : Int) + 1) = ((i + 1 : Nat) : Int) := by rw [wrap_id (by omega) (by omega)]; push_cast; rfl
    rw [directory_Encode.l0, if_pos (by omega), if_pos (by omega), if_pos (by omega), rd_rec l i hi, List.drop_eq_getElem_cons hi]
    have hx := hz l[i] (List.getElem_mem hi)
    generalize l[i] = x at hx
    have he := encK_eq x hx k (by omega)
    unfold encK at he
    rw [he, Option.bind_some]
    by_cases h0 : (encR x).2 = 0
    · have hb : bad? (x :: l.drop (i + 1)) = bad? (l.drop (i + 1)) := by
        unfold bad?
        rw [List.find?_cons, h0]; rfl
      rw [if_pos h0, if_pos (by omega), if_pos (by omega), hw, ih k (i + 1) _ _ (by omega) (by omega) (by rw [List.length_append, hR]; rfl) (by rw [List.length_append, hS]; rfl), hb, Nat.add_sub_add_right]
      simp only [codes, sizesOf, List.map_cons, List.append_assoc, List.singleton_append]
    · have hb : bad? (x :: l.drop (i + 1)) = some x := by
        unfold bad?
        rw [List.find?_cons, show (!((encR x).2 == 0)) = true by simp [h0]]
      rw [if_neg h0, hb]

/-- Bytes laid one behind the other, each in its block. -/
def zb (n : Int) : List UInt8 := List.replicate n.toNat 0
def lay : Int → List ByteArray → List UInt8
  | _, [] => []
  | p, r :: t => zb (place p r.size - p) ++ (r.data.toList ++ lay (place p r.size + r.size) t)
theorem lay_length : ∀ (l : List ByteArray) (p : Int), 0 ≤ p → (∀ n ∈ sizesOf l, okS n = true) → ((lay p l).length : Int) = endOf p (sizesOf l) - p
  | [], p, _, _ => by simp [lay, sizesOf, endOf]
  | r :: t, p, h, hl => by
    have hn := (okS_iff _).1 (hl (r.size : Int) (by simp [sizesOf]))
    have hb := place_bd (p := p) (n := r.size) h ⟨hn.1, hn.2.1⟩
    have := lay_length t (place p r.size + r.size) (by omega) (fun n hn => hl n (by simp only [sizesOf, List.map_cons, List.mem_cons] at hn ⊢; exact .inr hn))
    have hs : (r.data.toList.length : Int) = r.size := by rw [Array.length_toList]; rfl
    rw [lay, List.length_append, List.length_append, zb, List.length_replicate]
    simp only [sizesOf, List.map_cons, endOf] at this ⊢
    push_cast
    omega

theorem layAll_eq : ∀ (vs xs : List Int) (n : Nat), n + vs.length ≤ xs.length → layAll xs n vs = xs.take n ++ (vs ++ xs.drop (n + vs.length))
  | [], xs, n, h => by simp [layAll]
  | v :: t, xs, n, h => by
    rw [List.length_cons] at h
    rw [layAll, layAll_eq t (xs.set n v) (n + 1) (by rw [List.length_set]; omega)]
    rw [List.take_set, List.drop_set_of_lt (by omega), List.length_cons]
    have hlt : n < (xs.take (n + 1)).length := by rw [List.length_take]; omega
    have : (xs.take (n + 1)).set n v = xs.take n ++ [v] := by
      apply List.ext_getElem?
      intro q
      rw [List.getElem?_set]
      rcases Nat.lt_trichotomy q n with hq | hq | hq
      · rw [if_neg (by omega), List.getElem?_append_left (by rw [List.length_take]; omega), List.getElem?_take, List.getElem?_take, if_pos (by omega), if_pos (by omega)]
      · subst hq
        rw [if_pos rfl, if_pos hlt, List.getElem?_append_right (by rw [List.length_take]; omega), List.length_take, show q - min q xs.length = 0 by omega]; rfl
      · rw [if_neg (by omega), List.getElem?_eq_none (by rw [List.length_take]; omega), List.getElem?_eq_none (by rw [List.length_append, List.length_take, List.length_singleton]; omega)]
    rw [this, List.append_assoc, show n + 1 + t.length = n + (t.length + 1) by omega]
    rfl
theorem layAll_zero (P vs : List Int) (m q : Nat) (hq : P.length ≤ q) (hm : q + vs.length ≤ P.length + m) :
    layAll (P ++ List.replicate m 0) q vs = (P ++ (List.replicate (q - P.length) 0 ++ vs)) ++ List.replicate (P.length + m - (q + vs.length)) 0 := by
  rw [layAll_eq _ _ _ (by rw [List.length_append, List.length_replicate]; omega)]
  rw [List.take_append, List.take_of_length_le hq, List.take_replicate, List.drop_append, List.drop_of_length_le (by omega), List.nil_append, List.drop_replicate]
  rw [show min (q - P.length) m = q - P.length by omega, show m - (q + vs.length - P.length) = P.length + m - (q + vs.length) by omega]
  simp only [List.append_assoc]

theorem strOfNums_app (a b : List Int) : strOfNums (a ++ b) = strOfNums a ++ strOfNums b := by
  apply ByteArray.ext
  rw [ByteArray.data_append]
  simp [strOfNums]
theorem strOfNums_bytes (r : ByteArray) : strOfNums (bytesNum r) = r := by
  apply ByteArray.ext
  apply Array.toList_inj.1
  show ((r.data.toList.map fun x => (x.toNat : Int)).map fun n => UInt8.ofNat n.toNat) = r.data.toList
  rw [List.map_map]
  conv => rhs; rw [← List.map_id r.data.toList]
  apply List.map_congr_left
  intro x _
  simp
/-- The same as numbers. -/
def numL (l : List UInt8) : List Int := l.map fun x => (x.toNat : Int)
theorem numL_app (a b : List UInt8) : numL (a ++ b) = numL a ++ numL b := List.map_append
theorem numL_length (l : List UInt8) : (numL l).length = l.length := List.length_map _
theorem numL_zb (n : Nat) : numL (List.replicate n 0) = List.replicate n 0 := by unfold numL; rw [List.map_replicate]; rfl
theorem strOfNums_numL (l : List UInt8) : strOfNums (numL l) = ⟨l.toArray⟩ := by
  have := strOfNums_bytes ⟨l.toArray⟩
  exact this
theorem rdOf_nat (l : List ByteArray) (i : Nat) (h : i < l.length) : rdOf ByteArray.empty l (i : Int) = l[i] := by
  unfold rdOf
  rw [Int.toNat_natCast, List.getD_eq_getElem?_getD, List.getElem?_eq_getElem h]; rfl
theorem offs_get : ∀ (l : List Int) (p : Int) (i : Nat) (h : i < l.length), (offs p l)[i]'(by rw [offs_length]; exact h) = place (endOf p (l.take i)) l[i]
  | n :: t, p, 0, h => rfl
  | n :: t, p, i + 1, h => by
    have h2 : i < t.length := by rw [List.length_cons] at h; omega
    simp only [offs, List.getElem_cons_succ, List.take_succ_cons, endOf]
    exact offs_get t (place p n + n) i h2
theorem endOf_snoc : ∀ (l : List Int) (p n : Int), endOf p (l ++ [n]) = place (endOf p l) n + n
  | [], p, n => rfl
  | m :: t, p, n => by rw [List.cons_append, endOf, endOf, endOf_snoc t]
theorem lay_snoc : ∀ (l : List ByteArray) (p : Int) (r : ByteArray), lay p (l ++ [r]) = lay p l ++ (zb (place (endOf p (sizesOf l)) r.size - endOf p (sizesOf l)) ++ r.data.toList)
  | [], p, r => by simp [lay, sizesOf, endOf]
  | m :: t, p, r => by
    rw [List.cons_append, lay, lay, lay_snoc t]
    simp only [sizesOf, List.map_cons, endOf, List.append_assoc]

theorem enc_l1 (R : List ByteArray) (hR : R.length ≤ 1100) (hok : ∀ n ∈ sizesOf R, okS n = true) (M : Nat) (hM : endOf 0 (sizesOf R) ≤ (M : Int)) (j : Nat) : ∀ (k i m : Nat) (X : List UInt8), i + j = R.length → j + 1 ≤ k → X = lay 0 (R.take i) → X.length + m = M →
    directory_Encode.l1 k R (numL X ++ List.replicate m 0) (offs 0 (sizesOf R)) ((offs 0 (sizesOf R)).length : Int) (i : Int) = some (⟨(lay 0 R ++ List.replicate (M - (lay 0 R).length) 0).toArray⟩, 0) := by
  have hSl : (sizesOf R).length = R.length := List.length_map _
  have hol : (offs 0 (sizesOf R)).length = R.length := by rw [offs_length, hSl]
  induction j with
  | zero =>
    intro k i m X hij hk hX hm
    obtain ⟨k, rfl⟩ : ∃ m, k = m + 1 := ⟨k - 1, by omega⟩
    rw [directory_Encode.l1, if_neg (by omega)]
    have hXR : X = lay 0 R := by rw [hX, List.take_of_length_le (by omega)]
    rw [← hXR, show M - X.length = m by omega, ← numL_zb, ← numL_app, strOfNums_numL]
  | succ j ih =>
    intro k i m X hij hk hX hm
    obtain ⟨k, rfl⟩ : ∃ m, k = m + 1 := ⟨k - 1, by omega⟩
    have hi : i < R.length := by omega
    have hw : wrap64 ((i : Int) + 1) = ((i + 1 : Nat) : Int) := by rw [wrap_id (by omega) (by omega)]; push_cast; rfl
    have htk : sizesOf (R.take i) = (sizesOf R).take i := List.map_take ..
    have hXl : (X.length : Int) = endOf 0 ((sizesOf R).take i) := by
      rw [hX, lay_length _ _ (Int.le_refl _) (fun n hn => hok n (by rw [htk] at hn; exact List.mem_of_mem_take hn)), htk]; omega
    have hgs : (sizesOf R)[i]'(by omega) = (R[i].size : Int) := List.getElem_map _
    have hn := (okS_iff _).1 (hok (R[i].size : Int) (by rw [← hgs]; exact List.getElem_mem _))
    have he := endOf_bd ((sizesOf R).take i) 0 (Int.le_refl _) (fun n hn => hok n (List.mem_of_mem_take hn))
    have hrd : rd (offs 0 (sizesOf R)) (i : Int) = place X.length R[i].size := by
      rw [rd_nat _ _ (by omega), offs_get _ _ _ (by omega), hgs, hXl]
    have hb := place_bd (p := X.length) (n := R[i].size) (by omega) ⟨hn.1, hn.2.1⟩
    have hle : place X.length R[i].size + R[i].size ≤ endOf 0 (sizesOf R) := by
      have h1 : sizesOf R = (sizesOf R).take (i + 1) ++ (sizesOf R).drop (i + 1) := (List.take_append_drop _ _).symm
      have h2 : ∀ (a b : List Int) (p : Int), endOf p (a ++ b) = endOf (endOf p a) b := by
        intro a; induction a with
        | nil => intro b p; rfl
        | cons x t ih => intro b p; rw [List.cons_append, endOf, endOf, ih]
      rw [h1, h2, List.take_succ_eq_append_getElem (by omega), endOf_snoc, hgs, ← hXl]
      exact (endOf_bd _ _ (by omega) (fun n hn => hok n (List.mem_of_mem_drop hn))).1
    have hcl : (numL X ++ List.replicate m (0 : Int)).length = M := by rw [List.length_append, numL_length, List.length_replicate]; exact hm
    have f0 : (0 : Int) ≤ (i : Int) := Int.natCast_nonneg i
    have f1 : (i : Int) < ((offs 0 (sizesOf R)).length : Int) := by rw [hol]; exact Int.ofNat_lt.2 hi
    have f2 : (i : Int) < (R.length : Int) := Int.ofNat_lt.2 hi
    have f3 : 0 ≤ place X.length R[i].size := Int.le_trans (Int.natCast_nonneg _) hb.1
    have f5 : place X.length R[i].size + (R[i].size : Int) ≤ (M : Int) := Int.le_trans hle hM
    have f4 : place X.length R[i].size < (M : Int) := by omega
    rw [directory_Encode.l1, if_pos f1, if_pos f0, if_pos f1, hrd, if_pos f3, hcl, if_pos f4, if_pos f2, rdOf_nat R i hi, if_pos f5, hw]
    have hbl : (bytesNum R[i]).length = R[i].size := by unfold bytesNum; rw [List.length_map, Array.length_toList]; rfl
    rw [layAll_zero (numL X) (bytesNum R[i]) m _ (by rw [numL_length]; omega) (by rw [numL_length, hbl]; omega), numL_length, hbl]
    have hx2 : numL X ++ (List.replicate ((place X.length R[i].size).toNat - X.length) 0 ++ bytesNum R[i]) = numL (X ++ (zb (place X.length R[i].size - X.length) ++ R[i].data.toList)) := by
      rw [numL_app, numL_app, zb, numL_zb]
      congr 3
      omega
    rw [hx2]
    refine ih k (i + 1) _ (X ++ (zb (place X.length R[i].size - X.length) ++ R[i].data.toList)) (by omega) (by omega) ?_ ?_
    · rw [List.take_succ_eq_append_getElem hi, lay_snoc, ← hX, htk, ← hXl]
    · have hs : R[i].data.toList.length = R[i].size := Array.length_toList
      rw [List.length_append, List.length_append, zb, List.length_replicate, hs]
      omega

/-- What directory.Encode returns. -/
def dirL (l : List Dr) : ByteArray × Int :=
  if l.length > 1024 then (⟨#[]⟩, 7) else match bad? l with
    | some x => (⟨#[]⟩, (encR x).2)
    | none => (⟨(lay 0 (codes l) ++ List.replicate ((endOf 0 (sizesOf (codes l)) + 2047) / 2048 * 2048 - endOf 0 (sizesOf (codes l))).toNat 0).toArray⟩, 0)
theorem bad_none {l : List Dr} (h : bad? l = none) : ∀ x ∈ l, (encR x).2 = 0 := by
  intro x hx
  have := List.find?_eq_none.1 h x hx
  simpa using this
theorem codes_ok {l : List Dr} (hz : ∀ x ∈ l, SmallR x) (h : bad? l = none) : ∀ n ∈ sizesOf (codes l), okS n = true := by
  intro n hn
  simp only [sizesOf, codes, List.mem_map] at hn
  obtain ⟨s, ⟨x, hx, rfl⟩, rfl⟩ := hn
  exact (coded_of x (hz x hx) (bad_none h x hx)).ok
theorem encode_f (l : List Dr) (hz : ∀ x ∈ l, SmallR x ∨ l.length > 1024) (k : Nat) (hk : 5000 ≤ k) : directory_Encode.f k l = some (dirL l) := by
  unfold directory_Encode.f dirL
  by_cases h : l.length > 1024
  · rw [if_pos (by omega), if_pos h]
  · rw [if_neg (by omega), if_neg h]
    have hz : ∀ x ∈ l, SmallR x := fun x hx => (hz x hx).elim id (fun h2 => absurd h2 h)
    have h0 := enc_l0 l (by omega) hz l.length k 0 [] [] (by omega) (by omega) rfl rfl
    rw [List.drop_zero] at h0
    rw [show ((0 : Nat) : Int) = 0 from rfl] at h0
    rw [h0]
    rcases hb : bad? l with _ | x
    · simp only [List.nil_append]
      have hok := codes_ok hz hb
      have hcl : (codes l).length = l.length := List.length_map _
      have hsl : (sizesOf (codes l)).length = l.length := by unfold sizesOf; rw [List.length_map, hcl]
      have hall : (sizesOf (codes l)).all okS = true := List.all_eq_true.2 hok
      have he := endOf_bd (sizesOf (codes l)) 0 (Int.le_refl _) hok
      obtain ⟨k2, hk2⟩ : ∃ m, k - l.length = m + 1 := ⟨k - l.length - 1, by omega⟩
      rw [hk2, directory_Encode.l0, if_neg (by omega), blocks_f _ (by omega) k2 (by omega), Option.bind_some, blocksB, if_pos hall, wrap_id (x := (endOf 0 (sizesOf (codes l)) + 2047) / 2048 * 2048) (by omega) (by omega)]
      rw [if_pos (by omega), if_pos (by omega), offsets_f _ (by omega) k2 (by omega), Option.bind_some, offsB, if_pos hall]
      have hM : ((endOf 0 (sizesOf (codes l)) + 2047) / 2048 * 2048).toNat = ((endOf 0 (sizesOf (codes l)) + 2047) / 2048 * 2048).toNat := rfl
      have := enc_l1 (codes l) (by omega) hok ((endOf 0 (sizesOf (codes l)) + 2047) / 2048 * 2048).toNat (by omega) (codes l).length k2 0 ((endOf 0 (sizesOf (codes l)) + 2047) / 2048 * 2048).toNat [] (by omega) (by omega) rfl (by simp)
      rw [show numL [] ++ List.replicate ((endOf 0 (sizesOf (codes l)) + 2047) / 2048 * 2048).toNat (0 : Int) = List.replicate ((endOf 0 (sizesOf (codes l)) + 2047) / 2048 * 2048).toNat 0 from rfl] at this
      rw [show ((0 : Nat) : Int) = 0 from rfl] at this
      rw [this]
      have hll := lay_length (codes l) 0 (Int.le_refl _) hok
      congr 6
      omega
    · rfl

end Go.Proofs.YthblghfobnhoeaaGreat.Q
namespace Go.Proofs.YthblghfobnhoeaaGreat.Q
open Go.RowKit Go.Proofs.YthblghfobnhoeaaGreatW.PrintWords Go.Proofs.YthblghfobnhoeaaGreatW.PrintLast Go.Proofs.YthblghfobnhoeaaGreat.A Go.Proofs.YthblghfobnhoeaaGreat.H
set_option linter.unusedVariables false

/-! What is encoded is decoded as the same records. -/
theorem ext_list (s : ByteArray) (a b : Nat) : (s.extract a b).data.toList = (s.data.toList.drop a).take (b - a) := by
  have := ext_l s.data.toList a b
  rw [of_toList] at this
  rw [this]
theorem bt_zero (s : ByteArray) (l : List UInt8) (h : s.data.toList = 0 :: l) : bt s 0 = 0 := by
  have := bt_bl s 0
  rw [show ((0 : Nat) : Int) = 0 from rfl] at this
  rw [this, h]; rfl
theorem bt_app (a b : ByteArray) (h : 0 < a.size) : bt (a ++ b) 0 = bt a 0 := by
  have h1 := bt_bl (a ++ b) 0
  have h2 := bt_bl a 0
  rw [show ((0 : Nat) : Int) = 0 from rfl] at h1 h2
  rw [h1, h2, ByteArray.data_append, Array.toList_append]
  unfold bl
  rw [List.getElem?_append_left (by rw [Array.length_toList]; exact h)]
theorem size_list (s : ByteArray) : s.data.toList.length = s.size := Array.length_toList
theorem blk_next (p : Nat) (hp : p ≤ 10000000) : wrap64 (wrap64 (wrap64 (Int.tdiv (p : Int) 2048) + 1) * 2048) = (((p / 2048 + 1) * 2048 : Nat) : Int) := by
  rw [Int.tdiv_eq_ediv_of_nonneg (by omega), wrap_id (x := (p : Int) / 2048) (by omega) (by omega), wrap_id (x := (p : Int) / 2048 + 1) (by omega) (by omega), wrap_id (by omega) (by omega)]
  omega
/-- Zeros at p: on to the next block. -/
theorem dec_skip (k : Nat) (s : ByteArray) (hs : s.size % 2048 = 0) (hs2 : s.size ≤ 131072) (out : List Dr) (ofs : List Int) (p : Nat) (hp : p < s.size) (T : List UInt8) (h0 : s.data.toList.drop p = 0 :: T) :
    directory_Decode.l0 (k + 1) s out ofs (p : Int) = directory_Decode.l0 k s out ofs (((p / 2048 + 1) * 2048 : Nat) : Int) := by
  have he : (p / 2048 + 1) * 2048 ≤ s.size := by omega
  have hz := size_list (s.extract p ((p / 2048 + 1) * 2048))
  have hl := ext_list s p ((p / 2048 + 1) * 2048)
  have hsl := size_list s
  have hlen : (s.extract p ((p / 2048 + 1) * 2048)).size = (p / 2048 + 1) * 2048 - p := by
    rw [← hz, hl, List.length_take, List.length_drop, hsl]; omega
  rw [directory_Decode.l0, if_pos (by omega), if_pos (by omega), blk_next p (by omega), if_pos (by omega), if_pos (by omega)]
  rw [Int.toNat_natCast, Int.toNat_natCast, if_pos (by omega)]
  obtain ⟨d, hd⟩ : ∃ d, (p / 2048 + 1) * 2048 - p = d + 1 := ⟨(p / 2048 + 1) * 2048 - p - 1, by omega⟩
  rw [bt_zero _ (T.take d) (by rw [hl, h0, hd, List.take_succ_cons]), if_pos rfl]
/-- A record at p. -/
theorem dec_one (k : Nat) (hk : 400 ≤ k) (s : ByteArray) (hs : s.size % 2048 = 0) (hs2 : s.size ≤ 131072) (out : List Dr) (ofs : List Int) (p : Nat) (x : Dr) (hx : Coded x) (T : List UInt8) (h0 : s.data.toList.drop p = (encR x).1.data.toList ++ T)
    (hp : p < s.size) (hn : p % 2048 + (encR x).1.size ≤ 2048) (ho : out.length ≤ 1000) (hf : ofs.length ≤ 1000) :
    directory_Decode.l0 (k + 1) s out ofs (p : Int) = directory_Decode.l0 k s (out ++ [x]) (ofs ++ [(p : Int)]) ((p + (encR x).1.size : Nat) : Int) := by
  have he : (p / 2048 + 1) * 2048 ≤ s.size := by omega
  have hz := size_list (s.extract p ((p / 2048 + 1) * 2048))
  have hl := ext_list s p ((p / 2048 + 1) * 2048)
  have hsl := size_list s
  have hok := (okS_iff _).1 hx.ok
  have hel := size_list (encR x).1
  have hlen : (s.extract p ((p / 2048 + 1) * 2048)).size = (p / 2048 + 1) * 2048 - p := by
    rw [← hz, hl, List.length_take, List.length_drop, hsl]; omega
  have hpiece : s.extract p ((p / 2048 + 1) * 2048) = (encR x).1 ++ ⟨(T.take ((p / 2048 + 1) * 2048 - p - (encR x).1.size)).toArray⟩ := by
    apply ByteArray.ext
    apply Array.toList_inj.1
    rw [hl, h0, ByteArray.data_append, Array.toList_append, List.take_append, List.take_of_length_le (by rw [hel]; omega), hel]
  rw [directory_Decode.l0, if_pos (by omega), if_pos (by omega), blk_next p (by omega), if_pos (by omega), if_pos (by omega)]
  rw [Int.toNat_natCast, Int.toNat_natCast, if_pos (by omega)]
  have hb : bt (s.extract p ((p / 2048 + 1) * 2048)) 0 = ((encR x).1.size : Int) := by rw [hpiece, bt_app _ _ (by omega), hx.first]
  have hdec : dirrecord_Decode.f k (s.extract p ((p / 2048 + 1) * 2048)) = some (x.f0, x.f1, x.f2, x.f3, x.f4, x.f5, x.f6, x.f7, ((encR x).1.size : Int), 0) := by
    rw [hpiece]
    refine hx.back _ k ?_ hk
    rw [← size_list, List.length_take]
    omega
  rw [hb, if_neg (by omega), hlen, wrap_id (by omega) (by omega), if_neg (by omega), hdec, Option.bind_some]
  simp only [if_true]
  rw [if_neg (by omega), if_pos (by omega), if_pos (by omega), wrap_id (by omega) (by omega)]
  rfl
theorem place_self {p n : Int} (h : p % 2048 + n ≤ 2048) : place p n = p := by unfold place; rw [if_neg (by omega)]
theorem dec_l (s : ByteArray) (hs : s.size % 2048 = 0) (hs2 : s.size ≤ 131072) (j : Nat) : ∀ (k p m : Nat) (out : List Dr) (ofs : List Int) (t : List Dr), s.size - p ≤ j → j + 402 ≤ k → p ≤ s.size → (∀ x ∈ t, Coded x) → s.data.toList.drop p = lay p (codes t) ++ List.replicate m 0 → out.length + t.length ≤ 1000 → ofs.length = out.length →
    directory_Decode.l0 k s out ofs (p : Int) = some (out ++ t, ofs ++ offs p (sizesOf (codes t)), 0) := by
  have hsl := size_list s
  induction j with
  | zero =>
    intro k p m out ofs t hj hk hp hc hd ho hf
    obtain ⟨k, rfl⟩ : ∃ m, k = m + 1 := ⟨k - 1, by omega⟩
    have hps : p = s.size := by omega
    have ht : t = [] := by
      rcases t with _ | ⟨x, t⟩
      · rfl
      · have hx := (okS_iff _).1 (hc x (List.mem_cons_self)).ok
        have hel := size_list (encR x).1
        have := congrArg List.length hd
        rw [List.length_drop, List.length_append] at this
        simp only [codes, List.map_cons, lay, List.length_append] at this
        omega
    subst ht
    rw [directory_Decode.l0, if_neg (by omega)]
    simp [codes, sizesOf, offs]
  | succ j ih =>
    intro k p m out ofs t hj hk hp hc hd ho hf
    obtain ⟨k, rfl⟩ : ∃ m, k = m + 1 := ⟨k - 1, by omega⟩
    have hdl := congrArg List.length hd
    rw [List.length_drop, List.length_append, List.length_replicate, hsl] at hdl
    by_cases hend : p = s.size
    · exact ih (k + 1) p m out ofs t (by omega) (by omega) hp hc hd ho hf
    · have hplt : p < s.size := by omega
      rcases t with _ | ⟨x, t⟩
      · -- zeros alone
        simp only [codes, List.map_nil, lay, List.nil_append, List.length_nil] at hd hdl
        obtain ⟨m, rfl⟩ : ∃ q, m = q + 1 := ⟨m - 1, by omega⟩
        rw [dec_skip k s hs hs2 out ofs p hplt (List.replicate m 0) (by rw [hd]; rfl)]
        have hr := ih k ((p / 2048 + 1) * 2048) (s.size - (p / 2048 + 1) * 2048) out ofs [] (by omega) (by omega) (by omega) (fun x hx => by simp at hx) (by
          rw [show (p / 2048 + 1) * 2048 = p + ((p / 2048 + 1) * 2048 - p) by omega, ← List.drop_drop, hd, List.drop_replicate]
          simp only [codes, List.map_nil, lay, List.nil_append]
          congr 1
          omega) ho hf
        rw [hr]
        simp [codes, sizesOf, offs]
      · have hx := hc x (List.mem_cons_self)
        have hok := (okS_iff _).1 hx.ok
        have hel := size_list (encR x).1
        have hpb := place_bd (p := p) (n := ((encR x).1.size : Int)) (by omega) ⟨hok.1, hok.2.1⟩
        by_cases hpl : place p ((encR x).1.size : Int) = p
        · -- a record
          simp only [codes, List.map_cons, lay, hpl] at hd
          rw [show zb ((p : Int) - p) = [] by unfold zb; simp, List.nil_append, List.append_assoc] at hd
          rw [dec_one k (by omega) s hs hs2 out ofs p x hx _ hd hplt (by rw [hpl] at hpb; omega) (by rw [List.length_cons] at ho; omega) (by rw [List.length_cons] at ho; omega)]
          rw [ih k (p + (encR x).1.size) m (out ++ [x]) (ofs ++ [(p : Int)]) t (by omega) (by omega) ?_ (fun y hy => hc y (List.mem_cons_of_mem _ hy)) ?_ ?_ ?_]
          · simp only [codes, sizesOf, List.map_cons, offs, hpl, List.append_assoc, List.singleton_append]
            push_cast
            rfl
          · have := congrArg List.length hd
            rw [List.length_drop, List.length_append, hel] at this
            omega
          · rw [← List.drop_drop, hd, ← hel, List.drop_left, hel]
            push_cast
            rfl
          · rw [List.length_append, List.length_singleton]; rw [List.length_cons] at ho; omega
          · rw [List.length_append, List.length_append, hf]; rfl
        · -- the next block
          have hpe : place p ((encR x).1.size : Int) = (((p / 2048 + 1) * 2048 : Nat) : Int) := by
            unfold place at hpl ⊢
            split at hpl
            · rw [if_pos (by assumption)]; omega
            · exact absurd rfl hpl
          have hd0 := hd
          simp only [codes, List.map_cons, lay, hpe] at hd
          obtain ⟨d, hdd⟩ : ∃ d, ((((p / 2048 + 1) * 2048 : Nat) : Int) - p).toNat = d + 1 := ⟨((((p / 2048 + 1) * 2048 : Nat) : Int) - p).toNat - 1, by omega⟩
          have hsp : place (((p / 2048 + 1) * 2048 : Nat) : Int) ((encR x).1.size : Int) = (((p / 2048 + 1) * 2048 : Nat) : Int) := place_self (by omega)
          have hzl : (zb ((((p / 2048 + 1) * 2048 : Nat) : Int) - p)).length = (p / 2048 + 1) * 2048 - p := by unfold zb; rw [List.length_replicate]; omega
          rw [dec_skip k s hs hs2 out ofs p hplt _ (by rw [hd, zb, hdd, List.replicate_succ, List.cons_append, List.cons_append])]
          rw [ih k ((p / 2048 + 1) * 2048) m out ofs (x :: t) (by omega) (by omega) (by omega) hc ?_ ho hf]
          · simp only [codes, sizesOf, List.map_cons, offs, hpe, hsp]
          · rw [show (p / 2048 + 1) * 2048 = p + ((p / 2048 + 1) * 2048 - p) by omega, ← List.drop_drop, hd]
            rw [show p + ((p / 2048 + 1) * 2048 - p) = (p / 2048 + 1) * 2048 by omega, List.append_assoc, List.drop_left' hzl]
            simp only [codes, List.map_cons, lay, hsp]
            rw [show zb ((((p / 2048 + 1) * 2048 : Nat) : Int) - (((p / 2048 + 1) * 2048 : Nat) : Int)) = [] by unfold zb; simp, List.nil_append]
theorem decode_f (l : List Dr) (hl : l.length ≤ 1000) (hc : ∀ x ∈ l, Coded x) (m : Nat) (s : ByteArray) (h : s.data.toList = lay 0 (codes l) ++ List.replicate m 0) (hs : s.size % 2048 = 0) (hs2 : s.size ≤ 131072) (k : Nat) (hk : 140000 ≤ k) :
    directory_Decode.f k s = some (l, offs 0 (sizesOf (codes l)), 0) := by
  unfold directory_Decode.f
  rw [if_pos (by omega), if_neg (by omega)]
  have := dec_l s hs hs2 s.size k 0 m [] [] l (by omega) (by omega) (by omega) hc (by rw [List.drop_zero]; exact h) (by simpa using hl) rfl
  rw [List.nil_append, List.nil_append] at this
  exact this

end Go.Proofs.YthblghfobnhoeaaGreat.Q
namespace Go.Proofs.YthblghfobnhoeaaGreat.Q
open Go.RowKit Go.Proofs.YthblghfobnhoeaaGreatW.PrintWords Go.Proofs.YthblghfobnhoeaaGreatW.PrintLast Go.Proofs.YthblghfobnhoeaaGreat.A Go.Proofs.YthblghfobnhoeaaGreat.H
set_option linter.unusedVariables false

/-! The example of the chapter: what each call tells. -/
def exA : Dr := ⟨(⟨#[65]⟩ : ByteArray), 0, 0, 315532800, 0, 0, 0, (⟨#[]⟩ : ByteArray)⟩
def exX : Dr := ⟨(⟨#[0]⟩ : ByteArray), 0, 0, 315532800, 0, 0, 0, (⟨#[]⟩ : ByteArray)⟩
def exY : List ByteArray := [(⟨#[0]⟩ : ByteArray), (⟨#[1]⟩ : ByteArray), (⟨#[65, 46, 59, 49]⟩ : ByteArray), (⟨#[65]⟩ : ByteArray), (⟨#[65, 46, 66, 59, 50]⟩ : ByteArray), (⟨#[65, 46, 66, 59, 49]⟩ : ByteArray), (⟨#[65, 65, 46, 59, 49]⟩ : ByteArray), (⟨#[66]⟩ : ByteArray)]
theorem good_coded (x : Dr) (h1 : sizeV x.f0.size x.f7.size ≠ 0) (h2 : GoodR x.f1 x.f2 x.f3 x.f4 x.f5 x.f6) : (encR x).2 = 0 := by
  obtain ⟨s, he, _⟩ := round1 x.f0 x.f1 x.f2 x.f3 x.f4 x.f5 x.f6 x.f7 h1 h2
  have he : encK 400 x = some (s, 0) := he
  unfold encR; rw [he]; rfl
theorem ex_good : GoodR 0 0 315532800 0 0 0 := ⟨by decide, by decide, ⟨by unfold TimeOk; decide, by unfold QuarterOk; decide⟩, by decide, by decide⟩
theorem exA_coded : Coded exA := coded_of exA ⟨by decide, by decide⟩ (good_coded exA (by decide) ex_good)
theorem exX_coded : Coded exX := coded_of exX ⟨by decide, by decide⟩ (good_coded exX (by decide) ex_good)
theorem ex_bad : bad? [exX, exA] = none := by
  unfold bad?
  rw [List.find?_cons, exX_coded.err, List.find?_cons, exA_coded.err]; rfl
theorem ex_sizes : sizesOf (codes [exX, exA]) = [34, 34] := by
  show [((encR exX).1.size : Int), ((encR exA).1.size : Int)] = _
  rw [exX_coded.size, exA_coded.size]; rfl
theorem ex_ok : ∀ n ∈ sizesOf (codes [exX, exA]), okS n = true := by rw [ex_sizes]; decide
/-- Encode's bytes. -/
def exS : ByteArray := ⟨(lay 0 (codes [exX, exA]) ++ List.replicate 1980 0).toArray⟩
theorem ex_encode (k : Nat) (hk : 5000 ≤ k) : directory_Encode.f k [exX, exA] = some (exS, 0) := by
  rw [encode_f _ (fun x hx => .inl ?_) k hk]
  · unfold dirL
    rw [if_neg (by decide), ex_bad, ex_sizes]; rfl
  · simp only [List.mem_cons, List.not_mem_nil, or_false] at hx
    rcases hx with rfl | rfl <;> exact ⟨by decide, by decide⟩
theorem exS_size : exS.size = 2048 := by
  have := lay_length (codes [exX, exA]) 0 (Int.le_refl _) ex_ok
  rw [ex_sizes] at this
  have h2 : endOf 0 [34, 34] - 0 = 68 := by decide
  rw [h2] at this
  unfold exS
  rw [bytes_size, List.length_append, List.length_replicate]
  generalize (lay 0 (codes [exX, exA])).length = n at this ⊢
  clear h2
  omega
theorem ex_decode (k : Nat) (hk : 140000 ≤ k) : directory_Decode.f k exS = some ([exX, exA], [0, 34], 0) := by
  rw [decode_f [exX, exA] (by decide) (fun x hx => ?_) 1980 exS rfl (by rw [exS_size]) (by rw [exS_size]; decide) k hk, ex_sizes]
  · rfl
  · simp only [List.mem_cons, List.not_mem_nil, or_false] at hx
    rcases hx with rfl | rfl
    · exact exX_coded
    · exact exA_coded
def exN : List Int := List.replicate 60 34 ++ [36]
theorem ex_offsets (k : Nat) (hk : 400 ≤ k) : ∃ t, directory_Offsets.f k exN = some t ∧ t.length = 61 ∧ rd t 60 = 2048 := by
  refine ⟨_, offsets_f exN (by decide) k (by have : exN.length = 61 := by decide
                                             omega), ?_, ?_⟩
  · decide +kernel
  · decide +kernel
theorem ex_blocks (k : Nat) (hk : 400 ≤ k) : directory_Blocks.f k exN = some 2 := by
  rw [blocks_f exN (by decide) k (by have : exN.length = 61 := by decide
                                     omega)]
  exact congrArg some (by decide +kernel)
theorem ex_find : directory_Find.f [exX, exA] (⟨#[65]⟩ : ByteArray) = some (1, true) := by kernel_rfl
theorem ex_same (k : Nat) (hk : 400 ≤ k) : masterdiscref21_Same.f k [exX, exA] [exX, exA] = some true := lift_le (fun k => masterdiscref21_Same.mono _ _ k) hk (by kernel_rfl)
theorem ex_equal (k : Nat) (hk : 400 ≤ k) : slices_Equal_int_int.f k [0, 34] [0, 34] = some true := lift_le (fun k => slices_Equal_int_int.mono _ _ k) hk (by kernel_rfl)
theorem ex_sort (k : Nat) (hk : 400 ≤ k) : directory_Sort.f k [exA, exX] true = some [exX, exA] := lift_le (fun k => directory_Sort.mono _ _ k) hk (by kernel_rfl)
theorem ex_repeat : slices_Repeat_int_int.f [34] 60 = some (List.replicate 60 34) := by unfold slices_Repeat_int_int.f; rw [if_pos ⟨rfl, rfl⟩]
/-- Two neighbours of the example's list. -/
def Behind (a b : ByteArray) : Prop := ∃ v u, directory_Compare.f 400 a b false = some v ∧ v < 0 ∧ directory_Compare.f 400 b a false = some u ∧ 0 < u
theorem behind_of {a b : ByteArray} (h1 : directory_Compare.f 400 a b false = some (-1)) (h2 : directory_Compare.f 400 b a false = some 1) : Behind a b := ⟨_, _, h1, by decide, h2, by decide⟩
theorem ex_order (i : Nat) (hi : i < 7) : Behind (rdOf ByteArray.empty exY (i : Int)) (rdOf ByteArray.empty exY ((i + 1 : Nat) : Int)) := by
  match i, hi with
  | 0, _ => exact behind_of (by kernel_rfl) (by kernel_rfl)
  | 1, _ => exact behind_of (by kernel_rfl) (by kernel_rfl)
  | 2, _ => exact behind_of (by kernel_rfl) (by kernel_rfl)
  | 3, _ => exact behind_of (by kernel_rfl) (by kernel_rfl)
  | 4, _ => exact behind_of (by kernel_rfl) (by kernel_rfl)
  | 5, _ => exact behind_of (by kernel_rfl) (by kernel_rfl)
  | 6, _ => exact behind_of (by kernel_rfl) (by kernel_rfl)

end Go.Proofs.YthblghfobnhoeaaGreat.Q
namespace Go.Proofs.YthblghfobnhoeaaGreat.Q
open Go.RowKit Go.Proofs.YthblghfobnhoeaaGreatW.PrintWords Go.Proofs.YthblghfobnhoeaaGreatW.PrintLast Go.Proofs.YthblghfobnhoeaaGreat.A
set_option linter.unusedVariables false

theorem rrev_end (k : Nat) (S : ByteArray) (acc : List Int) : masterdiscref01_Reverse.l0 (k + 1) S acc (-1) = some (strOfNums acc) := by
  rw [masterdiscref01_Reverse.l0, if_neg (by decide)]
theorem rrev_step (k : Nat) (S : ByteArray) (acc : List Int) (i : Nat) (hi : i < S.size) (hs : S.size ≤ 1000) (ha : acc.length ≤ 1000) :
    masterdiscref01_Reverse.l0 (k + 1) S acc (i : Int) = masterdiscref01_Reverse.l0 k S (acc ++ [bt S (i : Int)]) ((i : Int) - 1) := by
  rw [masterdiscref01_Reverse.l0, if_pos (by omega), if_pos (by omega), if_pos (by omega), if_pos (by omega), wrap_id (by omega) (by omega)]
/-- The reference's Reverse, of any short string. -/
def revL (S : ByteArray) : Nat → List Int
  | 0 => []
  | n + 1 => bt S (n : Int) :: revL S n
theorem rrev_l (S : ByteArray) (hs : S.size ≤ 1000) (i : Nat) : ∀ (k : Nat) (acc : List Int), i ≤ S.size → i + 1 ≤ k → acc.length + i ≤ 1000 →
    masterdiscref01_Reverse.l0 k S acc ((i : Int) - 1) = some (strOfNums (acc ++ revL S i)) := by
  induction i with
  | zero =>
    intro k acc h1 h2 h3
    obtain ⟨k, rfl⟩ : ∃ q, k = q + 1 := ⟨k - 1, by omega⟩
    rw [show ((0 : Nat) : Int) - 1 = -1 from rfl, rrev_end]
    show _ = some (strOfNums (acc ++ []))
    rw [List.append_nil]
  | succ i ih =>
    intro k acc h1 h2 h3
    obtain ⟨k, rfl⟩ : ∃ q, k = q + 1 := ⟨k - 1, by omega⟩
    rw [show ((i + 1 : Nat) : Int) - 1 = (i : Int) by omega, rrev_step k S acc i (by omega) hs (by omega), ih k (acc ++ [bt S (i : Int)]) (by omega) (by omega) (by rw [List.length_append]; simp; omega)]
    show _ = some (strOfNums (acc ++ (bt S (i : Int) :: revL S i)))
    rw [List.append_assoc]
    rfl
theorem rrev (k : Nat) (S : ByteArray) (hs : S.size ≤ 1000) (hk : S.size + 1 ≤ k) : masterdiscref01_Reverse.f k S = some (strOfNums (revL S S.size)) := by
  unfold masterdiscref01_Reverse.f
  rw [wrap_id (by omega) (by omega), rrev_l S hs S.size k [] (by omega) hk (by simp; omega)]
  rfl
end Go.Proofs.YthblghfobnhoeaaGreat.Q
