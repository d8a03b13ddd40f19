import Derived.Test.YtagnefbgclpccaaAx2
import Derived.Test.YtagnefbgclpccaaH1b
import Derived.Test.YtagnefbgclpccaaAx3
import Derived.Test.YtagnefbgclpccaaAx7
import Derived.Test.YtagnefbgclpccaaH2d
import Derived.Test.YtagnefbgclpccaaH2h
import Derived.Test.YtagnefbgclpccaaAx10
import Derived.Test.YtagnefbgclpccaaH3
import Derived.Test.YtagnefbgclpccaaH4a
import Derived.Laws.BitsAllLaws
import Derived.Test.YtagnefbgclpccaaH4
namespace Go.Proofs.Ytagnefbgclpccaa.Q
open Go.RowKit Go.Proofs.YtagnefbgclpccaaW.PrintWords Go.Proofs.YtagnefbgclpccaaW.PrintLast Go.Proofs.Ytagnefbgclpccaa.A
set_option linter.unusedVariables false

theorem wrap_id {x : Int} (h0 : -9223372036854775808 ≤ x) (h1 : x ≤ 9223372036854775807) : wrap64 x = x := by
  unfold wrap64; omega

/-- The size of a record, as the definitions say. -/
def sizeV (a b : Int) : Int :=
  if 1 ≤ a ∧ a ≤ 254 ∧ 0 ≤ b ∧ b ≤ 254 ∧ b % 2 = 0 then (if (34 + a) / 2 * 2 + b ≤ 254 then (34 + a) / 2 * 2 + b else 0) else 0

theorem padded_eq (a : Int) (h0 : 0 ≤ a) (h1 : a ≤ 1000) : dirrecord_padded.f a = some ((34 + a) / 2 * 2) := by
  unfold dirrecord_padded.f
  rw [wrap_id (x := 33 + a) (by omega) (by omega), wrap_id (x := 33 + a + 1) (by omega) (by omega)]
  rw [Int.tdiv_eq_ediv_of_nonneg (by omega)]
  rw [wrap_id (x := (33 + a + 1) / 2) (by omega) (by omega), wrap_id (by omega) (by omega)]
  congr 1
  omega

theorem size_eq (k : Nat) (a b : Int) : dirrecord_Size.f (k + 1) a b = some (sizeV a b) := by
  unfold dirrecord_Size.f sizeV
  by_cases h1 : a < 1
  · rw [if_pos h1, if_neg (by omega)]; simp [dirrecord_Size.j0]
  · rw [if_neg h1]
    by_cases h2 : a > 254
    · rw [if_pos h2, if_neg (by omega)]; simp [dirrecord_Size.j0]
    · rw [if_neg h2]
      by_cases h3 : b < 0
      · rw [if_pos h3, if_neg (by omega)]; simp [dirrecord_Size.j0]
      · rw [if_neg h3]
        by_cases h4 : b > 254
        · rw [if_pos h4, if_neg (by omega)]; simp [dirrecord_Size.j0]
        · rw [if_neg h4]
          have e : Int.tmod b 2 = b % 2 := Int.tmod_eq_emod_of_nonneg (by omega)
          rw [e]
          by_cases h5 : b % 2 = 0
          · rw [if_pos ⟨by omega, by omega, by omega, by omega, h5⟩]
            have e2 : (b % 2 != 0) = false := by simp [h5]
            rw [e2]
            simp only [dirrecord_Size.j0]
            rw [if_neg (by decide), padded_eq a (by omega) (by omega)]
            simp only [Option.bind_some]
            rw [wrap_id (by omega) (by omega)]
            split <;> rfl
          · rw [if_neg (by omega)]
            have e2 : (b % 2 != 0) = true := by simp [h5]
            rw [e2]
            simp [dirrecord_Size.j0]

end Go.Proofs.Ytagnefbgclpccaa.Q

namespace Go.Proofs.Ytagnefbgclpccaa.Q
open Go.RowKit Go.Proofs.YtagnefbgclpccaaW.PrintWords Go.Proofs.YtagnefbgclpccaaW.PrintLast Go.Proofs.Ytagnefbgclpccaa.A Go.Proofs.Ytagnefbgclpccaa.H
set_option linter.unusedVariables false

theorem nums_size (l : List Int) : (strOfNums l).size = l.length := by
  show (l.map _).toArray.size = l.length
  simp
theorem bt_nums (l : List Int) (i : Nat) (h : i < l.length) (h0 : 0 ≤ l[i]) (h1 : l[i] ≤ 255) : bt (strOfNums l) (i : Int) = l[i] := by
  have hs : i < (strOfNums l).data.size := by
    have := nums_size l
    show i < (strOfNums l).size
    omega
  have hb : (strOfNums l).data = (l.map (fun n => UInt8.ofNat n.toNat)).toArray := rfl
  have hg : (strOfNums l).data[i]? = some (UInt8.ofNat (l[i]).toNat) := by
    rw [hb]
    simp [h]
  have he : (strOfNums l).data[i]'hs = UInt8.ofNat (l[i]).toNat := by
    have h2 := Array.getElem?_eq_getElem (xs := (strOfNums l).data) hs
    rw [hg] at h2
    exact (Option.some.inj h2).symm
  have e : bt (strOfNums l) (i : Int) = (((strOfNums l).data[i]'hs).toNat : Int) := (bt_at (strOfNums l) (i : Int) hs).symm
  rw [e, he, UInt8.toNat_ofNat']
  omega

end Go.Proofs.Ytagnefbgclpccaa.Q

namespace Go.Proofs.Ytagnefbgclpccaa.Q
open Go.RowKit Go.Proofs.YtagnefbgclpccaaW.PrintWords Go.Proofs.YtagnefbgclpccaaW.PrintLast Go.Proofs.Ytagnefbgclpccaa.A Go.Proofs.Ytagnefbgclpccaa.H
set_option linter.unusedVariables false

def ydays (y : Int) : Int := if leapB y then 366 else 365
theorem leap_f (y : Int) : datetime_leap.f y = some (leapB y) := by
  unfold datetime_leap.f leapB
  by_cases h1 : Int.tmod y 400 = 0
  · rw [if_pos h1]; simp [h1]
  · rw [if_neg h1]
    by_cases h2 : Int.tmod y 4 = 0
    · rw [if_pos h2]; simp [h1, h2]
    · rw [if_neg h2]; simp [h1, h2]
theorem yearDays_f (y : Int) : datetime_yearDays.f y = some (ydays y) := by
  unfold datetime_yearDays.f ydays
  rw [leap_f, Option.bind_some]
  cases leapB y <;> rfl
theorem ydays_bd (y : Int) : 365 ≤ ydays y ∧ ydays y ≤ 366 := by
  unfold ydays
  split <;> omega

/-- The days of the first n months; the days of the first n years from 1970 on. -/
def msum (y : Int) : Nat → Int
  | 0 => 0
  | n + 1 => msum y n + mdays y (n + 1)
def ysum : Nat → Int
  | 0 => 0
  | n + 1 => ysum n + ydays (1970 + n)
theorem msum_12 (y : Int) : msum y 12 = ydays y := by
  simp only [msum, ydays, mdays, mlen]
  cases leapB y <;> decide
theorem ysum_ge (n : Nat) : 365 * (n : Int) ≤ ysum n := by
  induction n with
  | zero => simp [ysum]
  | succ n ih => have := ydays_bd (1970 + n); simp only [ysum]; omega
theorem msum_le (y : Int) (n : Nat) : 0 ≤ msum y n ∧ msum y n ≤ 31 * n := by
  induction n with
  | zero => simp [msum]
  | succ n ih => have := mdays_bd y (n + 1); simp only [msum]; omega
theorem ysum_le (n : Nat) : ysum n ≤ 366 * n := by
  induction n with
  | zero => simp [ysum]
  | succ n ih => have := ydays_bd (1970 + n); simp only [ysum]; omega
theorem msum_mono (y : Int) (a j : Nat) : msum y a + 28 * j ≤ msum y (a + j) := by
  induction j with
  | zero => simp
  | succ j ih => have := mdays_bd y (a + j + 1 : Nat); have e : msum y (a + (j + 1)) = msum y (a + j) + mdays y ((a + j : Nat) + 1) := rfl; rw [e]; push_cast at *; omega
theorem ysum_mono (a j : Nat) : ysum a + 365 * j ≤ ysum (a + j) := by
  induction j with
  | zero => simp
  | succ j ih => have := ydays_bd (1970 + (a + j : Nat)); have e : ysum (a + (j + 1)) = ysum (a + j) + ydays (1970 + (a + j : Nat)) := rfl; rw [e]; push_cast at *; omega

/-- A day of the calendar: the n-th year from 1970 on, its (m+1)-th month, the day d. -/
structure Cal (x : Int) (n m : Nat) (d : Int) : Prop where
  month : m ≤ 11
  day1 : 1 ≤ d
  day2 : d ≤ mdays (1970 + n) (m + 1)
  sum : ysum n + msum (1970 + n) m + (d - 1) = x

theorem Cal.inYear {x : Int} {n m : Nat} {d : Int} (h : Cal x n m d) : ysum n ≤ x ∧ x < ysum (n + 1) := by
  have h1 := msum_mono (1970 + n) (m + 1) (11 - m)
  have e : m + 1 + (11 - m) = 12 := by have := h.month; omega
  rw [e, msum_12] at h1
  have e2 : msum (1970 + n) (m + 1) = msum (1970 + n) m + mdays (1970 + n) (m + 1) := rfl
  have e3 : ysum (n + 1) = ysum n + ydays (1970 + n) := rfl
  have := (msum_le (1970 + n) m).1
  have := h.day1; have := h.day2; have := h.sum
  omega
theorem Cal.unique {x : Int} {n n' m m' : Nat} {d d' : Int} (h : Cal x n m d) (h' : Cal x n' m' d') : n = n' ∧ m = m' ∧ d = d' := by
  have hn : n = n' := by
    have a := h.inYear; have b := h'.inYear
    rcases Nat.lt_trichotomy n n' with hl | he | hl
    · have := ysum_mono (n + 1) (n' - (n + 1)); rw [show n + 1 + (n' - (n + 1)) = n' by omega] at this; omega
    · exact he
    · have := ysum_mono (n' + 1) (n - (n' + 1)); rw [show n' + 1 + (n - (n' + 1)) = n by omega] at this; omega
  subst hn
  have hm : m = m' := by
    have a1 := h.sum; have a2 := h'.sum; have b1 := h.day1; have b2 := h.day2; have c1 := h'.day1; have c2 := h'.day2
    have e1 : msum (1970 + n) (m + 1) = msum (1970 + n) m + mdays (1970 + n) (m + 1) := rfl
    have e2 : msum (1970 + n) (m' + 1) = msum (1970 + n) m' + mdays (1970 + n) (m' + 1) := rfl
    rcases Nat.lt_trichotomy m m' with hl | he | hl
    · have := msum_mono (1970 + n) (m + 1) (m' - (m + 1)); rw [show m + 1 + (m' - (m + 1)) = m' by omega] at this; omega
    · exact he
    · have := msum_mono (1970 + n) (m' + 1) (m - (m' + 1)); rw [show m' + 1 + (m - (m' + 1)) = m by omega] at this; omega
  subst hm
  have a1 := h.sum; have a2 := h'.sum
  exact ⟨rfl, rfl, by omega⟩

theorem split_l1 (j : Nat) : ∀ (k n i : Nat) (x : Int) (c2 c3 c4 c5 : Int), n + j = 11 → j + 1 ≤ k → i ≤ 1000 → 0 ≤ x → msum (1970 + i) n + x < ydays (1970 + i) →
    ∃ (m : Nat) (d : Int), datetime_Split.l1 k x (1970 + i) (n + 1) c2 c3 c4 c5 = some ((1970 : Int) + i, (m : Int) + 1, d, c3, c4, c5, 0) ∧ Cal (ysum i + msum (1970 + i) n + x) i m d := by
  induction j with
  | zero =>
    intro k n i x c2 c3 c4 c5 hn hk hi h0 hx
    obtain ⟨k, rfl⟩ : ∃ z, k = z + 1 := ⟨k - 1, by omega⟩
    obtain rfl : n = 11 := by omega
    have h12 := msum_12 (1970 + i)
    have e : msum (1970 + i) 12 = msum (1970 + i) 11 + mdays (1970 + i) 12 := rfl
    have hb := mdays_bd (1970 + i) 12
    refine ⟨11, x + 1, ?_, ⟨by omega, by omega, ?_, by omega⟩⟩
    · rw [datetime_Split.l1]
      unfold datetime_monthDays.f
      rw [if_pos (by omega), Option.bind_some]
      have e12 : ((11 : Nat) : Int) + 1 = 12 := rfl
      rw [e12, if_neg (by omega), wrap_id (by omega) (by omega)]
    · show x + 1 ≤ mdays (1970 + i) 12
      omega
  | succ j ih =>
    intro k n i x c2 c3 c4 c5 hn hk hi h0 hx
    obtain ⟨k, rfl⟩ : ∃ z, k = z + 1 := ⟨k - 1, by omega⟩
    have hb := mdays_bd (1970 + i) (n + 1)
    rw [datetime_Split.l1]
    unfold datetime_monthDays.f
    rw [if_pos (by omega), Option.bind_some]
    by_cases hc : x ≥ mdays (1970 + i) (n + 1)
    · rw [if_pos hc, Option.bind_some]
      have hy := ydays_bd (1970 + i)
      have hm := msum_le (1970 + i) n
      rw [wrap_id (x := x - mdays (1970 + i) (n + 1)) (by omega) (by omega), wrap_id (x := (n : Int) + 1 + 1) (by omega) (by omega)]
      have e : msum (1970 + i) (n + 1) = msum (1970 + i) n + mdays (1970 + i) (n + 1) := rfl
      obtain ⟨m, d, hl, hcal⟩ := ih k (n + 1) i (x - mdays (1970 + i) (n + 1)) c2 c3 c4 c5 (by omega) (by omega) hi (by omega) (by rw [e]; omega)
      refine ⟨m, d, ?_, ?_⟩
      · rw [← hl]; push_cast; rfl
      · have es : ysum i + msum (1970 + i) (n + 1) + (x - mdays (1970 + i) (n + 1)) = ysum i + msum (1970 + i) n + x := by rw [e]; omega
        rw [es] at hcal
        exact hcal
    · rw [if_neg hc]
      have hy := ydays_bd (1970 + i)
      have hm := msum_le (1970 + i) n
      refine ⟨n, x + 1, by rw [wrap_id (by omega) (by omega)], ⟨by omega, by omega, by omega, by omega⟩⟩

theorem split_l0 (j : Nat) : ∀ (k i : Nat) (x : Int) (c2 c3 c4 c5 : Int), j + 14 ≤ k → i + j ≤ 1000 → 0 ≤ x → x ≤ 365 * j →
    ∃ (n m : Nat) (d : Int), datetime_Split.l0 k x (1970 + i) 1 c2 c3 c4 c5 = some ((1970 : Int) + n, (m : Int) + 1, d, c3, c4, c5, 0) ∧ Cal (ysum i + x) n m d := by
  induction j with
  | zero =>
    intro k i x c2 c3 c4 c5 hk hi h0 hx
    obtain ⟨k, rfl⟩ : ∃ z, k = z + 1 := ⟨k - 1, by omega⟩
    have hy := ydays_bd (1970 + i)
    rw [datetime_Split.l0, yearDays_f, Option.bind_some, if_neg (by omega)]
    obtain ⟨m, d, hl, hcal⟩ := split_l1 11 k 0 i x c2 c3 c4 c5 rfl (by omega) (by omega) h0 (by simp only [msum]; omega)
    refine ⟨i, m, d, hl, ?_⟩
    simpa [msum] using hcal
  | succ j ih =>
    intro k i x c2 c3 c4 c5 hk hi h0 hx
    obtain ⟨k, rfl⟩ : ∃ z, k = z + 1 := ⟨k - 1, by omega⟩
    have hy := ydays_bd (1970 + i)
    rw [datetime_Split.l0, yearDays_f, Option.bind_some]
    by_cases hc : x ≥ ydays (1970 + i)
    · rw [if_pos hc, Option.bind_some, wrap_id (x := x - ydays (1970 + i)) (by omega) (by omega), wrap_id (x := (1970 : Int) + i + 1) (by omega) (by omega)]
      obtain ⟨n, m, d, hl, hcal⟩ := ih k (i + 1) (x - ydays (1970 + i)) c2 c3 c4 c5 (by omega) (by omega) (by omega) (by push_cast at hx; omega)
      refine ⟨n, m, d, ?_, ?_⟩
      · rw [← hl]; congr 1
      · have e : ysum (i + 1) = ysum i + ydays (1970 + i) := rfl
        have es : ysum (i + 1) + (x - ydays (1970 + i)) = ysum i + x := by rw [e]; omega
        rw [es] at hcal
        exact hcal
    · rw [if_neg hc]
      obtain ⟨m, d, hl, hcal⟩ := split_l1 11 k 0 i x c2 c3 c4 c5 rfl (by omega) (by omega) h0 (by simp only [msum]; omega)
      refine ⟨i, m, d, hl, ?_⟩
      simpa [msum] using hcal

end Go.Proofs.Ytagnefbgclpccaa.Q

namespace Go.Proofs.Ytagnefbgclpccaa.Q
open Go.RowKit Go.Proofs.YtagnefbgclpccaaW.PrintWords Go.Proofs.YtagnefbgclpccaaW.PrintLast Go.Proofs.Ytagnefbgclpccaa.A Go.Proofs.Ytagnefbgclpccaa.H
set_option linter.unusedVariables false

def TimeOk (t : Int) : Prop := 315532800 ≤ t ∧ t ≤ 4102444799
def ZoneOk (z : Int) : Prop := -1440 ≤ z ∧ z ≤ 1440
def QuarterOk (z : Int) : Prop := z % 15 = 0 ∧ -720 ≤ z ∧ z ≤ 780
instance (t : Int) : Decidable (TimeOk t) := inferInstanceAs (Decidable (_ ∧ _))
instance (t : Int) : Decidable (ZoneOk t) := inferInstanceAs (Decidable (_ ∧ _))
instance (t : Int) : Decidable (QuarterOk t) := inferInstanceAs (Decidable (_ ∧ _))
theorem isTime_f (t : Int) : datetime_isTime.f t = some (decide (TimeOk t)) := by
  unfold datetime_isTime.f TimeOk
  by_cases h : t ≥ 315532800
  · rw [if_pos h]; congr 1; exact decide_eq_decide.mpr ⟨fun h2 => ⟨h, h2⟩, fun h2 => h2.2⟩
  · rw [if_neg h]; congr 1; exact (decide_eq_false (fun h2 => h h2.1)).symm
theorem isZone_f (t : Int) : datetime_isZone.f t = some (decide (ZoneOk t)) := by
  unfold datetime_isZone.f ZoneOk
  by_cases h : t ≥ -1440
  · rw [if_pos h]; congr 1; exact decide_eq_decide.mpr ⟨fun h2 => ⟨h, h2⟩, fun h2 => h2.2⟩
  · rw [if_neg h]; congr 1; exact (decide_eq_false (fun h2 => h h2.1)).symm
theorem tmod15 (z : Int) : Int.tmod z 15 = 0 ↔ z % 15 = 0 := by
  constructor
  · intro h; exact Int.emod_eq_zero_of_dvd (Int.dvd_of_tmod_eq_zero h)
  · intro h; exact Int.tmod_eq_zero_of_dvd (Int.dvd_of_emod_eq_zero h)
theorem isQuarter_f (z : Int) : datetime_isQuarter.f z = some (decide (QuarterOk z)) := by
  unfold datetime_isQuarter.f QuarterOk
  by_cases h0 : Int.tmod z 15 = 0
  · rw [if_pos h0]
    have h1 := (tmod15 z).1 h0
    by_cases h : z ≥ -720
    · rw [if_pos h]; congr 1; exact decide_eq_decide.mpr ⟨fun h2 => ⟨h1, h, h2⟩, fun h2 => h2.2.2⟩
    · rw [if_neg h]; congr 1; exact (decide_eq_false (fun h2 => h h2.2.1)).symm
  · rw [if_neg h0]; congr 1; exact (decide_eq_false (fun h2 => h0 ((tmod15 z).2 h2.1))).symm

/-- Split refuses, or tells the clock. -/
theorem split_no (k : Nat) (t z : Int) (h : ¬ (TimeOk t ∧ ZoneOk z)) : datetime_Split.f (k + 1) t z = some (0, 0, 0, 0, 0, 0, 2) := by
  unfold datetime_Split.f
  rw [isTime_f, isZone_f, Option.bind_some, Option.bind_some]
  by_cases h1 : TimeOk t
  · rw [decide_eq_true h1, if_pos rfl, decide_eq_false (fun h2 => h ⟨h1, h2⟩), datetime_Split.j0]
    rfl
  · rw [decide_eq_false h1, if_neg (by decide), datetime_Split.j0]
    rfl
theorem split_yes (t z : Int) (ht : TimeOk t) (hz : ZoneOk z) :
    ∃ (n m : Nat) (d : Int), datetime_Split.f 400 t z = some ((1970 : Int) + n, (m : Int) + 1, d, (t + 60 * z) % 86400 / 3600, (t + 60 * z) / 60 % 60, (t + 60 * z) % 60, 0) ∧ Cal ((t + 60 * z) / 86400) n m d ∧ n ≤ 131 := by
  obtain ⟨t0, t1⟩ := ht
  obtain ⟨z0, z1⟩ := hz
  unfold datetime_Split.f
  rw [isTime_f, isZone_f, Option.bind_some, Option.bind_some, decide_eq_true (show TimeOk t from ⟨t0, t1⟩), if_pos rfl, decide_eq_true (show ZoneOk z from ⟨z0, z1⟩), datetime_Split.j0, if_neg (by decide)]
  have w1 : wrap64 (60 * z) = 60 * z := wrap_id (by omega) (by omega)
  rw [w1]
  have w2 : wrap64 (t + 60 * z) = t + 60 * z := wrap_id (by omega) (by omega)
  rw [w2]
  generalize hL : t + 60 * z = L
  have l0 : 0 ≤ L := by omega
  have l1 : L ≤ 4102531199 := by omega
  have e1 : Int.tdiv L 86400 = L / 86400 := Int.tdiv_eq_ediv_of_nonneg l0
  have e2 : Int.tmod L 86400 = L % 86400 := Int.tmod_eq_emod_of_nonneg l0
  have e3 : Int.tmod L 60 = L % 60 := Int.tmod_eq_emod_of_nonneg l0
  rw [e1, e2, e3]
  have e4 : Int.tdiv (L % 86400) 3600 = L % 86400 / 3600 := Int.tdiv_eq_ediv_of_nonneg (by omega)
  have e5 : Int.tdiv (L % 86400) 60 = L % 86400 / 60 := Int.tdiv_eq_ediv_of_nonneg (by omega)
  rw [e4, e5, wrap_id (x := L / 86400) (by omega) (by omega), wrap_id (x := L % 86400 / 3600) (by omega) (by omega), wrap_id (x := L % 86400 / 60) (by omega) (by omega)]
  have e6 : Int.tmod (L % 86400 / 60) 60 = L / 60 % 60 := by rw [Int.tmod_eq_emod_of_nonneg (by omega)]; omega
  rw [e6]
  obtain ⟨n, m, d, hl, hc⟩ := split_l0 131 399 0 (L / 86400) 0 (L % 86400 / 3600) (L / 60 % 60) (L % 60) (by omega) (by omega) (by omega) (by omega)
  refine ⟨n, m, d, ?_, ?_, ?_⟩
  · rw [← hl]; rfl
  · simpa [ysum] using hc
  · have h1 := hc.inYear.1
    have h2 := ysum_ge n
    simp [ysum] at h1
    omega

theorem wrap_i8 (n : Int) : IntKind.i8.wrap n = (n + 128) % 256 - 128 := by
  simp [IntKind.wrap, IntKind.bits, IntKind.signed]
  split <;> omega
/-- The seven bytes of a date. -/
def dateL (n m : Nat) (d L z : Int) : List Int := [(70 + n) % 256, ((m : Int) + 1) % 256, d % 256, (L % 86400 / 3600) % 256, (L / 60 % 60) % 256, (L % 60) % 256, (z / 15) % 256]
theorem record_no (k : Nat) (t z : Int) (h : ¬ (TimeOk t ∧ QuarterOk z)) : datetime_Record.f 400 t z = some (⟨#[]⟩, 2) := by
  unfold datetime_Record.f
  by_cases h1 : TimeOk t ∧ ZoneOk z
  · obtain ⟨n, m, d, hs, _⟩ := split_yes t z h1.1 h1.2
    rw [hs, Option.bind_some, if_pos rfl, isQuarter_f, Option.bind_some, decide_eq_false (fun h2 => h ⟨h1.1, h2⟩), if_neg (by decide)]
  · rw [split_no 399 t z h1, Option.bind_some, if_neg (by decide)]
theorem record_yes (t z : Int) (ht : TimeOk t) (hq : QuarterOk z) :
    ∃ (n m : Nat) (d : Int), datetime_Record.f 400 t z = some (strOfNums (dateL n m d (t + 60 * z) z), 0) ∧ Cal ((t + 60 * z) / 86400) n m d ∧ n ≤ 131 := by
  have hz : ZoneOk z := ⟨by have := hq.2.1; omega, by have := hq.2.2; omega⟩
  obtain ⟨n, m, d, hs, hc, hn⟩ := split_yes t z ht hz
  refine ⟨n, m, d, ?_, hc, hn⟩
  unfold datetime_Record.f
  rw [hs, Option.bind_some, if_pos rfl, isQuarter_f, Option.bind_some, decide_eq_true hq, if_pos rfl]
  have e1 : wrap64 (1970 + (n : Int) - 1900) = 70 + n := by rw [wrap_id (by omega) (by omega)]; omega
  have e2 : IntKind.i8.wrap (wrap64 (Int.tdiv z 15)) % 256 = z / 15 % 256 := by
    have e3 : Int.tdiv z 15 = z / 15 := Int.tdiv_eq_ediv_of_dvd (Int.dvd_of_emod_eq_zero hq.1)
    have := hq.2.1
    have := hq.2.2
    rw [e3, wrap_id (by omega) (by omega)]
    rw [wrap_i8]
    omega
  rw [e1, e2]
  rfl

end Go.Proofs.Ytagnefbgclpccaa.Q

namespace Go.Proofs.Ytagnefbgclpccaa.Q
open Go.RowKit Go.Proofs.YtagnefbgclpccaaW.PrintWords Go.Proofs.YtagnefbgclpccaaW.PrintLast Go.Proofs.Ytagnefbgclpccaa.A Go.Proofs.Ytagnefbgclpccaa.H
set_option linter.unusedVariables false

/-- The sum of the days of years from y on, j of them. -/
def ysumFrom (y : Int) : Nat → Int
  | 0 => 0
  | j + 1 => ysumFrom y j + ydays (y + j)
theorem ysumFrom_bd (y : Int) (j : Nat) : 0 ≤ ysumFrom y j ∧ ysumFrom y j ≤ 366 * j := by
  induction j with
  | zero => simp [ysumFrom]
  | succ j ih => have := ydays_bd (y + j); simp only [ysumFrom]; push_cast; omega
theorem ysumFrom_first (y : Int) (j : Nat) : ydays y ≤ ysumFrom y (j + 1) := by
  induction j with
  | zero => simp [ysumFrom]
  | succ j ih => have := ydays_bd (y + (j + 1 : Nat)); have e : ysumFrom y (j + 1 + 1) = ysumFrom y (j + 1) + ydays (y + (j + 1 : Nat)) := rfl; rw [e]; omega
theorem ysumFrom_shift (y : Int) (j : Nat) : ysumFrom y (j + 1) = ydays y + ysumFrom (y + 1) j := by
  induction j with
  | zero => simp [ysumFrom]
  | succ j ih =>
    have e1 : ysumFrom y (j + 1 + 1) = ysumFrom y (j + 1) + ydays (y + (j + 1 : Nat)) := rfl
    have e2 : ysumFrom (y + 1) (j + 1) = ysumFrom (y + 1) j + ydays (y + 1 + j) := rfl
    have e3 : y + 1 + (j : Int) = y + (j + 1 : Nat) := by push_cast; omega
    rw [e1, e2, ih, e3]; omega

/-- What seconds tells behind the sums. -/
def secs (x h mi s : Int) : Int := x * 86400 + h * 3600 + mi * 60 + s
theorem seconds_l2 (j : Nat) : ∀ (k : Nat) (x y cy cm cd h mi s : Int), j + 1 ≤ k → y + j = 1970 → -1000000 ≤ x → x ≤ 1000000 → -100000 ≤ x - ysumFrom y j → 0 ≤ h → h ≤ 23 → 0 ≤ mi → mi ≤ 59 → 0 ≤ s → s ≤ 59 → j ≤ 1000 →
    datetime_seconds.l2 k x y cy cm cd h mi s = some (secs (x - ysumFrom y j) h mi s) := by
  induction j with
  | zero =>
    intro k x y cy cm cd h mi s hk hy x0 x1 x2 a1 a2 a3 a4 a5 a6 hj
    obtain ⟨k, rfl⟩ : ∃ z, k = z + 1 := ⟨k - 1, by omega⟩
    rw [datetime_seconds.l2, if_neg (by omega)]
    rw [wrap_id (x := x * 86400) (by omega) (by omega), wrap_id (x := h * 3600) (by omega) (by omega), wrap_id (x := mi * 60) (by omega) (by omega), wrap_id (x := x * 86400 + h * 3600) (by omega) (by omega), wrap_id (x := x * 86400 + h * 3600 + mi * 60) (by omega) (by omega), wrap_id (by omega) (by omega)]
    simp [ysumFrom, secs]
  | succ j ih =>
    intro k x y cy cm cd h mi s hk hy x0 x1 x2 a1 a2 a3 a4 a5 a6 hj
    obtain ⟨k, rfl⟩ : ∃ z, k = z + 1 := ⟨k - 1, by omega⟩
    have hb := ydays_bd y
    have hs := ysumFrom_shift y j
    have hb2 := ysumFrom_bd (y + 1) j
    rw [datetime_seconds.l2, if_pos (by push_cast at hy; omega), yearDays_f, Option.bind_some, wrap_id (x := x - ydays y) (by omega) (by omega), wrap_id (x := y + 1) (by push_cast at hy; omega) (by push_cast at hy; omega)]
    rw [ih k (x - ydays y) (y + 1) cy cm cd h mi s (by omega) (by push_cast at hy; omega) (by omega) (by omega) (by omega) a1 a2 a3 a4 a5 a6 (by omega)]
    rw [hs]
    congr 2
    omega
theorem seconds_l1 (j : Nat) : ∀ (k i : Nat) (x cm cd h mi s : Int), j + 2 ≤ k → i + j ≤ 1000 → 0 ≤ x → x + 366 * (i + j) ≤ 1000000 → 0 ≤ h → h ≤ 23 → 0 ≤ mi → mi ≤ 59 → 0 ≤ s → s ≤ 59 →
    datetime_seconds.l1 k (x + ysum i) (1970 + i) (1970 + (i + j : Nat)) cm cd h mi s = some (secs (x + ysum (i + j)) h mi s) := by
  induction j with
  | zero =>
    intro k i x cm cd h mi s hk hi h0 h1 a1 a2 a3 a4 a5 a6
    obtain ⟨k, rfl⟩ : ∃ z, k = z + 1 := ⟨k - 1, by omega⟩
    obtain ⟨k, rfl⟩ : ∃ z, k = z + 1 := ⟨k - 1, by omega⟩
    have hy := ysum_le i
    have hy0 := ysum_ge i
    rw [datetime_seconds.l1, if_neg (by simp), datetime_seconds.l2, if_neg (by simp; omega)]
    generalize hx : x + ysum i = X
    rw [wrap_id (x := X * 86400) (by omega) (by omega), wrap_id (x := h * 3600) (by omega) (by omega), wrap_id (x := mi * 60) (by omega) (by omega), wrap_id (x := X * 86400 + h * 3600) (by omega) (by omega), wrap_id (x := X * 86400 + h * 3600 + mi * 60) (by omega) (by omega), wrap_id (by omega) (by omega)]
    rfl
  | succ j ih =>
    intro k i x cm cd h mi s hk hi h0 h1 a1 a2 a3 a4 a5 a6
    obtain ⟨k, rfl⟩ : ∃ z, k = z + 1 := ⟨k - 1, by omega⟩
    have hy := ysum_le i
    have hy0 := ysum_ge i
    have hb := ydays_bd (1970 + i)
    rw [datetime_seconds.l1, if_pos (by push_cast; omega), yearDays_f, Option.bind_some, wrap_id (x := x + ysum i + ydays (1970 + i)) (by push_cast at h1; omega) (by push_cast at h1; omega), wrap_id (x := (1970 : Int) + i + 1) (by omega) (by omega)]
    have e : x + ysum i + ydays (1970 + i) = x + ysum (i + 1) := by simp only [ysum]; omega
    have e2 : (1970 : Int) + i + 1 = 1970 + (i + 1 : Nat) := by push_cast; omega
    have e3 : i + (j + 1) = i + 1 + j := by omega
    rw [e, e2, e3]
    exact ih k (i + 1) x cm cd h mi s (by omega) (by omega) h0 (by push_cast at h1 ⊢; omega) a1 a2 a3 a4 a5 a6

theorem seconds_l0 (j : Nat) : ∀ (k a : Nat) (x cy cd h mi s : Int), a + j ≤ 11 → 0 ≤ x → x ≤ 400 →
    datetime_seconds.l0 (k + j + 1) (x + msum cy a) ((a : Int) + 1) cy ((a + j : Nat) + 1) cd h mi s = datetime_seconds.l1 k (x + msum cy (a + j)) 1970 cy ((a + j : Nat) + 1) cd h mi s := by
  induction j with
  | zero =>
    intro k a x cy cd h mi s ha h0 h1
    rw [datetime_seconds.l0, if_neg (by simp)]
    rfl
  | succ j ih =>
    intro k a x cy cd h mi s ha h0 h1
    have hb := mdays_bd cy (a + 1)
    have hm := msum_le cy a
    rw [datetime_seconds.l0, if_pos (by push_cast; omega)]
    unfold datetime_monthDays.f
    rw [if_pos (by omega), Option.bind_some, wrap_id (x := x + msum cy a + mdays cy (a + 1)) (by omega) (by omega), wrap_id (x := (a : Int) + 1 + 1) (by omega) (by omega)]
    have e : x + msum cy a + mdays cy (a + 1) = x + msum cy (a + 1) := by simp only [msum]; omega
    have e2 : (a : Int) + 1 + 1 = (a + 1 : Nat) + 1 := by push_cast; omega
    have e3 : a + (j + 1) = a + 1 + j := by omega
    rw [e, e2, e3]
    exact ih k (a + 1) x cy cd h mi s (by omega) h0 h1

/-- The seconds of a valid clock from 1970 on. -/
theorem seconds_yes (n m : Nat) (d h mi s : Int) (hn : n ≤ 200) (hm : m ≤ 11) (hd : 1 ≤ d) (hd2 : d ≤ 31) (a1 : 0 ≤ h) (a2 : h ≤ 23) (a3 : 0 ≤ mi) (a4 : mi ≤ 59) (a5 : 0 ≤ s) (a6 : s ≤ 59) :
    datetime_seconds.f 380 (1970 + n) ((m : Int) + 1) d h mi s = some (secs (ysum n + msum (1970 + n) m + (d - 1)) h mi s) := by
  unfold datetime_seconds.f
  rw [wrap_id (x := d - 1) (by omega) (by omega)]
  have h0 := seconds_l0 m (379 - m) 0 (d - 1) (1970 + n) d h mi s (by omega) (by omega) (by omega)
  rw [show 379 - m + m + 1 = 380 by omega] at h0
  simp only [msum, Int.add_zero, Nat.zero_add] at h0
  rw [show ((0 : Nat) : Int) + 1 = 1 from rfl] at h0
  rw [h0]
  have hb := msum_le (1970 + n) m
  have h1 := seconds_l1 n (379 - m) 0 (d - 1 + msum (1970 + n) m) ((m : Int) + 1) d h mi s (by omega) (by omega) (by omega) (by omega) a1 a2 a3 a4 a5 a6
  simp only [ysum, Int.add_zero, Nat.zero_add] at h1
  rw [show (1970 : Int) + ((0 : Nat) : Int) = 1970 from rfl] at h1
  rw [h1]
  congr 2
  omega
/-- The seconds of a valid clock before 1970 are below 0. -/
theorem seconds_no (j m : Nat) (y d h mi s : Int) (hy : y + (j + 1 : Nat) = 1970) (hj : j ≤ 70) (hm : m ≤ 11) (hd : 1 ≤ d) (hd2 : d ≤ mdays y (m + 1)) (a1 : 0 ≤ h) (a2 : h ≤ 23) (a3 : 0 ≤ mi) (a4 : mi ≤ 59) (a5 : 0 ≤ s) (a6 : s ≤ 59) :
    ∃ v, datetime_seconds.f 380 y ((m : Int) + 1) d h mi s = some v ∧ v < 0 ∧ -3000000000 ≤ v := by
  unfold datetime_seconds.f
  have hdm := mdays_bd y (m + 1)
  rw [wrap_id (x := d - 1) (by omega) (by omega)]
  have h0 := seconds_l0 m (379 - m) 0 (d - 1) y d h mi s (by omega) (by omega) (by omega)
  rw [show 379 - m + m + 1 = 380 by omega] at h0
  simp only [msum, Int.add_zero, Nat.zero_add] at h0
  rw [show ((0 : Nat) : Int) + 1 = 1 from rfl] at h0
  rw [h0]
  have hb := msum_le y m
  obtain ⟨k, hk⟩ : ∃ z, 379 - m = z + 1 := ⟨378 - m, by omega⟩
  rw [hk, datetime_seconds.l1, if_neg (by push_cast at hy; omega)]
  have hs := ysumFrom_bd y (j + 1)
  have hf := ysumFrom_first y j
  have h12 := msum_mono y (m + 1) (11 - m)
  rw [show m + 1 + (11 - m) = 12 by omega, msum_12] at h12
  have e : msum y (m + 1) = msum y m + mdays y (m + 1) := rfl
  refine ⟨_, seconds_l2 (j + 1) k (d - 1 + msum y m) y y ((m : Int) + 1) d h mi s (by omega) hy (by omega) (by omega) (by push_cast at hs; omega) a1 a2 a3 a4 a5 a6 (by omega), ?_, ?_⟩
  · unfold secs; omega
  · unfold secs; push_cast at hs; omega

end Go.Proofs.Ytagnefbgclpccaa.Q

namespace Go.Proofs.Ytagnefbgclpccaa.Q
open Go.RowKit Go.Proofs.YtagnefbgclpccaaW.PrintWords Go.Proofs.YtagnefbgclpccaaW.PrintLast Go.Proofs.Ytagnefbgclpccaa.A Go.Proofs.Ytagnefbgclpccaa.H
set_option linter.unusedVariables false

def validB (y mo d h mi s : Int) : Bool := decide (1 ≤ d ∧ d ≤ mdays y mo) && (inB h 23 && (inB mi 59 && inB s 59))
theorem valid_f (k : Nat) (y mo d h mi s : Int) (y0 : 1900 ≤ y) (y1 : y ≤ 2155) :
    datetime_valid.f (k + 1) y mo d h mi s = some (decide (1 ≤ mo ∧ mo ≤ 12) && validB y mo d h mi s) := by
  unfold datetime_valid.f validB
  rw [if_neg (by omega), if_neg (by omega)]
  by_cases h1 : mo < 1
  · rw [if_pos h1, datetime_valid.j0, if_pos rfl, decide_eq_false (by omega)]
    rfl
  · rw [if_neg h1, datetime_valid.j0]
    by_cases h2 : mo > 12
    · rw [decide_eq_true h2, if_pos rfl, decide_eq_false (by omega)]
      rfl
    · rw [decide_eq_false h2, if_neg (by decide), decide_eq_true (show 1 ≤ mo ∧ mo ≤ 12 by omega)]
      by_cases h3 : d ≥ 1
      · rw [if_pos h3]
        unfold datetime_monthDays.f datetime_valid_1.f
        rw [if_pos (by omega), Option.bind_some]
        by_cases h4 : d ≤ mdays y mo
        · rw [if_pos h4, decide_eq_true (show 1 ≤ d ∧ d ≤ mdays y mo from ⟨h3, h4⟩), Option.bind_some, Option.bind_some, Option.bind_some]
          cases inB h 23 <;> cases inB mi 59 <;> cases inB s 59 <;> rfl
        · rw [if_neg h4, decide_eq_false (show ¬ (1 ≤ d ∧ d ≤ mdays y mo) from fun h5 => h4 h5.2)]
          rfl
      · rw [if_neg h3, decide_eq_false (show ¬ (1 ≤ d ∧ d ≤ mdays y mo) from fun h5 => h3 h5.1)]
        rfl

theorem quarter_f (b : Int) (h0 : 0 ≤ b) (h1 : b ≤ 255) : datetime_quarter.f b = some (15 * ((b + 128) % 256 - 128), decide (-48 ≤ (b + 128) % 256 - 128 ∧ (b + 128) % 256 - 128 ≤ 52)) := by
  unfold datetime_quarter.f
  rw [wrap_i8, wrap_id (x := (b + 128) % 256 - 128) (by omega) (by omega), wrap_id (x := 15 * ((b + 128) % 256 - 128)) (by omega) (by omega)]
  by_cases h : (b + 128) % 256 - 128 ≥ -48
  · rw [if_pos h]
    congr 2
    exact decide_eq_decide.mpr ⟨fun x => ⟨h, x⟩, fun x => x.2⟩
  · rw [if_neg h]
    congr 2
    exact (decide_eq_false (fun x => h x.1)).symm

/-- A valid clock of 1970 and later, read. -/
theorem join_yes (k n m : Nat) (d h mi s z : Int) (hn : n ≤ 185) (hm : m ≤ 11) (hd : 1 ≤ d) (hd2 : d ≤ mdays (1970 + n) (m + 1)) (a1 : 0 ≤ h) (a2 : h ≤ 23) (a3 : 0 ≤ mi) (a4 : mi ≤ 59) (a5 : 0 ≤ s) (a6 : s ≤ 59) (z0 : -720 ≤ z) (z1 : z ≤ 780) :
    datetime_Join.f 380 (1970 + n) ((m : Int) + 1) d h mi s z =
      if TimeOk (secs (ysum n + msum (1970 + n) m + (d - 1)) h mi s - 60 * z) then some (secs (ysum n + msum (1970 + n) m + (d - 1)) h mi s - 60 * z, 0) else some (0, 2) := by
  have hdm := mdays_bd (1970 + n) (m + 1)
  have hv : validB (1970 + n) ((m : Int) + 1) d h mi s = true := by
    unfold validB inB
    rw [decide_eq_true ⟨hd, hd2⟩, decide_eq_true ⟨a1, a2⟩, decide_eq_true ⟨a3, a4⟩, decide_eq_true ⟨a5, a6⟩]
    rfl
  unfold datetime_Join.f
  rw [valid_f 379 _ _ _ _ _ _ (by omega) (by omega), hv, decide_eq_true (by omega), Option.bind_some, Bool.true_and, if_pos rfl, isZone_f, Option.bind_some, decide_eq_true (show ZoneOk z from ⟨by omega, by omega⟩), if_pos rfl, seconds_yes n m d h mi s (by omega) hm hd (by omega) a1 a2 a3 a4 a5 a6, Option.bind_some]
  have b1 := ysum_le n
  have b2 := msum_le (1970 + n) m
  have b0 := ysum_ge n
  generalize hX : secs (ysum n + msum (1970 + n) m + (d - 1)) h mi s = X
  have x0 : 0 ≤ X ∧ X ≤ 10000000000 := by rw [← hX]; unfold secs; omega
  rw [wrap_id (x := 60 * z) (by omega) (by omega), wrap_id (x := X - 60 * z) (by omega) (by omega), isTime_f, Option.bind_some]
  by_cases ht : TimeOk (X - 60 * z)
  · rw [decide_eq_true ht, if_pos rfl, if_pos ht]
  · rw [decide_eq_false ht, if_neg (by decide), if_neg ht]
/-- A valid clock before 1970 is no time. -/
theorem join_no (j m : Nat) (y d h mi s z : Int) (hy : y + (j + 1 : Nat) = 1970) (hj : j ≤ 69) (hm : m ≤ 11) (hd : 1 ≤ d) (hd2 : d ≤ mdays y (m + 1)) (a1 : 0 ≤ h) (a2 : h ≤ 23) (a3 : 0 ≤ mi) (a4 : mi ≤ 59) (a5 : 0 ≤ s) (a6 : s ≤ 59) (z0 : -720 ≤ z) (z1 : z ≤ 780) :
    datetime_Join.f 380 y ((m : Int) + 1) d h mi s z = some (0, 2) := by
  have hdm := mdays_bd y (m + 1)
  have hv : validB y ((m : Int) + 1) d h mi s = true := by
    unfold validB inB
    rw [decide_eq_true ⟨hd, hd2⟩, decide_eq_true ⟨a1, a2⟩, decide_eq_true ⟨a3, a4⟩, decide_eq_true ⟨a5, a6⟩]
    rfl
  obtain ⟨v, hv2, v0, v1⟩ := seconds_no j m y d h mi s hy (by omega) hm hd hd2 a1 a2 a3 a4 a5 a6
  unfold datetime_Join.f
  push_cast at hy
  rw [valid_f 379 _ _ _ _ _ _ (by omega) (by omega), hv, decide_eq_true (by omega), Option.bind_some, Bool.true_and, if_pos rfl, isZone_f, Option.bind_some, decide_eq_true (show ZoneOk z from ⟨by omega, by omega⟩), if_pos rfl, hv2, Option.bind_some]
  rw [wrap_id (x := 60 * z) (by omega) (by omega), wrap_id (x := v - 60 * z) (by omega) (by omega), isTime_f, Option.bind_some, decide_eq_false (by unfold TimeOk; omega), if_neg (by decide)]

end Go.Proofs.Ytagnefbgclpccaa.Q

namespace Go.Proofs.Ytagnefbgclpccaa.Q
open Go.RowKit Go.Proofs.YtagnefbgclpccaaW.PrintWords Go.Proofs.YtagnefbgclpccaaW.PrintLast Go.Proofs.Ytagnefbgclpccaa.A Go.Proofs.Ytagnefbgclpccaa.H
set_option linter.unusedVariables false

/-- More rounds tell the same, over any distance. -/
theorem lift_le {α : Type} {f : Nat → Option α} (hm : ∀ k, LeO (f k) (f (k + 1))) {a b : Nat} (h : a ≤ b) {x : α} (e : f a = some x) : f b = some x := by
  induction b with
  | zero => obtain rfl : a = 0 := by omega
            exact e
  | succ b ih =>
    rcases Nat.lt_or_ge a (b + 1) with h1 | h1
    · exact hm b _ (ih (by omega))
    · obtain rfl : a = b + 1 := by omega
      exact e

theorem bt7 (a b c d e f g : Int) (ha : 0 ≤ a ∧ a ≤ 255) (hb : 0 ≤ b ∧ b ≤ 255) (hc : 0 ≤ c ∧ c ≤ 255) (hd : 0 ≤ d ∧ d ≤ 255) (he : 0 ≤ e ∧ e ≤ 255) (hf : 0 ≤ f ∧ f ≤ 255) (hg : 0 ≤ g ∧ g ≤ 255) :
    bt (strOfNums [a, b, c, d, e, f, g]) 0 = a ∧ bt (strOfNums [a, b, c, d, e, f, g]) 1 = b ∧ bt (strOfNums [a, b, c, d, e, f, g]) 2 = c ∧ bt (strOfNums [a, b, c, d, e, f, g]) 3 = d ∧ bt (strOfNums [a, b, c, d, e, f, g]) 4 = e ∧ bt (strOfNums [a, b, c, d, e, f, g]) 5 = f ∧ bt (strOfNums [a, b, c, d, e, f, g]) 6 = g :=
  ⟨bt_nums _ 0 (by simp) ha.1 ha.2, bt_nums _ 1 (by simp) hb.1 hb.2, bt_nums _ 2 (by simp) hc.1 hc.2, bt_nums _ 3 (by simp) hd.1 hd.2, bt_nums _ 4 (by simp) he.1 he.2, bt_nums _ 5 (by simp) hf.1 hf.2, bt_nums _ 6 (by simp) hg.1 hg.2⟩

/-- What read tells of valid numbers of 1970 and later. -/
theorem read_yes (n m : Nat) (d h mi s z t : Int) (hn : n ≤ 185) (hm : m ≤ 11) (hd : 1 ≤ d) (hd2 : d ≤ mdays (1970 + n) (m + 1)) (a1 : 0 ≤ h) (a2 : h ≤ 23) (a3 : 0 ≤ mi) (a4 : mi ≤ 59) (a5 : 0 ≤ s) (a6 : s ≤ 59) (z0 : -720 ≤ z) (z1 : z ≤ 780)
    (ht : secs (ysum n + msum (1970 + n) m + (d - 1)) h mi s - 60 * z = t) (hok : TimeOk t) : datetime_read.f 400 (1970 + n) ((m : Int) + 1) d h mi s z true = some (t, z, 0) := by
  have hv : validB (1970 + n) ((m : Int) + 1) d h mi s = true := by
    unfold validB inB
    rw [decide_eq_true ⟨hd, hd2⟩, decide_eq_true ⟨a1, a2⟩, decide_eq_true ⟨a3, a4⟩, decide_eq_true ⟨a5, a6⟩]
    rfl
  have hj := join_yes 0 n m d h mi s z hn hm hd hd2 a1 a2 a3 a4 a5 a6 z0 z1
  rw [ht, if_pos hok] at hj
  have hj2 : datetime_Join.f 399 (1970 + n) ((m : Int) + 1) d h mi s z = some (t, 0) := lift_le (f := fun k => datetime_Join.f k (1970 + n) ((m : Int) + 1) d h mi s z) (fun k => datetime_Join.mono _ _ _ _ _ _ _ k) (by omega) hj
  unfold datetime_read.f
  rw [if_pos rfl, valid_f 399 _ _ _ _ _ _ (by omega) (by omega), hv, decide_eq_true (by omega), Option.bind_some, datetime_read.j0, if_neg (by decide), hj2, Option.bind_some, if_pos rfl]

end Go.Proofs.Ytagnefbgclpccaa.Q

namespace Go.Proofs.Ytagnefbgclpccaa.Q
open Go.RowKit Go.Proofs.YtagnefbgclpccaaW.PrintWords Go.Proofs.YtagnefbgclpccaaW.PrintLast Go.Proofs.Ytagnefbgclpccaa.A Go.Proofs.Ytagnefbgclpccaa.H
set_option linter.unusedVariables false

theorem secs_split (L : Int) (h : 0 ≤ L) : secs (L / 86400) (L % 86400 / 3600) (L / 60 % 60) (L % 60) = L := by
  unfold secs
  have a1 : L % 86400 / 60 / 60 = L % 86400 / 3600 := by omega
  have a2 : L / 60 % 60 = L % 86400 / 60 % 60 := by omega
  have a3 : L % 60 = L % 86400 % 60 := by omega
  have a4 : L / 86400 * 86400 + L % 86400 = L := by omega
  rw [a2, a3]
  generalize L / 86400 = q at *
  generalize L % 86400 = r at *
  omega
theorem hms_bd (L : Int) (h : 0 ≤ L) : 0 ≤ L % 86400 / 3600 ∧ L % 86400 / 3600 ≤ 23 ∧ 0 ≤ L / 60 % 60 ∧ L / 60 % 60 ≤ 59 ∧ 0 ≤ L % 60 ∧ L % 60 ≤ 59 := by omega
theorem rr_eq (k : Nat) (S : ByteArray) (hs : (S.size : Int) = 7) : datetime_ReadRecord.f k S =
    (datetime_quarter.f (bt S 6)).bind fun q => datetime_read.f k (wrap64 (1900 + wrap64 (bt S 0))) (wrap64 (bt S 1)) (wrap64 (bt S 2)) (wrap64 (bt S 3)) (wrap64 (bt S 4)) (wrap64 (bt S 5)) q.1 q.2 := by
  unfold datetime_ReadRecord.f
  rw [if_pos hs, if_pos (by omega)]
  cases datetime_quarter.f (bt S 6) with
  | none => rfl
  | some q =>
    rw [Option.bind_some, Option.bind_some, if_pos (by omega), if_pos (by omega), if_pos (by omega), if_pos (by omega), if_pos (by omega), if_pos (by omega)]
    cases datetime_read.f k (wrap64 (1900 + wrap64 (bt S 0))) (wrap64 (bt S 1)) (wrap64 (bt S 2)) (wrap64 (bt S 3)) (wrap64 (bt S 4)) (wrap64 (bt S 5)) q.1 q.2 with
    | none => rfl
    | some r => rfl
theorem readback (t z : Int) (n m : Nat) (d : Int) (ht : TimeOk t) (hq : QuarterOk z) (hc : Cal ((t + 60 * z) / 86400) n m d) (hn : n ≤ 131) :
    datetime_ReadRecord.f 400 (strOfNums (dateL n m d (t + 60 * z) z)) = some (t, z, 0) := by
  have hdm := mdays_bd (1970 + n) (m + 1)
  have hm := hc.month
  have hd := hc.day1
  have hd2 := hc.day2
  obtain ⟨t0, t1⟩ := ht
  obtain ⟨q0, q1, q2⟩ := hq
  generalize hL : t + 60 * z = L at hc ⊢
  have l0 : 0 ≤ L := by omega
  have hs : ((strOfNums (dateL n m d L z)).size : Int) = 7 := by rw [nums_size]; rfl
  obtain ⟨c0, c1, c2, c3, c4, c5, c6⟩ := bt7 ((70 + (n : Int)) % 256) (((m : Int) + 1) % 256) (d % 256) ((L % 86400 / 3600) % 256) ((L / 60 % 60) % 256) ((L % 60) % 256) ((z / 15) % 256) (by omega) (by omega) (by omega) (by omega) (by omega) (by omega) (by omega)
  have hl : dateL n m d L z = [(70 + (n : Int)) % 256, ((m : Int) + 1) % 256, d % 256, (L % 86400 / 3600) % 256, (L / 60 % 60) % 256, (L % 60) % 256, (z / 15) % 256] := rfl
  rw [← hl] at c0 c1 c2 c3 c4 c5 c6
  have b0 : bt (strOfNums (dateL n m d L z)) 0 = 70 + n := by rw [c0]; omega
  have b1 : bt (strOfNums (dateL n m d L z)) 1 = (m : Int) + 1 := by rw [c1]; omega
  have b2 : bt (strOfNums (dateL n m d L z)) 2 = d := by rw [c2]; omega
  have b3 : bt (strOfNums (dateL n m d L z)) 3 = L % 86400 / 3600 := by rw [c3]; omega
  have b4 : bt (strOfNums (dateL n m d L z)) 4 = L / 60 % 60 := by rw [c4]; omega
  have b5 : bt (strOfNums (dateL n m d L z)) 5 = L % 60 := by rw [c5]; omega
  have b6 : bt (strOfNums (dateL n m d L z)) 6 = z / 15 % 256 := c6
  clear c0 c1 c2 c3 c4 c5 c6 hl
  generalize strOfNums (dateL n m d L z) = S at *
  rw [rr_eq 400 S hs, b6, quarter_f _ (by omega) (by omega), Option.bind_some, b0, b1, b2, b3, b4, b5]
  have ez : 15 * ((z / 15 % 256 + 128) % 256 - 128) = z := by omega
  have eq : decide (-48 ≤ (z / 15 % 256 + 128) % 256 - 128 ∧ (z / 15 % 256 + 128) % 256 - 128 ≤ 52) = true := decide_eq_true (by omega)
  have w0 : wrap64 (1900 + wrap64 (70 + (n : Int))) = 1970 + n := by
    rw [wrap_id (x := 70 + (n : Int)) (by omega) (by omega), wrap_id (by omega) (by omega)]
    omega
  have w1 : wrap64 ((m : Int) + 1) = (m : Int) + 1 := wrap_id (by omega) (by omega)
  have w2 : wrap64 d = d := wrap_id (by omega) (by omega)
  have w3 : wrap64 (L % 86400 / 3600) = L % 86400 / 3600 := wrap_id (by omega) (by omega)
  have w4 : wrap64 (L / 60 % 60) = L / 60 % 60 := wrap_id (by omega) (by omega)
  have w5 : wrap64 (L % 60) = L % 60 := wrap_id (by omega) (by omega)
  rw [eq, ez, w0, w1, w2, w3, w4, w5]
  have hsum := hc.sum
  have hx : secs (ysum n + msum (1970 + n) m + (d - 1)) (L % 86400 / 3600) (L / 60 % 60) (L % 60) - 60 * z = t := by
    rw [hsum, secs_split L l0]; omega
  have b := hms_bd L l0
  exact read_yes n m d (L % 86400 / 3600) (L / 60 % 60) (L % 60) z t (Nat.le_trans hn (by decide)) hm hd hd2 b.1 b.2.1 b.2.2.1 b.2.2.2.1 b.2.2.2.2.1 b.2.2.2.2.2 q1 q2 hx ⟨t0, t1⟩

end Go.Proofs.Ytagnefbgclpccaa.Q

namespace Go.Proofs.Ytagnefbgclpccaa.Q
open Go.RowKit Go.Proofs.YtagnefbgclpccaaW.PrintWords Go.Proofs.YtagnefbgclpccaaW.PrintLast Go.Proofs.Ytagnefbgclpccaa.A Go.Proofs.Ytagnefbgclpccaa.H
set_option linter.unusedVariables false

theorem zeros_size (n : Nat) : (strOfNums (List.replicate n 0)).size = n := by
  show ((List.replicate n (0 : Int)).map _).toArray.size = n
  simp
theorem encL_length (size : Int) (s1 s2 d : ByteArray) (a5 : Int) (s3 a0 : ByteArray) (t : List UInt8) :
    (encL size s1 s2 d a5 s3 a0 t).length = 6 + s1.size + s2.size + d.size + s3.size + a0.size + t.length := by
  unfold encL
  simp only [List.length_cons, List.length_append, Array.length_toList]
  simp only [ByteArray.size]
  omega
theorem bytes_size (l : List UInt8) : (⟨l.toArray⟩ : ByteArray).size = l.length := by
  show l.toArray.size = l.length
  simp

def theDate : ByteArray := ⟨#[126, 11, 16, 17, 4, 5, 4]⟩
def both20 : ByteArray := ⟨#[20, 0, 0, 0, 0, 0, 0, 20]⟩
def both5 : ByteArray := ⟨#[5, 0, 0, 0, 0, 0, 0, 5]⟩
def both1 : ByteArray := ⟨#[1, 0, 0, 1]⟩
theorem t_date : datetime_Record.f 400 1794845045 60 = some (theDate, 0) := by kernel_rfl
theorem t_both20 : endian_Both.f 20 4 = some (both20, 0) := by kernel_rfl
theorem t_both5 : endian_Both.f 5 4 = some (both5, 0) := by kernel_rfl
theorem t_both1 : endian_Both.f 1 2 = some (both1, 0) := by kernel_rfl

/-- The example with other strings: what is encoded has the size, or is refused where there is none. -/
theorem enc_zeros (x y : ByteArray) (hx : x.size ≤ 255) (hy : y.size ≤ 255) :
    ∃ s e, dirrecord_Encode.f 400 x 20 5 1794845045 60 0 1 y = some (s, e) ∧ (s.size : Int) = sizeV x.size y.size ∧ (e == 0) = decide (0 < sizeV x.size y.size) := by
  unfold dirrecord_Encode.f
  rw [if_pos ⟨by omega, by omega⟩]
  by_cases h0 : x.size = 0
  · rw [if_pos h0]
    have hz : sizeV x.size y.size = 0 := by unfold sizeV; rw [if_neg (by omega)]
    exact ⟨_, _, rfl, by rw [hz]; rfl, by rw [hz]; rfl⟩
  · rw [if_neg h0]
    by_cases h1 : (y.size : Int) % 2 ≠ 0
    · rw [if_pos h1]
      have hz : sizeV x.size y.size = 0 := by unfold sizeV; rw [if_neg (by omega)]
      exact ⟨_, _, rfl, by rw [hz]; rfl, by rw [hz]; rfl⟩
    · rw [if_neg h1, size_eq 399]
      simp only [Option.bind_some]
      by_cases h2 : sizeV x.size y.size = 0
      · rw [if_pos h2]
        exact ⟨_, _, rfl, by rw [h2]; rfl, by rw [h2]; rfl⟩
      · rw [if_neg h2, t_date, t_both20, t_both5, t_both1]
        simp only [Option.bind_some]
        have g1 : theDate.size = 7 := rfl
        have g2 : both20.size = 8 := rfl
        have g3 : both5.size = 8 := rfl
        have g4 : both1.size = 4 := rfl
        rw [if_pos ⟨by omega, by omega, by omega, by omega, by omega, by omega⟩, if_neg (by decide), if_neg (by decide), if_neg (by decide)]
        have hv : sizeV x.size y.size = (34 + (x.size : Int)) / 2 * 2 + y.size ∧ 0 < sizeV x.size y.size := by
          unfold sizeV at h2 ⊢
          split at h2
          · split at h2
            · rw [if_pos (by assumption), if_pos (by assumption)]
              omega
            · exact absurd rfl h2
          · exact absurd rfl h2
        have hd : decide (0 < sizeV x.size y.size) = true := decide_eq_true hv.2
        have ly : y.data.toList.length = y.size := Array.length_toList
        by_cases h3 : (x.size : Int) % 2 = 0
        · rw [if_pos h3]
          refine ⟨_, _, rfl, ?_, by rw [hd]; rfl⟩
          rw [bytes_size, encL_length, g1, g2, g3, g4, List.length_cons, ly, hv.1]
          omega
        · rw [if_neg h3]
          refine ⟨_, _, rfl, ?_, by rw [hd]; rfl⟩
          rw [bytes_size, encL_length, g1, g2, g3, g4, ly, hv.1]
          omega

end Go.Proofs.Ytagnefbgclpccaa.Q

namespace Go.Proofs.Ytagnefbgclpccaa.Q
open Go.RowKit Go.Proofs.YtagnefbgclpccaaW.PrintWords Go.Proofs.YtagnefbgclpccaaW.PrintLast Go.Proofs.Ytagnefbgclpccaa.A Go.Proofs.Ytagnefbgclpccaa.H
set_option linter.unusedVariables false

/-! What dirrecord.Encode returns, for any record. -/
theorem le4_len (n : Int) : (le4 n).size = 4 := rfl
theorem be4_len (n : Int) : (be4 n).size = 4 := rfl
theorem le2_len (n : Int) : (le2 n).size = 2 := rfl
theorem be2_len (n : Int) : (be2 n).size = 2 := rfl

/-- The numbers of a record lie within their bounds. -/
def GoodR (a1 a2 a3 a4 a5 a6 : Int) : Prop := (0 ≤ a1 ∧ a1 < 4294967296) ∧ (0 ≤ a2 ∧ a2 < 4294967296) ∧ (TimeOk a3 ∧ QuarterOk a4) ∧ (0 ≤ a5 ∧ a5 ≤ 255) ∧ (0 ≤ a6 ∧ a6 < 65536)

theorem both_f4 (n : Int) : endian_Both.f n 4 = if 0 ≤ n ∧ n < 4294967296 then some (le4 n ++ be4 n, 0) else some ((⟨#[]⟩ : ByteArray), 2) := by
  unfold endian_Both.f; rw [if_pos rfl]
theorem both_f2 (n : Int) : endian_Both.f n 2 = if 0 ≤ n ∧ n < 65536 then some (le2 n ++ be2 n, 0) else some ((⟨#[]⟩ : ByteArray), 2) := by
  unfold endian_Both.f; rw [if_neg (by decide), if_pos rfl]
theorem ee_ne_l {e e1 : Int} (h : e ≠ 0) : ee e e1 ≠ 0 := by unfold ee; split <;> omega
theorem ee_ne_r {e e1 : Int} (h : e1 ≠ 0) : ee e e1 ≠ 0 := by unfold ee; split <;> omega

/-- What stands between the identifier and Use. -/
def padL (a0 : ByteArray) : List UInt8 := if (a0.size : Int) % 2 = 0 then [0] else []

theorem size_bds {a b : Int} (h : sizeV a b ≠ 0) : sizeV a b = (34 + a) / 2 * 2 + b ∧ 1 ≤ a ∧ a ≤ 254 ∧ 0 ≤ b ∧ b ≤ 254 ∧ b % 2 = 0 ∧ sizeV a b ≤ 254 ∧ 34 ≤ sizeV a b := by
  unfold sizeV at h ⊢
  split at h
  · split at h
    · rw [if_pos (by assumption), if_pos (by assumption)]
      omega
    · exact absurd rfl h
  · exact absurd rfl h

theorem enc_nosize (a0 : ByteArray) (a1 a2 a3 a4 a5 a6 : Int) (a7 : ByteArray) (z0 : a0.size ≤ 9223372036854775807) (z7 : a7.size ≤ 9223372036854775807) (h : sizeV a0.size a7.size = 0) :
    dirrecord_Encode.f 400 a0 a1 a2 a3 a4 a5 a6 a7 = some ((⟨#[]⟩ : ByteArray), if a0.size = 0 ∨ (a7.size : Int) % 2 ≠ 0 then 1 else 7) := by
  unfold dirrecord_Encode.f
  rw [if_pos ⟨z0, z7⟩]
  by_cases h0 : a0.size = 0
  · rw [if_pos h0, if_pos (Or.inl h0)]
  · rw [if_neg h0]
    by_cases h1 : (a7.size : Int) % 2 ≠ 0
    · rw [if_pos h1, if_pos (Or.inr h1)]
    · rw [if_neg h1, if_neg (by omega), size_eq 399, Option.bind_some, if_pos h]

theorem enc_bad (a0 : ByteArray) (a1 a2 a3 a4 a5 a6 : Int) (a7 : ByteArray) (h : sizeV a0.size a7.size ≠ 0) (hg : ¬ GoodR a1 a2 a3 a4 a5 a6) :
    dirrecord_Encode.f 400 a0 a1 a2 a3 a4 a5 a6 a7 = some ((⟨#[]⟩ : ByteArray), 2) := by
  obtain ⟨_, i0, i1, u0, u1, u2, _, _⟩ := size_bds h
  unfold dirrecord_Encode.f
  rw [if_pos ⟨by omega, by omega⟩, if_neg (by omega), if_neg (by omega), size_eq 399, Option.bind_some, if_neg h]
  have hd : ∃ d e, datetime_Record.f 400 a3 a4 = some (d, e) ∧ d.size ≤ 1000 ∧ (e = 0 → TimeOk a3 ∧ QuarterOk a4) := by
    by_cases hq : TimeOk a3 ∧ QuarterOk a4
    · obtain ⟨n, m, d, hr, _⟩ := record_yes a3 a4 hq.1 hq.2
      exact ⟨_, _, hr, by simp [dateL, strOfNums, ByteArray.size], fun _ => hq⟩
    · exact ⟨_, _, record_no 400 a3 a4 hq, by decide, fun h => by omega⟩
  have hb : ∀ n, ∃ p e, endian_Both.f n 4 = some (p, e) ∧ p.size ≤ 1000 ∧ (e = 0 → 0 ≤ n ∧ n < 4294967296) := fun n => by
    by_cases hn : 0 ≤ n ∧ n < 4294967296
    · exact ⟨_, _, by rw [both_f4, if_pos hn], by rw [ByteArray.size_append, le4_len, be4_len]; decide, fun _ => hn⟩
    · exact ⟨_, _, by rw [both_f4, if_neg hn], by decide, fun h => by omega⟩
  have hc : ∃ p e, endian_Both.f a6 2 = some (p, e) ∧ p.size ≤ 1000 ∧ (e = 0 → 0 ≤ a6 ∧ a6 < 65536) := by
    by_cases hn : 0 ≤ a6 ∧ a6 < 65536
    · exact ⟨_, _, by rw [both_f2, if_pos hn], by rw [ByteArray.size_append, le2_len, be2_len]; decide, fun _ => hn⟩
    · exact ⟨_, _, by rw [both_f2, if_neg hn], by decide, fun h => by omega⟩
  obtain ⟨d, e, hd, zd, kd⟩ := hd
  obtain ⟨p1, e1, h1, z1, k1⟩ := hb a1
  obtain ⟨p2, e2, h2, z2, k2⟩ := hb a2
  obtain ⟨p3, e3, h3, z3, k3⟩ := hc
  rw [hd, h1, h2, h3, Option.bind_some, Option.bind_some, Option.bind_some, Option.bind_some, if_pos ⟨by omega, by omega, zd, z1, z2, z3⟩]
  show (if ee (ee (ee e e1) e2) e3 ≠ 0 then _ else _) = _
  by_cases hw : ee (ee (ee e e1) e2) e3 ≠ 0
  · rw [if_pos hw]
  · rw [if_neg hw]
    have q3 : e3 = 0 := Classical.byContradiction fun h => hw (ee_ne_r h)
    have q2 : e2 = 0 := Classical.byContradiction fun h => hw (ee_ne_l (ee_ne_r h))
    have q1 : e1 = 0 := Classical.byContradiction fun h => hw (ee_ne_l (ee_ne_l (ee_ne_r h)))
    have q0 : e = 0 := Classical.byContradiction fun h => hw (ee_ne_l (ee_ne_l (ee_ne_l h)))
    by_cases f0 : a5 < 0
    · rw [if_pos f0]
    · rw [if_neg f0]
      by_cases f1 : 255 < a5
      · rw [if_pos f1]
      · exact absurd ⟨k1 q1, k2 q2, kd q0, ⟨by omega, by omega⟩, k3 q3⟩ hg

/-- The bytes of a record. -/
def recL (a0 : ByteArray) (a1 a2 : Int) (d : ByteArray) (a5 a6 : Int) (t : List UInt8) (n : Int) : List UInt8 :=
  encL n (le4 a1 ++ be4 a1) (le4 a2 ++ be4 a2) d a5 (le2 a6 ++ be2 a6) a0 t

theorem enc_good (a0 : ByteArray) (a1 a2 a3 a4 a5 a6 : Int) (a7 : ByteArray) (h : sizeV a0.size a7.size ≠ 0) (hg : GoodR a1 a2 a3 a4 a5 a6) :
    ∃ (n m : Nat) (d : Int), dirrecord_Encode.f 400 a0 a1 a2 a3 a4 a5 a6 a7 = some (⟨(recL a0 a1 a2 (strOfNums (dateL n m d (a3 + 60 * a4) a4)) a5 a6 (padL a0 ++ a7.data.toList) (sizeV a0.size a7.size)).toArray⟩, 0) ∧ Cal ((a3 + 60 * a4) / 86400) n m d ∧ n ≤ 131 := by
  obtain ⟨_, i0, i1, u0, u1, u2, _, _⟩ := size_bds h
  obtain ⟨g1, g2, g3, g5, g6⟩ := hg
  obtain ⟨n, m, d, hr, hc, hn⟩ := record_yes a3 a4 g3.1 g3.2
  refine ⟨n, m, d, ?_, hc, hn⟩
  unfold dirrecord_Encode.f
  rw [if_pos ⟨by omega, by omega⟩, if_neg (by omega), if_neg (by omega), size_eq 399, Option.bind_some, if_neg h, hr, both_f4, both_f4, both_f2, if_pos g1, if_pos g2, if_pos g6,
    Option.bind_some, Option.bind_some, Option.bind_some, Option.bind_some,
    if_pos ⟨by omega, by omega, by simp [dateL, strOfNums, ByteArray.size], by rw [ByteArray.size_append, le4_len, be4_len]; decide, by rw [ByteArray.size_append, le4_len, be4_len]; decide, by rw [ByteArray.size_append, le2_len, be2_len]; decide⟩,
    if_neg (fun h => h rfl), if_neg (by omega), if_neg (by omega)]
  unfold padL
  by_cases h2 : (a0.size : Int) % 2 = 0
  · rw [if_pos h2, if_pos h2]; rfl
  · rw [if_neg h2, if_neg h2]; rfl

end Go.Proofs.Ytagnefbgclpccaa.Q

namespace Go.Proofs.Ytagnefbgclpccaa.Q
open Go.RowKit Go.Proofs.YtagnefbgclpccaaW.PrintWords Go.Proofs.YtagnefbgclpccaaW.PrintLast Go.Proofs.Ytagnefbgclpccaa.A Go.Proofs.Ytagnefbgclpccaa.H
set_option linter.unusedVariables false

/-! The bytes of an encoded record, and what dirrecord.Decode tells of them, with more behind. -/
/-- A byte of a list, as a number. -/
def bl (l : List UInt8) (i : Nat) : Int := ((l[i]?).getD 0).toNat
theorem bt_bl (s : ByteArray) (i : Nat) : bt s (i : Int) = bl s.data.toList i := by
  unfold bt bl
  rw [Array.getElem?_toList]
  by_cases h : (i : Int).toNat < s.size
  · rw [dif_pos h]
    have h2 : i < s.data.size := by simpa using h
    rw [Array.getElem?_eq_getElem h2]
    rfl
  · rw [dif_neg h]
    have h2 : s.data.size ≤ i := by simpa using h
    rw [Array.getElem?_eq_none h2]
    rfl
theorem bt_l (l : List UInt8) (i : Nat) : bt (⟨l.toArray⟩ : ByteArray) (i : Int) = bl l i := by
  rw [bt_bl]
theorem ext_l (l : List UInt8) (a b : Nat) : (⟨l.toArray⟩ : ByteArray).extract a b = ⟨((l.drop a).take (b - a)).toArray⟩ := by
  apply ByteArray.ext
  rw [ByteArray.data_extract, List.extract_toArray]
theorem of_toList (s : ByteArray) : (⟨s.data.toList.toArray⟩ : ByteArray) = s := by
  apply ByteArray.ext
  rfl
theorem ext_mid (p x q : List UInt8) (a b : Nat) (ha : p.length = a) (hb : a + x.length = b) : (⟨(p ++ (x ++ q)).toArray⟩ : ByteArray).extract a b = ⟨x.toArray⟩ := by
  rw [ext_l]
  subst ha
  rw [List.drop_left, ← hb, Nat.add_sub_cancel_left, List.take_left]

theorem list8 (l : List UInt8) (h : l.length = 8) : ∃ a b c d e f g i, l = [a, b, c, d, e, f, g, i] := by
  match l, h with
  | [a, b, c, d, e, f, g, i], _ => exact ⟨a, b, c, d, e, f, g, i, rfl⟩
theorem list7 (l : List UInt8) (h : l.length = 7) : ∃ a b c d e f g, l = [a, b, c, d, e, f, g] := by
  match l, h with
  | [a, b, c, d, e, f, g], _ => exact ⟨a, b, c, d, e, f, g, rfl⟩
theorem list4 (l : List UInt8) (h : l.length = 4) : ∃ a b c d, l = [a, b, c, d] := by
  match l, h with
  | [a, b, c, d], _ => exact ⟨a, b, c, d, rfl⟩

/-- The bytes of a record, told from their places. -/
structure Parts (n : Int) (s1 s2 d : ByteArray) (a5 : Int) (s3 a0 : ByteArray) (t : List UInt8) (S : ByteArray) : Prop where
  size : (S.size : Int) = 33 + a0.size + t.length
  b0 : bt S 0 = n % 256
  b1 : bt S 1 = 0
  b25 : bt S 25 = a5 % 256
  b26 : bt S 26 = 0
  b27 : bt S 27 = 0
  b32 : bt S 32 = (a0.size : Int) % 256
  n1 : ∀ i : Nat, i < 8 → bt S (2 + i : Nat) = bt s1 i
  n2 : ∀ i : Nat, i < 8 → bt S (10 + i : Nat) = bt s2 i
  n3 : ∀ i : Nat, i < 4 → bt S (28 + i : Nat) = bt s3 i
  date : S.extract 18 25 = d
  iden : ∀ b, 33 + a0.size = b → S.extract 33 b = a0
  tail : ∀ (p x q : List UInt8) (a b : Nat), t = p ++ (x ++ q) → 33 + a0.size + p.length = a → a + x.length = b → S.extract a b = ⟨x.toArray⟩

theorem bz_int (x : Int) : ((bz x).toNat : Int) = x % 256 := bz_toNat x

theorem parts (n : Int) (s1 s2 d : ByteArray) (a5 : Int) (s3 a0 : ByteArray) (t : List UInt8) (h1 : s1.size = 8) (h2 : s2.size = 8) (hd : d.size = 7) (h3 : s3.size = 4) :
    Parts n s1 s2 d a5 s3 a0 t ⟨(encL n s1 s2 d a5 s3 a0 t).toArray⟩ := by
  have z1 : s1.data.toList.length = 8 := h1
  have z2 : s2.data.toList.length = 8 := h2
  have zd : d.data.toList.length = 7 := hd
  have z3 : s3.data.toList.length = 4 := h3
  have z0 : a0.data.toList.length = a0.size := Array.length_toList
  obtain ⟨x0, x1, x2, x3, x4, x5, x6, x7, ex⟩ := list8 _ z1
  obtain ⟨y0, y1, y2, y3, y4, y5, y6, y7, ey⟩ := list8 _ z2
  obtain ⟨d0, d1, d2, d3, d4, d5, d6, ed⟩ := list7 _ zd
  obtain ⟨w0, w1, w2, w3, ew⟩ := list4 _ z3
  have e : encL n s1 s2 d a5 s3 a0 t = bz n :: 0 :: x0 :: x1 :: x2 :: x3 :: x4 :: x5 :: x6 :: x7 :: y0 :: y1 :: y2 :: y3 :: y4 :: y5 :: y6 :: y7 :: d0 :: d1 :: d2 :: d3 :: d4 :: d5 :: d6 :: bz a5 :: 0 :: 0 :: w0 :: w1 :: w2 :: w3 :: bz a0.size :: (a0.data.toList ++ t) := by
    unfold encL; rw [ex, ey, ed, ew]; rfl
  have k1 : ∀ i, bt s1 (i : Nat) = bl [x0, x1, x2, x3, x4, x5, x6, x7] i := fun i => by rw [bt_bl, ex]
  have k2 : ∀ i, bt s2 (i : Nat) = bl [y0, y1, y2, y3, y4, y5, y6, y7] i := fun i => by rw [bt_bl, ey]
  have k3 : ∀ i, bt s3 (i : Nat) = bl [w0, w1, w2, w3] i := fun i => by rw [bt_bl, ew]
  have hd' : d = ⟨[d0, d1, d2, d3, d4, d5, d6].toArray⟩ := by rw [← ed]
  have sz := encL_length n s1 s2 d a5 s3 a0 t
  have hp : [bz n, 0, x0, x1, x2, x3, x4, x5, x6, x7, y0, y1, y2, y3, y4, y5, y6, y7, d0, d1, d2, d3, d4, d5, d6, bz a5, 0, 0, w0, w1, w2, w3, bz a0.size].length = 33 := rfl
  constructor
  · rw [bytes_size, sz]; omega
  · rw [e]; exact (bt_l _ 0).trans (bz_int n)
  · rw [e]; exact bt_l _ 1
  · rw [e]; exact (bt_l _ 25).trans (bz_int a5)
  · rw [e]; exact bt_l _ 26
  · rw [e]; exact bt_l _ 27
  · rw [e]; exact (bt_l _ 32).trans (bz_int _)
  · intro i hi; rw [e, k1, bt_l]
    match i, hi with
    | 0, _ => rfl | 1, _ => rfl | 2, _ => rfl | 3, _ => rfl | 4, _ => rfl | 5, _ => rfl | 6, _ => rfl | 7, _ => rfl
  · intro i hi; rw [e, k2, bt_l]
    match i, hi with
    | 0, _ => rfl | 1, _ => rfl | 2, _ => rfl | 3, _ => rfl | 4, _ => rfl | 5, _ => rfl | 6, _ => rfl | 7, _ => rfl
  · intro i hi; rw [e, k3, bt_l]
    match i, hi with
    | 0, _ => rfl | 1, _ => rfl | 2, _ => rfl | 3, _ => rfl
  · rw [e, hd']
    exact ext_mid [bz n, 0, x0, x1, x2, x3, x4, x5, x6, x7, y0, y1, y2, y3, y4, y5, y6, y7] [d0, d1, d2, d3, d4, d5, d6] _ 18 25 rfl rfl
  · intro b hb
    rw [e, ← of_toList a0]
    exact ext_mid [bz n, 0, x0, x1, x2, x3, x4, x5, x6, x7, y0, y1, y2, y3, y4, y5, y6, y7, d0, d1, d2, d3, d4, d5, d6, bz a5, 0, 0, w0, w1, w2, w3, bz a0.size] a0.data.toList t 33 b rfl (by rw [z0]; exact hb)
  · intro p x q a b ht ha hb
    rw [e, ht]
    have := ext_mid ([bz n, 0, x0, x1, x2, x3, x4, x5, x6, x7, y0, y1, y2, y3, y4, y5, y6, y7, d0, d1, d2, d3, d4, d5, d6, bz a5, 0, 0, w0, w1, w2, w3, bz a0.size] ++ a0.data.toList ++ p) x q a b (by rw [List.length_append, List.length_append, hp, z0]; exact ha) hb
    simpa only [List.append_assoc, List.cons_append, List.nil_append] using this

/-- What Decode tells of such bytes. -/
theorem dec_parts {n : Int} {s1 s2 d : ByteArray} {a5 : Int} {s3 a0 : ByteArray} {u v : List UInt8} {S : ByteArray} {tt zz : Int} (h : Parts n s1 s2 d a5 s3 a0 (padL a0 ++ (u ++ v)) S)
    (hn : n = (34 + (a0.size : Int)) / 2 * 2 + u.length) (hi : 1 ≤ a0.size) (hi2 : a0.size ≤ 254) (hu : u.length % 2 = 0) (hn2 : n ≤ 254) (hv : v.length ≤ 1000) (h5 : 0 ≤ a5) (h6 : a5 ≤ 255)
    (hr : datetime_ReadRecord.f 400 d = some (tt, zz, 0)) :
    dirrecord_Decode.f 400 S = some (a0, numK S 2 4, numK S 10 4, tt, zz, a5, numK S 28 2, ⟨u.toArray⟩, n, 0) := by
  have hpl : ((padL a0).length : Int) = (34 + (a0.size : Int)) / 2 * 2 - 33 - a0.size := by
    unfold padL
    by_cases h2 : (a0.size : Int) % 2 = 0
    · rw [if_pos h2]; show (1 : Int) = _; omega
    · rw [if_neg h2]; show (0 : Int) = _; omega
  have hs := h.size
  rw [List.length_append, List.length_append] at hs
  have e0 : bt S 0 = n := by rw [h.b0]; omega
  have e32 : bt S 32 = a0.size := by rw [h.b32]; omega
  have ep : padE (bt S 32) = (34 + (a0.size : Int)) / 2 * 2 := by rw [e32]; rfl
  unfold dirrecord_Decode.f
  rw [if_pos (by omega), if_neg (by omega), ep, e0, e32, h.b1, h.b26, h.b27, h.b25, h.date, hr]
  have c0 : (n % 2 != 0) = false := bne_eq_false_iff_eq.2 (by omega)
  have c1 : decide (n < 34) = false := decide_eq_false (by omega)
  have c2 : decide ((S.size : Int) < n) = false := decide_eq_false (by omega)
  have c3 : ((a0.size : Int) == 0) = false := beq_eq_false_iff_ne.2 (by omega)
  have c4 : decide (n < (34 + (a0.size : Int)) / 2 * 2) = false := decide_eq_false (by omega)
  rw [c0, c1, c2, c3, c4, if_neg (by decide), if_neg (by decide), Option.bind_some, if_pos rfl, h.iden (33 + (a0.size : Int)).toNat (by omega), h.tail (padL a0) u v ((34 + (a0.size : Int)) / 2 * 2).toNat n.toNat rfl (by omega) (by omega)]
  have e5 : a5 % 256 = a5 := by omega
  rw [e5]

end Go.Proofs.Ytagnefbgclpccaa.Q

namespace Go.Proofs.Ytagnefbgclpccaa.Q
open Go.RowKit Go.Proofs.YtagnefbgclpccaaW.PrintWords Go.Proofs.YtagnefbgclpccaaW.PrintLast Go.Proofs.Ytagnefbgclpccaa.A Go.Proofs.Ytagnefbgclpccaa.H
set_option linter.unusedVariables false

/-! The numbers of a record in both byte orders, and the offsets where they differ. -/
def big4 (s : ByteArray) (a : Int) : Int := bt s (a + 3) + bt s (a + 2) * 256 + bt s (a + 1) * 65536 + bt s a * 16777216
def big2 (s : ByteArray) (a : Int) : Int := bt s (a + 1) + bt s a * 256

theorem readBoth4 (S : ByteArray) (a : Int) (hs : S.size ≤ 9223372036854775000) (h0 : 0 ≤ a) (h1 : a + 8 ≤ S.size) : endian_ReadBoth.f S a 4 = some (num4 S a, num4 S a == big4 S (a + 4), 0) := by
  unfold endian_ReadBoth.f
  rw [show endian_double.f 4 = some true from rfl, Option.bind_some, if_pos rfl]
  have e : wrap64 (2 * 4) = 8 := by rw [show (2 * 4 : Int) = 8 from rfl]; exact wrap_id (by decide) (by decide)
  have hi : endian_inside.f S a (wrap64 (2 * 4)) = some true := by
    unfold endian_inside.f
    rw [e, if_pos h0, wrap_id (by omega) (by omega), decide_eq_true (by omega)]
  rw [hi, Option.bind_some, if_pos rfl, wrap_id (x := a + 4) (by omega) (by omega)]
  unfold endian_ReadLittle.f endian_ReadBig.f
  rw [if_pos ⟨hs, h0, by omega⟩, if_pos rfl, if_pos ⟨hs, by omega, by omega⟩, if_pos rfl, Option.bind_some, Option.bind_some]
  rfl
theorem readBoth2 (S : ByteArray) (a : Int) (hs : S.size ≤ 9223372036854775000) (h0 : 0 ≤ a) (h1 : a + 4 ≤ S.size) : endian_ReadBoth.f S a 2 = some (num2 S a, num2 S a == big2 S (a + 2), 0) := by
  unfold endian_ReadBoth.f
  rw [show endian_double.f 2 = some true from rfl, Option.bind_some, if_pos rfl]
  have e : wrap64 (2 * 2) = 4 := by rw [show (2 * 2 : Int) = 4 from rfl]; exact wrap_id (by decide) (by decide)
  have hi : endian_inside.f S a (wrap64 (2 * 2)) = some true := by
    unfold endian_inside.f
    rw [e, if_pos h0, wrap_id (by omega) (by omega), decide_eq_true (by omega)]
  rw [hi, Option.bind_some, if_pos rfl, wrap_id (x := a + 2) (by omega) (by omega)]
  unfold endian_ReadLittle.f endian_ReadBig.f
  rw [if_pos ⟨hs, h0, by omega⟩, if_neg (by decide), if_pos rfl, if_pos ⟨hs, by omega, by omega⟩, if_neg (by decide), if_pos rfl, Option.bind_some, Option.bind_some]
  rfl

/-- The offsets of the numbers whose byte orders differ. -/
def differL (S : ByteArray) : List Int := (if num4 S 2 = big4 S 6 then [] else [2]) ++ ((if num4 S 10 = big4 S 14 then [] else [10]) ++ (if num2 S 28 = big2 S 30 then [] else [28]))

theorem differ_step (k : Nat) (S : ByteArray) (x : List Int) (i a n : Int) (z : Int) (q : Bool) (e : Int) (hi : i < 3) (h0 : 0 ≤ i) (hr : rd [2, 10, 28] i = a) (hz : z = if a = 28 then 2 else 4) (hb : endian_ReadBoth.f S a z = some (n, q, e)) (hx : x.length < 100) :
    dirrecord_Differ.l0 (k + 1) S x [2, 10, 28] 3 i = dirrecord_Differ.l0 k S (if q = true then x else x ++ [a]) [2, 10, 28] 3 (i + 1) := by
  rw [dirrecord_Differ.l0]
  rw [if_pos hi, if_pos h0, if_pos (by show i < 3; exact hi), hr, wrap_id (x := i + 1) (by omega) (by omega)]
  by_cases ha : a = 28
  · rw [if_pos ha] at hz
    subst hz
    rw [if_pos ha, hb, Option.bind_some]
    cases q
    · rw [if_neg (fun h => Bool.noConfusion h), if_pos (by omega), if_neg (fun h => Bool.noConfusion h)]
    · rw [if_pos rfl, if_pos rfl]
  · rw [if_neg ha] at hz
    subst hz
    rw [if_neg ha, hb, Option.bind_some]
    cases q
    · rw [if_neg (fun h => Bool.noConfusion h), if_pos (by omega), if_neg (fun h => Bool.noConfusion h)]
    · rw [if_pos rfl, if_pos rfl]
theorem ite_beq (x y : Int) (l : List Int) (a : Int) : (if (x == y) = true then l else l ++ [a]) = l ++ (if x = y then [] else [a]) := by
  by_cases h : x = y
  · rw [if_pos h, if_pos (beq_iff_eq.2 h), List.append_nil]
  · rw [if_neg h, if_neg (by rw [beq_iff_eq]; exact h)]
theorem ite_len (p : Prop) [Decidable p] (a : Int) : (if p then ([] : List Int) else [a]).length ≤ 1 := by split <;> simp
theorem differ_f (k : Nat) (S : ByteArray) (h0 : 34 ≤ S.size) (hs : S.size ≤ 9223372036854775000) : dirrecord_Differ.f (k + 4) S = some (differL S) := by
  unfold dirrecord_Differ.f
  rw [if_neg (by omega), Option.bind_some]
  rw [show ((([2, 10, 28] : List Int).length : Nat) : Int) = 3 from rfl]
  have l1 := ite_len (num4 S 2 = big4 S (2 + 4)) 2
  have l2 := ite_len (num4 S 10 = big4 S (10 + 4)) 10
  rw [differ_step (k + 3) S [] 0 2 _ 4 _ _ (by decide) (by decide) rfl rfl (readBoth4 S 2 hs (by decide) (by omega)) (by decide), ite_beq, List.nil_append]
  rw [differ_step (k + 2) S _ (0 + 1) 10 _ 4 _ _ (by decide) (by decide) rfl rfl (readBoth4 S 10 hs (by decide) (by omega)) (by omega), ite_beq]
  rw [differ_step (k + 1) S _ (0 + 1 + 1) 28 _ 2 _ _ (by decide) (by decide) rfl rfl (readBoth2 S 28 hs (by decide) (by omega)) (by rw [List.length_append]; omega), ite_beq, List.append_assoc]
  rw [dirrecord_Differ.l0, if_neg (by decide)]
  rfl
theorem differ_low (k : Nat) (S : ByteArray) (h0 : S.size < 34) : dirrecord_Differ.f k S = some [] := by
  unfold dirrecord_Differ.f
  rw [if_pos (by omega)]

theorem both4_nums (n : Int) : le4 n ++ be4 n = strOfNums [n % 256, n / 256 % 256, n / 65536 % 256, n / 16777216 % 256, n / 16777216 % 256, n / 65536 % 256, n / 256 % 256, n % 256] := by
  apply ByteArray.ext
  rw [ByteArray.data_append]
  rfl
theorem both2_nums (n : Int) : le2 n ++ be2 n = strOfNums [n % 256, n / 256 % 256, n / 256 % 256, n % 256] := by
  apply ByteArray.ext
  rw [ByteArray.data_append]
  rfl
theorem byte_bd (n : Int) : 0 ≤ n % 256 ∧ n % 256 ≤ 255 := by omega
theorem both4_bt (n : Int) : bt (le4 n ++ be4 n) 0 = n % 256 ∧ bt (le4 n ++ be4 n) 1 = n / 256 % 256 ∧ bt (le4 n ++ be4 n) 2 = n / 65536 % 256 ∧ bt (le4 n ++ be4 n) 3 = n / 16777216 % 256 ∧
    bt (le4 n ++ be4 n) 4 = n / 16777216 % 256 ∧ bt (le4 n ++ be4 n) 5 = n / 65536 % 256 ∧ bt (le4 n ++ be4 n) 6 = n / 256 % 256 ∧ bt (le4 n ++ be4 n) 7 = n % 256 := by
  rw [both4_nums]
  have b := fun n => (byte_bd n).1
  have c := fun n => (byte_bd n).2
  exact ⟨bt_nums _ 0 (by simp) (b _) (c _), bt_nums _ 1 (by simp) (b _) (c _), bt_nums _ 2 (by simp) (b _) (c _), bt_nums _ 3 (by simp) (b _) (c _), bt_nums _ 4 (by simp) (b _) (c _), bt_nums _ 5 (by simp) (b _) (c _), bt_nums _ 6 (by simp) (b _) (c _), bt_nums _ 7 (by simp) (b _) (c _)⟩
theorem both2_bt (n : Int) : bt (le2 n ++ be2 n) 0 = n % 256 ∧ bt (le2 n ++ be2 n) 1 = n / 256 % 256 ∧ bt (le2 n ++ be2 n) 2 = n / 256 % 256 ∧ bt (le2 n ++ be2 n) 3 = n % 256 := by
  rw [both2_nums]
  have b := fun n => (byte_bd n).1
  have c := fun n => (byte_bd n).2
  exact ⟨bt_nums _ 0 (by simp) (b _) (c _), bt_nums _ 1 (by simp) (b _) (c _), bt_nums _ 2 (by simp) (b _) (c _), bt_nums _ 3 (by simp) (b _) (c _)⟩
theorem bytes4 (n : Int) (h0 : 0 ≤ n) (h1 : n < 4294967296) : n % 256 + n / 256 % 256 * 256 + n / 65536 % 256 * 65536 + n / 16777216 % 256 * 16777216 = n := by omega
theorem bytes2 (n : Int) (h0 : 0 ≤ n) (h1 : n < 65536) : n % 256 + n / 256 % 256 * 256 = n := by omega

theorem nums_ok {n a1 a2 a5 a6 : Int} {d a0 : ByteArray} {t : List UInt8} {S : ByteArray} (P : Parts n (le4 a1 ++ be4 a1) (le4 a2 ++ be4 a2) d a5 (le2 a6 ++ be2 a6) a0 t S)
    (g1 : 0 ≤ a1 ∧ a1 < 4294967296) (g2 : 0 ≤ a2 ∧ a2 < 4294967296) (g6 : 0 ≤ a6 ∧ a6 < 65536) :
    numK S 2 4 = a1 ∧ numK S 10 4 = a2 ∧ numK S 28 2 = a6 ∧ differL S = [] := by
  obtain ⟨x0, x1, x2, x3, x4, x5, x6, x7⟩ := both4_bt a1
  obtain ⟨y0, y1, y2, y3, y4, y5, y6, y7⟩ := both4_bt a2
  obtain ⟨w0, w1, w2, w3⟩ := both2_bt a6
  have e1 : num4 S 2 = a1 := by
    unfold num4
    rw [show bt S 2 = _ from P.n1 0 (by decide), show bt S (2 + 1) = _ from P.n1 1 (by decide), show bt S (2 + 2) = _ from P.n1 2 (by decide), show bt S (2 + 3) = _ from P.n1 3 (by decide)]
    rw [show bt _ ((0 : Nat) : Int) = _ from x0, show bt _ ((1 : Nat) : Int) = _ from x1, show bt _ ((2 : Nat) : Int) = _ from x2, show bt _ ((3 : Nat) : Int) = _ from x3]
    exact bytes4 a1 g1.1 g1.2
  have e2 : big4 S 6 = a1 := by
    unfold big4
    rw [show bt S 6 = _ from P.n1 4 (by decide), show bt S (6 + 1) = _ from P.n1 5 (by decide), show bt S (6 + 2) = _ from P.n1 6 (by decide), show bt S (6 + 3) = _ from P.n1 7 (by decide)]
    rw [show bt _ ((4 : Nat) : Int) = _ from x4, show bt _ ((5 : Nat) : Int) = _ from x5, show bt _ ((6 : Nat) : Int) = _ from x6, show bt _ ((7 : Nat) : Int) = _ from x7]
    exact bytes4 a1 g1.1 g1.2
  have e3 : num4 S 10 = a2 := by
    unfold num4
    rw [show bt S 10 = _ from P.n2 0 (by decide), show bt S (10 + 1) = _ from P.n2 1 (by decide), show bt S (10 + 2) = _ from P.n2 2 (by decide), show bt S (10 + 3) = _ from P.n2 3 (by decide)]
    rw [show bt _ ((0 : Nat) : Int) = _ from y0, show bt _ ((1 : Nat) : Int) = _ from y1, show bt _ ((2 : Nat) : Int) = _ from y2, show bt _ ((3 : Nat) : Int) = _ from y3]
    exact bytes4 a2 g2.1 g2.2
  have e4 : big4 S 14 = a2 := by
    unfold big4
    rw [show bt S 14 = _ from P.n2 4 (by decide), show bt S (14 + 1) = _ from P.n2 5 (by decide), show bt S (14 + 2) = _ from P.n2 6 (by decide), show bt S (14 + 3) = _ from P.n2 7 (by decide)]
    rw [show bt _ ((4 : Nat) : Int) = _ from y4, show bt _ ((5 : Nat) : Int) = _ from y5, show bt _ ((6 : Nat) : Int) = _ from y6, show bt _ ((7 : Nat) : Int) = _ from y7]
    exact bytes4 a2 g2.1 g2.2
  have e5 : num2 S 28 = a6 := by
    unfold num2
    rw [show bt S 28 = _ from P.n3 0 (by decide), show bt S (28 + 1) = _ from P.n3 1 (by decide)]
    rw [show bt _ ((0 : Nat) : Int) = _ from w0, show bt _ ((1 : Nat) : Int) = _ from w1]
    exact bytes2 a6 g6.1 g6.2
  have e6 : big2 S 30 = a6 := by
    unfold big2
    rw [show bt S 30 = _ from P.n3 2 (by decide), show bt S (30 + 1) = _ from P.n3 3 (by decide)]
    rw [show bt _ ((2 : Nat) : Int) = _ from w2, show bt _ ((3 : Nat) : Int) = _ from w3]
    exact bytes2 a6 g6.1 g6.2
  refine ⟨?_, ?_, ?_, ?_⟩
  · unfold numK; rw [if_pos rfl, e1]
  · unfold numK; rw [if_pos rfl, e3]
  · unfold numK; rw [if_neg (by decide), e5]
  · unfold differL; rw [e1, e2, e3, e4, e5, e6, if_pos rfl, if_pos rfl, if_pos rfl]; rfl

end Go.Proofs.Ytagnefbgclpccaa.Q

namespace Go.Proofs.Ytagnefbgclpccaa.Q
open Go.RowKit Go.Proofs.YtagnefbgclpccaaW.PrintWords Go.Proofs.YtagnefbgclpccaaW.PrintLast Go.Proofs.Ytagnefbgclpccaa.A Go.Proofs.Ytagnefbgclpccaa.H
set_option linter.unusedVariables false

/-! What is encoded is decoded as the same record. -/
theorem awake_true' : masterdisclaw20_awake.f = some true := rfl
theorem empty_list : (⟨#[]⟩ : ByteArray).toList = [] := by rw [Lib.toList_data]
theorem encL_append (n : Int) (s1 s2 d : ByteArray) (a5 : Int) (s3 a0 : ByteArray) (t b : List UInt8) : encL n s1 s2 d a5 s3 a0 t ++ b = encL n s1 s2 d a5 s3 a0 (t ++ b) := by
  unfold encL
  simp only [List.append_assoc, List.cons_append]
theorem mk_append (l : List UInt8) (b : ByteArray) : (⟨l.toArray⟩ : ByteArray) ++ b = ⟨(l ++ b.data.toList).toArray⟩ := by
  apply ByteArray.ext
  rw [ByteArray.data_append]
  simp

/-- What is known of an encoded record, with anything behind. -/
theorem round (a0 : ByteArray) (a1 a2 a3 a4 a5 a6 : Int) (a7 : ByteArray) (h : sizeV a0.size a7.size ≠ 0) (hg : GoodR a1 a2 a3 a4 a5 a6) :
    ∃ s : ByteArray, dirrecord_Encode.f 400 a0 a1 a2 a3 a4 a5 a6 a7 = some (s, 0) ∧ (s.size : Int) = sizeV a0.size a7.size ∧ bt s 0 = sizeV a0.size a7.size ∧ differL s = [] ∧
      (∀ b : ByteArray, b.size ≤ 1000 → dirrecord_Decode.f 400 (s ++ b) = some (a0, a1, a2, a3, a4, a5, a6, a7, sizeV a0.size a7.size, 0)) := by
  obtain ⟨n, m, d, he, hc, hn⟩ := enc_good a0 a1 a2 a3 a4 a5 a6 a7 h hg
  obtain ⟨v, i0, i1, u0, u1, u2, v1, v2⟩ := size_bds h
  obtain ⟨g1, g2, g3, g5, g6⟩ := hg
  have l7 : a7.data.toList.length = a7.size := Array.length_toList
  have P := fun t => parts (sizeV a0.size a7.size) (le4 a1 ++ be4 a1) (le4 a2 ++ be4 a2) (strOfNums (dateL n m d (a3 + 60 * a4) a4)) a5 (le2 a6 ++ be2 a6) a0 t
        (by rw [ByteArray.size_append, le4_len, be4_len]) (by rw [ByteArray.size_append, le4_len, be4_len]) (by simp [dateL, strOfNums, ByteArray.size]) (by rw [ByteArray.size_append, le2_len, be2_len])
  have hpl : ((padL a0).length : Int) = (34 + (a0.size : Int)) / 2 * 2 - 33 - a0.size := by
    unfold padL
    by_cases h2 : (a0.size : Int) % 2 = 0
    · rw [if_pos h2]; show (1 : Int) = _; omega
    · rw [if_neg h2]; show (0 : Int) = _; omega
  have hr := readback a3 a4 n m d g3.1 g3.2 hc hn
  have P0 := P (padL a0 ++ a7.data.toList)
  have hs := P0.size
  rw [List.length_append, l7] at hs
  refine ⟨_, he, ?_, ?_, ?_, fun b hb => ?_⟩
  · exact hs.trans (by omega)
  · exact P0.b0.trans (by omega)
  · exact (nums_ok P0 g1 g2 g6).2.2.2
  · rw [mk_append, recL, encL_append, List.append_assoc]
    have P1 := P (padL a0 ++ (a7.data.toList ++ b.data.toList))
    have lb : b.data.toList.length = b.size := Array.length_toList
    obtain ⟨k1, k2, k3, _⟩ := nums_ok P1 g1 g2 g6
    rw [dec_parts P1 (by rw [l7]; exact v) (by omega) (by omega) (by rw [l7]; omega) v1 (by rw [lb]; exact hb) g5.1 g5.2 hr, k1, k2, k3, of_toList]

end Go.Proofs.Ytagnefbgclpccaa.Q

namespace Go.Proofs.Ytagnefbgclpccaa.Q
open Go.RowKit Go.Proofs.YtagnefbgclpccaaW.PrintWords Go.Proofs.YtagnefbgclpccaaW.PrintLast Go.Proofs.Ytagnefbgclpccaa.A Go.Proofs.Ytagnefbgclpccaa.H
set_option linter.unusedVariables false

/-! What datetime.ReadRecord tells of any seven bytes; a date that is read and written again is the same bytes. -/
theorem bt_ext (A B : ByteArray) (h : A.size = B.size) (hb : ∀ i : Nat, i < A.size → bt A i = bt B i) : A = B := by
  apply ByteArray.ext
  apply Array.ext
  · exact h
  · intro i h1 h2
    have e := hb i h1
    have a : ((A.data[i]'h1).toNat : Int) = bt A (i : Int) := bt_at A (i : Int) h1
    have b : ((B.data[i]'h2).toNat : Int) = bt B (i : Int) := bt_at B (i : Int) h2
    rw [← a, ← b] at e
    exact UInt8.toNat_inj.1 (Int.ofNat.inj e)
theorem str7 (S : ByteArray) (a b c d e f g : Int) (hs : S.size = 7) (h0 : bt S 0 = a) (h1 : bt S 1 = b) (h2 : bt S 2 = c) (h3 : bt S 3 = d) (h4 : bt S 4 = e) (h5 : bt S 5 = f) (h6 : bt S 6 = g) : strOfNums [a, b, c, d, e, f, g] = S := by
  have r0 := bt_range S 0
  have r1 := bt_range S 1
  have r2 := bt_range S 2
  have r3 := bt_range S 3
  have r4 := bt_range S 4
  have r5 := bt_range S 5
  have r6 := bt_range S 6
  have z := nums_size [a, b, c, d, e, f, g]
  refine bt_ext _ _ (z.trans (by rw [hs]; rfl)) fun i hi => ?_
  rw [z] at hi
  obtain ⟨c0, c1, c2, c3, c4, c5, c6⟩ := bt7 a b c d e f g (by omega) (by omega) (by omega) (by omega) (by omega) (by omega) (by omega)
  match i, hi with
  | 0, _ => exact c0.trans h0.symm
  | 1, _ => exact c1.trans h1.symm
  | 2, _ => exact c2.trans h2.symm
  | 3, _ => exact c3.trans h3.symm
  | 4, _ => exact c4.trans h4.symm
  | 5, _ => exact c5.trans h5.symm
  | 6, _ => exact c6.trans h6.symm

/-- The valid clock of a date's numbers. -/
def clockOk (y mo d h mi s : Int) : Prop := (1 ≤ mo ∧ mo ≤ 12) ∧ (1 ≤ d ∧ d ≤ mdays y mo) ∧ (0 ≤ h ∧ h ≤ 23) ∧ (0 ≤ mi ∧ mi ≤ 59) ∧ (0 ≤ s ∧ s ≤ 59)
theorem valid_clock (k : Nat) (y mo d h mi s : Int) (y0 : 1900 ≤ y) (y1 : y ≤ 2155) : ∃ b : Bool, datetime_valid.f (k + 1) y mo d h mi s = some b ∧ (b = true ↔ clockOk y mo d h mi s) := by
  refine ⟨_, valid_f k y mo d h mi s y0 y1, ?_⟩
  unfold validB inB clockOk
  simp only [Bool.and_eq_true, decide_eq_true_eq]

/-- What read tells of numbers of a date. -/
theorem read_total (y mo d h mi s z : Int) (q : Bool) (y0 : 1900 ≤ y) (y1 : y ≤ 2155) (z0 : q = true → -720 ≤ z ∧ z ≤ 780) :
    ∃ t z' e, datetime_read.f 400 y mo d h mi s z q = some (t, z', e) ∧ (e = 0 ∧ z' = z ∧ q = true ∧ TimeOk t ∧ (∃ n m : Nat, y = 1970 + n ∧ n ≤ 185 ∧ mo = (m : Int) + 1 ∧ m ≤ 11 ∧ 1 ≤ d ∧ d ≤ mdays (1970 + n) (m + 1) ∧ (0 ≤ h ∧ h ≤ 23) ∧ (0 ≤ mi ∧ mi ≤ 59) ∧ (0 ≤ s ∧ s ≤ 59) ∧ t = secs (ysum n + msum (1970 + n) m + (d - 1)) h mi s - 60 * z)
      ∨ e ≠ 0 ∧ t = 0 ∧ z' = 0) := by
  unfold datetime_read.f
  cases q with
  | false => exact ⟨0, 0, 10, by rw [if_neg (by decide), datetime_read.j0, if_pos rfl], Or.inr ⟨by decide, rfl, rfl⟩⟩
  | true =>
    obtain ⟨b, hv, hb⟩ := valid_clock 399 y mo d h mi s y0 y1
    obtain ⟨w0, w1⟩ := z0 rfl
    rw [if_pos rfl, hv, Option.bind_some, datetime_read.j0]
    cases b with
    | false => exact ⟨0, 0, 10, by rw [if_pos (show (!false) = true from rfl)], Or.inr ⟨by decide, rfl, rfl⟩⟩
    | true =>
      obtain ⟨⟨m0, m1⟩, ⟨d0, d1⟩, ⟨h0, h1⟩, ⟨i0, i1⟩, ⟨s0, s1⟩⟩ := hb.1 rfl
      rw [if_neg (by decide)]
      obtain ⟨m, rfl⟩ : ∃ m : Nat, mo = (m : Int) + 1 := ⟨(mo - 1).toNat, by omega⟩
      by_cases hy : 1970 ≤ y
      · obtain ⟨n, rfl⟩ : ∃ n : Nat, y = 1970 + n := ⟨(y - 1970).toNat, by omega⟩
        have hj := join_yes 0 n m d h mi s z (by omega) (by omega) d0 d1 h0 h1 i0 i1 s0 s1 w0 w1
        by_cases ht : TimeOk (secs (ysum n + msum (1970 + n) m + (d - 1)) h mi s - 60 * z)
        · rw [if_pos ht] at hj
          have hj2 := lift_le (f := fun k => datetime_Join.f k (1970 + n) ((m : Int) + 1) d h mi s z) (fun k => datetime_Join.mono _ _ _ _ _ _ _ k) (show 380 ≤ 399 by omega) hj
          refine ⟨_, z, 0, by rw [show datetime_Join.f 399 (1970 + n) ((m : Int) + 1) d h mi s z = _ from hj2, Option.bind_some, if_pos rfl], Or.inl ⟨rfl, rfl, rfl, ht, n, m, rfl, by omega, rfl, by omega, d0, d1, ⟨h0, h1⟩, ⟨i0, i1⟩, ⟨s0, s1⟩, rfl⟩⟩
        · rw [if_neg ht] at hj
          have hj2 := lift_le (f := fun k => datetime_Join.f k (1970 + n) ((m : Int) + 1) d h mi s z) (fun k => datetime_Join.mono _ _ _ _ _ _ _ k) (show 380 ≤ 399 by omega) hj
          exact ⟨0, 0, 2, by rw [show datetime_Join.f 399 (1970 + n) ((m : Int) + 1) d h mi s z = _ from hj2, Option.bind_some, if_neg (by decide)], Or.inr ⟨by decide, rfl, rfl⟩⟩
      · obtain ⟨j, hj0⟩ : ∃ j : Nat, y + (j + 1 : Nat) = 1970 := ⟨(1969 - y).toNat, by omega⟩
        have hj := join_no j m y d h mi s z hj0 (by omega) (by omega) d0 d1 h0 h1 i0 i1 s0 s1 w0 w1
        have hj2 := lift_le (f := fun k => datetime_Join.f k y ((m : Int) + 1) d h mi s z) (fun k => datetime_Join.mono _ _ _ _ _ _ _ k) (show 380 ≤ 399 by omega) hj
        exact ⟨0, 0, 2, by rw [show datetime_Join.f 399 y ((m : Int) + 1) d h mi s z = _ from hj2, Option.bind_some, if_neg (by decide)], Or.inr ⟨by decide, rfl, rfl⟩⟩

theorem secs_back (X h mi s : Int) (a1 : 0 ≤ h) (a2 : h ≤ 23) (a3 : 0 ≤ mi) (a4 : mi ≤ 59) (a5 : 0 ≤ s) (a6 : s ≤ 59) :
    secs X h mi s / 86400 = X ∧ secs X h mi s % 86400 / 3600 = h ∧ secs X h mi s / 60 % 60 = mi ∧ secs X h mi s % 60 = s := by
  unfold secs
  refine ⟨by omega, by omega, ?_, by omega⟩
  have : (X * 86400 + h * 3600 + mi * 60 + s) / 60 = X * 1440 + h * 60 + mi := by omega
  rw [this]
  omega

/-- What is told of seven bytes; where it is a time, it is written as these bytes. -/
theorem rr_total (S : ByteArray) (hs : S.size = 7) :
    ∃ t z e, datetime_ReadRecord.f 400 S = some (t, z, e) ∧ (e = 0 ∧ TimeOk t ∧ QuarterOk z ∧ (∀ (n m : Nat) (d : Int), Cal ((t + 60 * z) / 86400) n m d → strOfNums (dateL n m d (t + 60 * z) z) = S) ∨ e ≠ 0 ∧ t = 0 ∧ z = 0) := by
  have r0 := bt_range S 0
  have r1 := bt_range S 1
  have r2 := bt_range S 2
  have r3 := bt_range S 3
  have r4 := bt_range S 4
  have r5 := bt_range S 5
  have r6 := bt_range S 6
  have w0 : wrap64 (1900 + wrap64 (bt S 0)) = 1900 + bt S 0 := by
    rw [wrap_id (x := bt S 0) (by omega) (by omega), wrap_id (by omega) (by omega)]
  rw [rr_eq 400 S (by omega), quarter_f _ r6.1 r6.2, Option.bind_some, w0, wrap_id (x := bt S 1) (by omega) (by omega), wrap_id (x := bt S 2) (by omega) (by omega), wrap_id (x := bt S 3) (by omega) (by omega), wrap_id (x := bt S 4) (by omega) (by omega), wrap_id (x := bt S 5) (by omega) (by omega)]
  show ∃ t z e, datetime_read.f 400 (1900 + bt S 0) (bt S 1) (bt S 2) (bt S 3) (bt S 4) (bt S 5) (15 * ((bt S 6 + 128) % 256 - 128)) (decide (-48 ≤ (bt S 6 + 128) % 256 - 128 ∧ (bt S 6 + 128) % 256 - 128 ≤ 52)) = some (t, z, e) ∧ _
  generalize hz : (bt S 6 + 128) % 256 - 128 = q
  obtain ⟨t, z, e, hr, hc⟩ := read_total (1900 + bt S 0) (bt S 1) (bt S 2) (bt S 3) (bt S 4) (bt S 5) (15 * q) (decide (-48 ≤ q ∧ q ≤ 52)) (by omega) (by omega) (fun h => by have := of_decide_eq_true h; omega)
  refine ⟨t, z, e, hr, ?_⟩
  rcases hc with ⟨he, hz', hq, ht, n, m, ey, hn, em, hm, d0, d1, ⟨h0, h1⟩, ⟨i0, i1⟩, ⟨s0, s1⟩, et⟩ | hc
  · refine Or.inl ⟨he, ht, ?_, ?_⟩
    · have := of_decide_eq_true hq
      rw [hz']
      exact ⟨by omega, by omega, by omega⟩
    · intro n' m' d' hc
      obtain ⟨b1, b2, b3, b4⟩ := secs_back (ysum n + msum (1970 + n) m + (bt S 2 - 1)) (bt S 3) (bt S 4) (bt S 5) h0 h1 i0 i1 s0 s1
      have eL : t + 60 * z = secs (ysum n + msum (1970 + n) m + (bt S 2 - 1)) (bt S 3) (bt S 4) (bt S 5) := by rw [hz']; omega
      rw [eL] at hc ⊢
      rw [b1] at hc
      obtain ⟨rfl, rfl, rfl⟩ := Cal.unique hc ⟨hm, d0, d1, rfl⟩
      unfold dateL
      rw [b2, b3, b4, hz']
      exact str7 S _ _ _ _ _ _ _ hs (by omega) (by omega) (by omega) (by omega) (by omega) (by omega) (by omega)
  · exact Or.inr hc

end Go.Proofs.Ytagnefbgclpccaa.Q

namespace Go.Proofs.Ytagnefbgclpccaa.Q
open Go.RowKit Go.Proofs.YtagnefbgclpccaaW.PrintWords Go.Proofs.YtagnefbgclpccaaW.PrintLast Go.Proofs.Ytagnefbgclpccaa.A Go.Proofs.Ytagnefbgclpccaa.H
set_option linter.unusedVariables false

/-! A string laid apart as a record is laid; when a number's two halves are those of one number. -/
theorem ext_list (s : ByteArray) (a b : Nat) : (s.extract a b).data.toList = (s.data.toList.drop a).take (b - a) := by
  rw [ByteArray.data_extract, ← Array.toArray_toList (xs := s.data), List.extract_toArray]
theorem ext_split (s : ByteArray) (a b c : Nat) (h0 : a ≤ b) (h1 : b ≤ c) : (s.extract a c).data.toList = (s.extract a b).data.toList ++ (s.extract b c).data.toList := by
  rw [ext_list, ext_list, ext_list]
  have e1 : c - a = (b - a) + (c - b) := by omega
  have e2 : s.data.toList.drop b = (s.data.toList.drop a).drop (b - a) := by rw [List.drop_drop]; congr 1; omega
  rw [e1, e2, List.take_add]
theorem bz_bt (s : ByteArray) (i : Nat) (h : i < s.size) : bz (bt s (i : Int)) = s.data[i]'h := by
  apply UInt8.toNat_inj.1
  have r := bt_range s i
  have a : ((s.data[i]'h).toNat : Int) = bt s (i : Int) := bt_at s (i : Int) h
  have b := bz_toNat (bt s (i : Int))
  omega
theorem ext_one (s : ByteArray) (i : Nat) (h : i < s.size) : (s.extract i (i + 1)).data.toList = [bz (bt s (i : Int))] := by
  rw [ext_list, bz_bt s i h, show i + 1 - i = 1 by omega]
  have hl : i < s.data.toList.length := by rw [Array.length_toList]; exact h
  rw [List.drop_eq_getElem_cons hl]
  simp
theorem ext_size (s : ByteArray) (a b : Nat) (h : b ≤ s.size) : (s.extract a b).size = b - a := by
  rw [ByteArray.size_extract]; omega
theorem bt_extract (s : ByteArray) (a b i : Nat) (h : a + i < b) (hb : b ≤ s.size) : bt (s.extract a b) (i : Int) = bt s ((a + i : Nat) : Int) := by
  rw [bt_bl, bt_bl, ext_list]
  unfold bl
  rw [List.getElem?_take, if_pos (by omega), List.getElem?_drop]

theorem decomp (s : ByteArray) (k p n : Nat) (hk : bt s 32 = k) (h1 : bt s 1 = 0) (h26 : bt s 26 = 0) (h27 : bt s 27 = 0) (hp : 33 + k ≤ p) (hn : p ≤ n) (hs : n ≤ s.size) :
    (s.extract 0 n).data.toList = encL (bt s 0) (s.extract 2 10) (s.extract 10 18) (s.extract 18 25) (bt s 25) (s.extract 28 32) (s.extract 33 (33 + k)) ((s.extract (33 + k) p).data.toList ++ (s.extract p n).data.toList) := by
  unfold encL
  have b1 : (0 : UInt8) = bz (bt s ((1 : Nat) : Int)) := by rw [show bt s ((1 : Nat) : Int) = 0 from h1]; rfl
  have b26 : (0 : UInt8) = bz (bt s ((26 : Nat) : Int)) := by rw [show bt s ((26 : Nat) : Int) = 0 from h26]; rfl
  have b27 : (0 : UInt8) = bz (bt s ((27 : Nat) : Int)) := by rw [show bt s ((27 : Nat) : Int) = 0 from h27]; rfl
  have ek : (((s.extract 33 (33 + k)).size : Nat) : Int) = bt s ((32 : Nat) : Int) := by rw [ext_size s _ _ (by omega), show bt s ((32 : Nat) : Int) = _ from hk]; omega
  rw [ek]
  rw [ext_split s 0 1 n (by omega) (by omega), ext_split s 1 2 n (by omega) (by omega), ext_split s 2 10 n (by omega) (by omega), ext_split s 10 18 n (by omega) (by omega), ext_split s 18 25 n (by omega) (by omega),
    ext_split s 25 26 n (by omega) (by omega), ext_split s 26 27 n (by omega) (by omega), ext_split s 27 28 n (by omega) (by omega), ext_split s 28 32 n (by omega) (by omega), ext_split s 32 33 n (by omega) (by omega), ext_split s 33 (33 + k) n (by omega) (by omega), ext_split s (33 + k) p n (by omega) (by omega)]
  rw [show (s.extract 0 1).data.toList = _ from ext_one s 0 (by omega), show (s.extract 1 2).data.toList = _ from ext_one s 1 (by omega), show (s.extract 25 26).data.toList = _ from ext_one s 25 (by omega), show (s.extract 26 27).data.toList = _ from ext_one s 26 (by omega), show (s.extract 27 28).data.toList = _ from ext_one s 27 (by omega), show (s.extract 32 33).data.toList = _ from ext_one s 32 (by omega)]
  rw [← b1, ← b26, ← b27]
  rfl

theorem bytes_inj (A B : ByteArray) (h : A.data.toList = B.data.toList) : A = B := ByteArray.ext (Array.toList_inj.1 h)
theorem encL_inj (n : Int) (s1 s2 d : ByteArray) (a5 : Int) (s3 a0 : ByteArray) (t : List UInt8) (r1 r2 r3 : ByteArray) (u : List UInt8) (h1 : s1.size = r1.size) (h2 : s2.size = r2.size) (h3 : s3.size = r3.size) :
    encL n s1 s2 d a5 s3 a0 t = encL n r1 r2 d a5 r3 a0 u ↔ s1 = r1 ∧ s2 = r2 ∧ s3 = r3 ∧ t = u := by
  constructor
  · intro h
    unfold encL at h
    have l : ∀ x : ByteArray, x.data.toList.length = x.size := fun x => Array.length_toList
    have h := (List.cons.inj (List.cons.inj h).2).2
    obtain ⟨e1, h⟩ := List.append_inj h (by rw [l, l, h1])
    obtain ⟨e2, h⟩ := List.append_inj h (by rw [l, l, h2])
    obtain ⟨_, h⟩ := List.append_inj h rfl
    have h := (List.cons.inj (List.cons.inj (List.cons.inj h).2).2).2
    obtain ⟨e3, h⟩ := List.append_inj h (by rw [l, l, h3])
    have h := (List.cons.inj h).2
    obtain ⟨_, h⟩ := List.append_inj h rfl
    exact ⟨bytes_inj _ _ e1, bytes_inj _ _ e2, bytes_inj _ _ e3, h⟩
  · rintro ⟨rfl, rfl, rfl, rfl⟩
    rfl

theorem num4_bd (s : ByteArray) (a : Int) : 0 ≤ num4 s a ∧ num4 s a < 4294967296 := by
  have r0 := bt_range s a
  have r1 := bt_range s (a + 1)
  have r2 := bt_range s (a + 2)
  have r3 := bt_range s (a + 3)
  unfold num4
  omega
theorem num2_bd (s : ByteArray) (a : Int) : 0 ≤ num2 s a ∧ num2 s a < 65536 := by
  have r0 := bt_range s a
  have r1 := bt_range s (a + 1)
  unfold num2
  omega
theorem bytes_of4 (a b c d : Int) (ha : 0 ≤ a ∧ a ≤ 255) (hb : 0 ≤ b ∧ b ≤ 255) (hc : 0 ≤ c ∧ c ≤ 255) (hd : 0 ≤ d ∧ d ≤ 255) (x : Int) (hx : x = a + b * 256 + c * 65536 + d * 16777216) :
    x % 256 = a ∧ x / 256 % 256 = b ∧ x / 65536 % 256 = c ∧ x / 16777216 % 256 = d := by omega
theorem both4_iff (s : ByteArray) (a : Nat) (h : a + 8 ≤ s.size) : le4 (num4 s a) ++ be4 (num4 s a) = s.extract a (a + 8) ↔ num4 s a = big4 s (a + 4) := by
  have bd := num4_bd s a
  generalize hx : num4 s a = x at bd ⊢
  obtain ⟨y0, y1, y2, y3, y4, y5, y6, y7⟩ := both4_bt x
  have E := fun i (hi : a + i < a + 8) => bt_extract s a (a + 8) i hi h
  have r0 := bt_range s ((a + 0 : Nat) : Int)
  have r1 := bt_range s ((a + 1 : Nat) : Int)
  have r2 := bt_range s ((a + 2 : Nat) : Int)
  have r3 := bt_range s ((a + 3 : Nat) : Int)
  have r4 := bt_range s ((a + 4 : Nat) : Int)
  have r5 := bt_range s ((a + 5 : Nat) : Int)
  have r6 := bt_range s ((a + 6 : Nat) : Int)
  have r7 := bt_range s ((a + 7 : Nat) : Int)
  have ex : x = bt s ((a + 0 : Nat) : Int) + bt s ((a + 1 : Nat) : Int) * 256 + bt s ((a + 2 : Nat) : Int) * 65536 + bt s ((a + 3 : Nat) : Int) * 16777216 := by
    rw [← hx]; unfold num4; push_cast; rfl
  have eb : big4 s (a + 4) = bt s ((a + 7 : Nat) : Int) + bt s ((a + 6 : Nat) : Int) * 256 + bt s ((a + 5 : Nat) : Int) * 65536 + bt s ((a + 4 : Nat) : Int) * 16777216 := by
    unfold big4
    rw [show (a : Int) + 4 + 3 = ((a + 7 : Nat) : Int) by omega, show (a : Int) + 4 + 2 = ((a + 6 : Nat) : Int) by omega, show (a : Int) + 4 + 1 = ((a + 5 : Nat) : Int) by omega]
    rfl
  constructor
  · intro he
    have g4 := E 4 (by omega)
    have g5 := E 5 (by omega)
    have g6 := E 6 (by omega)
    have g7 := E 7 (by omega)
    rw [← he] at g4 g5 g6 g7
    rw [eb, ← g4, ← g5, ← g6, ← g7]
    rw [show bt (le4 x ++ be4 x) ((4 : Nat) : Int) = _ from y4, show bt (le4 x ++ be4 x) ((5 : Nat) : Int) = _ from y5, show bt (le4 x ++ be4 x) ((6 : Nat) : Int) = _ from y6, show bt (le4 x ++ be4 x) ((7 : Nat) : Int) = _ from y7]
    exact (bytes4 x bd.1 bd.2).symm
  · intro he
    rw [eb] at he
    obtain ⟨f0, f1, f2, f3⟩ := bytes_of4 _ _ _ _ r0 r1 r2 r3 x ex
    obtain ⟨f7, f6, f5, f4⟩ := bytes_of4 _ _ _ _ r7 r6 r5 r4 x he
    have hz : (le4 x ++ be4 x).size = 8 := by rw [ByteArray.size_append, le4_len, be4_len]
    refine bt_ext _ _ (by rw [hz, ext_size s _ _ h]; omega) fun i hi => ?_
    rw [hz] at hi
    rw [E i (by omega)]
    match i, hi with
    | 0, _ => exact y0.trans f0
    | 1, _ => exact y1.trans f1
    | 2, _ => exact y2.trans f2
    | 3, _ => exact y3.trans f3
    | 4, _ => exact y4.trans f4
    | 5, _ => exact y5.trans f5
    | 6, _ => exact y6.trans f6
    | 7, _ => exact y7.trans f7
theorem both2_iff (s : ByteArray) (a : Nat) (h : a + 4 ≤ s.size) : le2 (num2 s a) ++ be2 (num2 s a) = s.extract a (a + 4) ↔ num2 s a = big2 s (a + 2) := by
  have bd := num2_bd s a
  generalize hx : num2 s a = x at bd ⊢
  obtain ⟨y0, y1, y2, y3⟩ := both2_bt x
  have E := fun i (hi : a + i < a + 4) => bt_extract s a (a + 4) i hi h
  have r0 := bt_range s ((a + 0 : Nat) : Int)
  have r1 := bt_range s ((a + 1 : Nat) : Int)
  have r2 := bt_range s ((a + 2 : Nat) : Int)
  have r3 := bt_range s ((a + 3 : Nat) : Int)
  have ex : x = bt s ((a + 0 : Nat) : Int) + bt s ((a + 1 : Nat) : Int) * 256 := by
    rw [← hx]; unfold num2; push_cast; rfl
  have eb : big2 s (a + 2) = bt s ((a + 3 : Nat) : Int) + bt s ((a + 2 : Nat) : Int) * 256 := by
    unfold big2
    rw [show (a : Int) + 2 + 1 = ((a + 3 : Nat) : Int) by omega]
    rfl
  constructor
  · intro he
    have g2 := E 2 (by omega)
    have g3 := E 3 (by omega)
    rw [← he] at g2 g3
    rw [eb, ← g2, ← g3]
    rw [show bt (le2 x ++ be2 x) ((2 : Nat) : Int) = _ from y2, show bt (le2 x ++ be2 x) ((3 : Nat) : Int) = _ from y3]
    exact (bytes2 x bd.1 bd.2).symm
  · intro he
    rw [eb] at he
    have hz : (le2 x ++ be2 x).size = 4 := by rw [ByteArray.size_append, le2_len, be2_len]
    refine bt_ext _ _ (by rw [hz, ext_size s _ _ h]; omega) fun i hi => ?_
    rw [hz] at hi
    rw [E i (by omega)]
    match i, hi with
    | 0, _ => exact y0.trans (by omega)
    | 1, _ => exact y1.trans (by omega)
    | 2, _ => exact y2.trans (by omega)
    | 3, _ => exact y3.trans (by omega)

end Go.Proofs.Ytagnefbgclpccaa.Q

namespace Go.Proofs.Ytagnefbgclpccaa.Q
open Go.RowKit Go.Proofs.YtagnefbgclpccaaW.PrintWords Go.Proofs.YtagnefbgclpccaaW.PrintLast Go.Proofs.Ytagnefbgclpccaa.A Go.Proofs.Ytagnefbgclpccaa.H
set_option linter.unusedVariables false

/-! What is decoded and encoded again. -/
/-- What Decode tells of a string that it takes. -/
structure Taken (s : ByteArray) (k p n : Nat) (t z : Int) : Prop where
  n0 : bt s 0 = n
  k0 : bt s 32 = k
  ev : n % 2 = 0
  low : 34 ≤ n
  high : n ≤ 254
  len : n ≤ s.size
  one : 1 ≤ k
  pad : p = (34 + k) / 2 * 2
  pn : p ≤ n
  b1 : bt s 1 = 0
  b26 : bt s 26 = 0
  b27 : bt s 27 = 0
  time : TimeOk t
  zone : QuarterOk z
  date : ∀ (n m : Nat) (d : Int), Cal ((t + 60 * z) / 86400) n m d → strOfNums (dateL n m d (t + 60 * z) z) = s.extract 18 25
  rr : datetime_ReadRecord.f 400 (s.extract 18 25) = some (t, z, 0)

theorem dec_total (s : ByteArray) (hs : s.size ≤ 9223372036854775000) :
    (∃ e, e ≠ 0 ∧ dirrecord_Decode.f 400 s = some ((⟨#[]⟩ : ByteArray), 0, 0, 0, 0, 0, 0, (⟨#[]⟩ : ByteArray), 0, e)) ∨
    (∃ k p n t z, Taken s k p n t z ∧ dirrecord_Decode.f 400 s = some (s.extract 33 (33 + k), num4 s 2, num4 s 10, t, z, bt s 25, num2 s 28, s.extract p n, (n : Int), 0)) := by
  unfold dirrecord_Decode.f
  rw [if_pos hs]
  by_cases h34 : s.size < 34
  · exact Or.inl ⟨10, by decide, by rw [if_pos h34]⟩
  · rw [if_neg h34]
    cases hq : ((bt s 0 % 2 != 0) || (decide (bt s 0 < 34) || (decide ((s.size : Int) < bt s 0) || ((bt s 32 == 0) || decide (bt s 0 < padE (bt s 32))))))
    · rw [if_neg (by decide)]
      simp only [Bool.or_eq_false_iff, bne_eq_false_iff_eq, beq_eq_false_iff_ne, decide_eq_false_iff_not] at hq
      obtain ⟨q0, q1, q2, q3, q4⟩ := hq
      cases hu : ((bt s 1 != 0) || ((bt s 26 != 0) || (bt s 27 != 0)))
      · rw [if_neg (by decide)]
        simp only [Bool.or_eq_false_iff, bne_eq_false_iff_eq] at hu
        obtain ⟨u1, u26, u27⟩ := hu
        obtain ⟨t, z, e, hr, hc⟩ := rr_total (s.extract 18 25) (by rw [ext_size s _ _ (by omega)])
        rw [hr, Option.bind_some]
        rcases hc with ⟨rfl, ht, hz, hd⟩ | ⟨he, rfl, rfl⟩
        · refine Or.inr ⟨(bt s 32).toNat, (padE (bt s 32)).toNat, (bt s 0).toNat, t, z, ?_, ?_⟩
          · have r0 := bt_range s 0
            have r32 := bt_range s 32
            unfold padE at q4 ⊢
            exact ⟨by omega, by omega, by omega, by omega, by omega, by omega, by omega, by omega, by omega, u1, u26, u27, ht, hz, hd, hr⟩
          · have r0 := bt_range s 0
            have r32 := bt_range s 32
            rw [if_pos rfl]
            have e1 : (33 + bt s 32).toNat = 33 + (bt s 32).toNat := by omega
            have e2 : (((bt s 0).toNat : Nat) : Int) = bt s 0 := by omega
            rw [e1, e2]
            rfl
        · exact Or.inl ⟨e, he, by rw [if_neg he]⟩
      · exact Or.inl ⟨14, by decide, by rw [if_pos rfl]⟩
    · exact Or.inl ⟨10, by decide, by rw [if_pos rfl]⟩

end Go.Proofs.Ytagnefbgclpccaa.Q

namespace Go.Proofs.Ytagnefbgclpccaa.Q
open Go.RowKit Go.Proofs.YtagnefbgclpccaaW.PrintWords Go.Proofs.YtagnefbgclpccaaW.PrintLast Go.Proofs.Ytagnefbgclpccaa.A Go.Proofs.Ytagnefbgclpccaa.H
set_option linter.unusedVariables false

/-! One byte of a record's number changed. -/
theorem xor_low (a b lo i : Nat) (h : lo < 2 ^ i) : (2 ^ i * a + lo) ^^^ (2 ^ i * b) = 2 ^ i * (a ^^^ b) + lo := by
  apply Nat.eq_of_testBit_eq
  intro j
  have e : 2 ^ i * b = 2 ^ i * b + 0 := rfl
  rw [Nat.testBit_xor, Nat.testBit_two_pow_mul_add a h, e, Nat.testBit_two_pow_mul_add b (Nat.two_pow_pos i), Nat.testBit_two_pow_mul_add _ h]
  by_cases hj : j < i
  · rw [if_pos hj, if_pos hj, if_pos hj, Nat.zero_testBit, Bool.xor_false]
  · rw [if_neg hj, if_neg hj, if_neg hj, Nat.testBit_xor]
theorem xor_top (hi bk x : Nat) (hb : bk < 256) (hx : x < 256) : (2 ^ 8 * hi + bk) ^^^ x = 2 ^ 8 * hi + (bk ^^^ x) := by
  apply Nat.eq_of_testBit_eq
  intro j
  have h8 : bk ^^^ x < 2 ^ 8 := Nat.xor_lt_two_pow hb hx
  rw [Nat.testBit_xor, Nat.testBit_two_pow_mul_add hi (show bk < 2 ^ 8 from hb), Nat.testBit_two_pow_mul_add hi h8]
  by_cases hj : j < 8
  · rw [if_pos hj, if_pos hj, Nat.testBit_xor]
  · rw [if_neg hj, if_neg hj]
    have : x.testBit j = false := Nat.testBit_lt_two_pow (Nat.lt_of_lt_of_le (show x < 2 ^ 8 from hx) (Nat.pow_le_pow_right (by decide) (by omega)))
    rw [this, Bool.xor_false]
theorem i64_xor_nat (a b : Nat) (ha : a < 4294967296) (hb : b < 4294967296) : bits .xor .i64 (a : Int) (b : Int) = ((a ^^^ b : Nat) : Int) := by
  have hx : a ^^^ b < 2 ^ 32 := Nat.xor_lt_two_pow (by omega) (by omega)
  show IntKind.i64.wrap ((BitVec.ofInt 64 (a : Int) ^^^ BitVec.ofInt 64 (b : Int)).toNat : Int) = _
  rw [BitVec.toNat_xor, ofInt_u64 a (by omega), ofInt_u64 b (by omega), IntKind.wrap_i64]
  omega
/-- An exclusive or with a byte, moved by k bytes, changes this byte. -/
theorem xor_byte (s M : Nat) (hM : M = 2 ^ s) (lo hi bk x : Nat) (hs : M ≤ 16777216) (hlo : lo < M) (hbk : bk < 256) (hx : x < 256) (hN : M * (256 * hi + bk) + lo < 4294967296) :
    bits .xor .i64 ((M * (256 * hi + bk) + lo : Nat) : Int) (wrap64 (wrap64 (x : Int) * 2 ^ s)) = ((M * (256 * hi + (bk ^^^ x)) + lo : Nat) : Int) := by
  subst hM
  have h8 : bk ^^^ x < 2 ^ 8 := Nat.xor_lt_two_pow hbk hx
  have e1 : wrap64 (x : Int) = x := wrap_id (by omega) (by omega)
  have hp : 2 ^ s * x ≤ 16777216 * 255 := Nat.mul_le_mul hs (by omega)
  have e3 : ((x : Int) * 2 ^ s) = ((2 ^ s * x : Nat) : Int) := by push_cast; exact Int.mul_comm _ _
  have e2 : wrap64 ((2 ^ s * x : Nat) : Int) = ((2 ^ s * x : Nat) : Int) := wrap_id (by omega) (by omega)
  rw [e1, e3, e2, i64_xor_nat _ _ hN (by omega), xor_low _ _ _ _ hlo]
  have := xor_top hi bk x hbk hx
  rw [show (256 : Nat) = 2 ^ 8 from rfl, this]

theorem hbytes_at (S : ByteArray) (i : Nat) (h : i < S.size) : (H.bytesOf S)[i]? = some (bt S (i : Int)) := by
  unfold H.bytesOf
  have hl : i < S.data.toList.length := by rw [Array.length_toList]; exact h
  rw [List.getElem?_map, List.getElem?_eq_getElem hl, Option.map_some]
  congr 1
  rw [Array.getElem_toList]
  exact bt_at S (i : Int) h
theorem set_bt (S : ByteArray) (i : Nat) (h : i < S.size) (v : Int) (v0 : 0 ≤ v) (v1 : v ≤ 255) :
    (strOfNums ((H.bytesOf S).set i v)).size = S.size ∧ bt (strOfNums ((H.bytesOf S).set i v)) (i : Int) = v ∧ ∀ j : Nat, j ≠ i → j < S.size → bt (strOfNums ((H.bytesOf S).set i v)) (j : Int) = bt S (j : Int) := by
  have hz : (strOfNums ((H.bytesOf S).set i v)).size = S.size := by rw [nums_size, List.length_set, H.bytesOf_len]
  refine ⟨hz, ?_, fun j hj hjs => ?_⟩
  · have hl : i < ((H.bytesOf S).set i v).length := by rw [List.length_set, H.bytesOf_len]; exact h
    have e : ((H.bytesOf S).set i v)[i] = v := List.getElem_set_self hl
    have := bt_nums _ i hl (by rw [e]; exact v0) (by rw [e]; exact v1)
    rw [this, e]
  · have hl : j < ((H.bytesOf S).set i v).length := by rw [List.length_set, H.bytesOf_len]; exact hjs
    have hl2 : j < (H.bytesOf S).length := by rw [H.bytesOf_len]; exact hjs
    have e : ((H.bytesOf S).set i v)[j] = bt S (j : Int) := by
      rw [List.getElem_set_ne (fun h => hj h.symm)]
      have := hbytes_at S j hjs
      rw [List.getElem?_eq_getElem hl2] at this
      exact Option.some.inj this
    have r := bt_range S (j : Int)
    have := bt_nums _ j hl (by rw [e]; exact r.1) (by rw [e]; exact r.2)
    rw [this, e]

theorem ext_same (S T : ByteArray) (a b : Nat) (hz : T.size = S.size) (hb : b ≤ S.size) (h : ∀ j : Nat, a ≤ j → j < b → bt T (j : Int) = bt S (j : Int)) : T.extract a b = S.extract a b := by
  refine bt_ext _ _ (by rw [ext_size T a b (by omega), ext_size S a b hb]) fun i hi => ?_
  rw [ext_size T a b (by omega)] at hi
  rw [bt_extract T a b i (by omega) (by omega), bt_extract S a b i (by omega) hb]
  exact h (a + i) (by omega) (by omega)

theorem dec_bytes {T : ByteArray} {n k p : Nat} {t z : Int} (hs : T.size ≤ 1000) (n0 : bt T 0 = n) (k0 : bt T 32 = k) (ev : n % 2 = 0) (low : 34 ≤ n) (hn : n ≤ T.size) (one : 1 ≤ k) (pad : p = (34 + k) / 2 * 2) (pn : p ≤ n)
    (b1 : bt T 1 = 0) (b26 : bt T 26 = 0) (b27 : bt T 27 = 0) (hr : datetime_ReadRecord.f 400 (T.extract 18 25) = some (t, z, 0)) :
    dirrecord_Decode.f 400 T = some (T.extract 33 (33 + k), num4 T 2, num4 T 10, t, z, bt T 25, num2 T 28, T.extract p n, (n : Int), 0) := by
  have ep : padE (bt T 32) = (p : Int) := by rw [k0]; unfold padE; omega
  unfold dirrecord_Decode.f
  rw [if_pos (by omega), if_neg (by omega), ep, n0, k0, b1, b26, b27, hr]
  have c0 : ((n : Int) % 2 != 0) = false := bne_eq_false_iff_eq.2 (by omega)
  have c1 : decide ((n : Int) < 34) = false := decide_eq_false (by omega)
  have c2 : decide ((T.size : Int) < n) = false := decide_eq_false (by omega)
  have c3 : ((k : Int) == 0) = false := beq_eq_false_iff_ne.2 (by omega)
  have c4 : decide ((n : Int) < p) = false := decide_eq_false (by omega)
  rw [c0, c1, c2, c3, c4, if_neg (by decide), if_neg (by decide), Option.bind_some, if_pos rfl]
  have e1 : (33 + (k : Int)).toNat = 33 + k := by omega
  rw [e1]
  rfl

/-- What is decoded where only bytes of the numbers differ. -/
theorem dec_change (S T a0 a7 : ByteArray) (a1 a2 a3 a4 a5 a6 : Int) (hs : S.size ≤ 1000) (hT : T.size = S.size) (hb : ∀ j : Nat, ¬ (2 ≤ j ∧ j < 18 ∨ 28 ≤ j ∧ j < 32) → j < S.size → bt T (j : Int) = bt S (j : Int))
    (dS : dirrecord_Decode.f 400 S = some (a0, a1, a2, a3, a4, a5, a6, a7, (S.size : Int), 0)) :
    a1 = num4 S 2 ∧ a2 = num4 S 10 ∧ a6 = num2 S 28 ∧ dirrecord_Decode.f 400 T = some (a0, num4 T 2, num4 T 10, a3, a4, a5, num2 T 28, a7, (S.size : Int), 0) := by
  rcases dec_total S (by omega) with ⟨e, he, hd⟩ | ⟨k, p, n, t, z, K, hd⟩
  · rw [dS] at hd
    have := Option.some.inj hd
    simp only [Prod.mk.injEq] at this
    exact absurd this.2.2.2.2.2.2.2.2.2.symm he
  · rw [dS] at hd
    have := Option.some.inj hd
    simp only [Prod.mk.injEq] at this
    obtain ⟨e0, e1, e2, e3, e4, e5, e6, e7, en, _⟩ := this
    obtain ⟨n0, k0, ev, low, high, len, one, pad, pn, b1, b26, b27, ht, hz, hdt, rr⟩ := K
    have hn : n = S.size := by omega
    have B := fun j (h1 : ¬ (2 ≤ j ∧ j < 18 ∨ 28 ≤ j ∧ j < 32)) (h2 : j < S.size) => hb j h1 h2
    have d : T.extract 18 25 = S.extract 18 25 := ext_same S T 18 25 hT (by omega) fun j h1 h2 => hb j (by omega) (by omega)
    have := dec_bytes (T := T) (n := n) (k := k) (p := p) (t := t) (z := z) (by omega) ((hb 0 (by omega) (by omega)).trans n0) ((hb 32 (by omega) (by omega)).trans k0) ev low (by omega) one pad pn
      ((hb 1 (by omega) (by omega)).trans b1) ((hb 26 (by omega) (by omega)).trans b26) ((hb 27 (by omega) (by omega)).trans b27) (by rw [d]; exact rr)
    refine ⟨e1, e2, e6, ?_⟩
    rw [this, ext_same S T 33 (33 + k) hT (by omega) fun j h1 h2 => hb j (by omega) (by omega), ext_same S T p n hT (by omega) fun j h1 h2 => hb j (by omega) (by omega), show bt T 25 = bt S 25 from hb 25 (by omega) (by omega), ← e0, ← e5, ← e7, ← e3, ← e4, ← hn]

theorem num4_same (S T : ByteArray) (a : Nat) (h : ∀ j : Nat, a ≤ j → j < a + 4 → bt T (j : Int) = bt S (j : Int)) : num4 T a = num4 S a := by
  unfold num4
  rw [h a (by omega) (by omega), show bt T ((a : Int) + 1) = bt S ((a : Int) + 1) from h (a + 1) (by omega) (by omega), show bt T ((a : Int) + 2) = bt S ((a : Int) + 2) from h (a + 2) (by omega) (by omega), show bt T ((a : Int) + 3) = bt S ((a : Int) + 3) from h (a + 3) (by omega) (by omega)]
theorem big4_same (S T : ByteArray) (a : Nat) (h : ∀ j : Nat, a ≤ j → j < a + 4 → bt T (j : Int) = bt S (j : Int)) : big4 T a = big4 S a := by
  unfold big4
  rw [h a (by omega) (by omega), show bt T ((a : Int) + 1) = bt S ((a : Int) + 1) from h (a + 1) (by omega) (by omega), show bt T ((a : Int) + 2) = bt S ((a : Int) + 2) from h (a + 2) (by omega) (by omega), show bt T ((a : Int) + 3) = bt S ((a : Int) + 3) from h (a + 3) (by omega) (by omega)]
theorem num2_same (S T : ByteArray) (a : Nat) (h : ∀ j : Nat, a ≤ j → j < a + 2 → bt T (j : Int) = bt S (j : Int)) : num2 T a = num2 S a := by
  unfold num2
  rw [h a (by omega) (by omega), show bt T ((a : Int) + 1) = bt S ((a : Int) + 1) from h (a + 1) (by omega) (by omega)]
theorem big2_same (S T : ByteArray) (a : Nat) (h : ∀ j : Nat, a ≤ j → j < a + 2 → bt T (j : Int) = bt S (j : Int)) : big2 T a = big2 S a := by
  unfold big2
  rw [h a (by omega) (by omega), show bt T ((a : Int) + 1) = bt S ((a : Int) + 1) from h (a + 1) (by omega) (by omega)]

end Go.Proofs.Ytagnefbgclpccaa.Q

namespace Go.Proofs.Ytagnefbgclpccaa.Q
open Go.RowKit Go.Proofs.YtagnefbgclpccaaW.PrintWords Go.Proofs.YtagnefbgclpccaaW.PrintLast Go.Proofs.Ytagnefbgclpccaa.A Go.Proofs.Ytagnefbgclpccaa.H
set_option linter.unusedVariables false

/-! A change of a half of a number: what is decoded, and which offset differs. -/
theorem xor_ne (a b : Nat) (h : b ≠ 0) : a ^^^ b ≠ a := by
  intro e
  have : a ^^^ (a ^^^ b) = a ^^^ a := by rw [e]
  rw [← Nat.xor_assoc, Nat.xor_self, Nat.zero_xor] at this
  exact h this
/-- A byte changed. -/
theorem byte_xor (o x : Int) (o0 : 0 ≤ o) (o1 : o ≤ 255) (x0 : 0 < x) (x1 : x ≤ 255) : ∃ v : Int, bits .xor .u8 o x = v ∧ 0 ≤ v ∧ v ≤ 255 ∧ v ≠ o ∧ v = ((o.toNat ^^^ x.toNat : Nat) : Int) := by
  have h := u8_xor o x o0 (by omega) (by omega) (by omega)
  have hl : o.toNat ^^^ x.toNat < 2 ^ 8 := Nat.xor_lt_two_pow (by omega) (by omega)
  refine ⟨_, h, by omega, by omega, ?_, rfl⟩
  have := xor_ne o.toNat x.toNat (by omega)
  omega
theorem four (kn : Nat) (h : kn < 4) : kn = 0 ∨ kn = 1 ∨ kn = 2 ∨ kn = 3 := by omega
theorem two (kn : Nat) (h : kn < 2) : kn = 0 ∨ kn = 1 := by omega

theorem at4 (S : ByteArray) (o : Nat) : bt S (o : Int) = bt S ((o + 0 : Nat) : Int) ∧ bt S ((o : Int) + 1) = bt S ((o + 1 : Nat) : Int) ∧ bt S ((o : Int) + 2) = bt S ((o + 2 : Nat) : Int) ∧ bt S ((o : Int) + 3) = bt S ((o + 3 : Nat) : Int) := ⟨rfl, rfl, rfl, rfl⟩
theorem num4_ne (S T : ByteArray) (o kn : Nat) (hk : kn < 4) (hv : bt T ((o + kn : Nat) : Int) ≠ bt S ((o + kn : Nat) : Int)) (hb : ∀ j : Nat, o ≤ j → j < o + 4 → j ≠ o + kn → bt T (j : Int) = bt S (j : Int)) : num4 T o ≠ num4 S o ∧ big4 T o ≠ big4 S o := by
  unfold num4 big4
  obtain ⟨t0, t1, t2, t3⟩ := at4 T o
  obtain ⟨u0, u1, u2, u3⟩ := at4 S o
  rw [t0, t1, t2, t3, u0, u1, u2, u3]
  have H := fun i (h1 : i < 4) (h2 : i ≠ kn) => hb (o + i) (by omega) (by omega) (by omega)
  have r := fun i : Nat => bt_range S ((o + i : Nat) : Int)
  have q := fun i : Nat => bt_range T ((o + i : Nat) : Int)
  rcases four kn hk with rfl | rfl | rfl | rfl
  · rw [H 1 (by omega) (by omega), H 2 (by omega) (by omega), H 3 (by omega) (by omega)]; omega
  · rw [H 0 (by omega) (by omega), H 2 (by omega) (by omega), H 3 (by omega) (by omega)]; omega
  · rw [H 0 (by omega) (by omega), H 1 (by omega) (by omega), H 3 (by omega) (by omega)]; omega
  · rw [H 0 (by omega) (by omega), H 1 (by omega) (by omega), H 2 (by omega) (by omega)]; omega
theorem num2_ne (S T : ByteArray) (o kn : Nat) (hk : kn < 2) (hv : bt T ((o + kn : Nat) : Int) ≠ bt S ((o + kn : Nat) : Int)) (hb : ∀ j : Nat, o ≤ j → j < o + 2 → j ≠ o + kn → bt T (j : Int) = bt S (j : Int)) : num2 T o ≠ num2 S o ∧ big2 T o ≠ big2 S o := by
  unfold num2 big2
  obtain ⟨t0, t1, _, _⟩ := at4 T o
  obtain ⟨u0, u1, _, _⟩ := at4 S o
  rw [t0, t1, u0, u1]
  have H := fun i (h1 : i < 2) (h2 : i ≠ kn) => hb (o + i) (by omega) (by omega) (by omega)
  rcases two kn hk with rfl | rfl
  · rw [H 1 (by omega) (by omega)]; omega
  · rw [H 0 (by omega) (by omega)]; omega

theorem xor4 (S T : ByteArray) (o kn : Nat) (hk : kn < 4) (x : Int) (x0 : 0 < x) (x1 : x ≤ 255) (hv : bt T ((o + kn : Nat) : Int) = bits .xor .u8 (bt S ((o + kn : Nat) : Int)) x) (hb : ∀ j : Nat, o ≤ j → j < o + 4 → j ≠ o + kn → bt T (j : Int) = bt S (j : Int)) :
    bits .xor .i64 (num4 S o) (wrap64 (wrap64 x * 2 ^ (8 * kn))) = num4 T o := by
  have r := fun i : Nat => bt_range S ((o + i : Nat) : Int)
  obtain ⟨v, e1, v0, v1, _, e2⟩ := byte_xor (bt S ((o + kn : Nat) : Int)) x (r kn).1 (r kn).2 x0 x1
  rw [e1] at hv
  clear e1
  unfold num4
  obtain ⟨t0, t1, t2, t3⟩ := at4 T o
  obtain ⟨u0, u1, u2, u3⟩ := at4 S o
  rw [t0, t1, t2, t3, u0, u1, u2, u3]
  have H := fun i (h1 : i < 4) (h2 : i ≠ kn) => hb (o + i) (by omega) (by omega) (by omega)
  have ra := r 0
  have rb := r 1
  have rc := r 2
  have rd := r 3
  obtain ⟨X, rfl⟩ : ∃ X : Nat, x = X := ⟨x.toNat, by omega⟩
  generalize hA : bt S ((o + 0 : Nat) : Int) = a at *
  generalize hB : bt S ((o + 1 : Nat) : Int) = b at *
  generalize hC : bt S ((o + 2 : Nat) : Int) = c at *
  generalize hD : bt S ((o + 3 : Nat) : Int) = d at *
  obtain ⟨A, rfl⟩ : ∃ A : Nat, a = A := ⟨a.toNat, by omega⟩
  obtain ⟨B, rfl⟩ : ∃ A : Nat, b = A := ⟨b.toNat, by omega⟩
  obtain ⟨C, rfl⟩ : ∃ A : Nat, c = A := ⟨c.toNat, by omega⟩
  obtain ⟨D, rfl⟩ : ∃ A : Nat, d = A := ⟨d.toNat, by omega⟩
  rcases four kn hk with rfl | rfl | rfl | rfl
  · rw [hA, Int.toNat_natCast, Int.toNat_natCast] at e2
    rw [hv, e2, H 1 (by omega) (by omega), H 2 (by omega) (by omega), H 3 (by omega) (by omega), hB, hC, hD]
    have h := xor_byte 0 1 rfl 0 (B + 256 * C + 65536 * D) A X (by decide) (by decide) (by omega) (by omega) (by omega)
    rw [show ((1 * (256 * (B + 256 * C + 65536 * D) + A) + 0 : Nat) : Int) = (A : Int) + B * 256 + C * 65536 + D * 16777216 by omega] at h
    rw [h]; omega
  · rw [hB, Int.toNat_natCast, Int.toNat_natCast] at e2
    rw [hv, e2, H 0 (by omega) (by omega), H 2 (by omega) (by omega), H 3 (by omega) (by omega), hA, hC, hD]
    have h := xor_byte 8 256 rfl A (C + 256 * D) B X (by decide) (by omega) (by omega) (by omega) (by omega)
    rw [show ((256 * (256 * (C + 256 * D) + B) + A : Nat) : Int) = (A : Int) + B * 256 + C * 65536 + D * 16777216 by omega] at h
    rw [h]; omega
  · rw [hC, Int.toNat_natCast, Int.toNat_natCast] at e2
    rw [hv, e2, H 0 (by omega) (by omega), H 1 (by omega) (by omega), H 3 (by omega) (by omega), hA, hB, hD]
    have h := xor_byte 16 65536 rfl (A + 256 * B) D C X (by decide) (by omega) (by omega) (by omega) (by omega)
    rw [show ((65536 * (256 * D + C) + (A + 256 * B) : Nat) : Int) = (A : Int) + B * 256 + C * 65536 + D * 16777216 by omega] at h
    rw [h]; omega
  · rw [hD, Int.toNat_natCast, Int.toNat_natCast] at e2
    rw [hv, e2, H 0 (by omega) (by omega), H 1 (by omega) (by omega), H 2 (by omega) (by omega), hA, hB, hC]
    have h := xor_byte 24 16777216 rfl (A + 256 * B + 65536 * C) 0 D X (by decide) (by omega) (by omega) (by omega) (by omega)
    rw [show ((16777216 * (256 * 0 + D) + (A + 256 * B + 65536 * C) : Nat) : Int) = (A : Int) + B * 256 + C * 65536 + D * 16777216 by omega] at h
    rw [h]; omega
theorem xor2 (S T : ByteArray) (o kn : Nat) (hk : kn < 2) (x : Int) (x0 : 0 < x) (x1 : x ≤ 255) (hv : bt T ((o + kn : Nat) : Int) = bits .xor .u8 (bt S ((o + kn : Nat) : Int)) x) (hb : ∀ j : Nat, o ≤ j → j < o + 2 → j ≠ o + kn → bt T (j : Int) = bt S (j : Int)) :
    bits .xor .i64 (num2 S o) (wrap64 (wrap64 x * 2 ^ (8 * kn))) = num2 T o := by
  have r := fun i : Nat => bt_range S ((o + i : Nat) : Int)
  obtain ⟨v, e1, v0, v1, _, e2⟩ := byte_xor (bt S ((o + kn : Nat) : Int)) x (r kn).1 (r kn).2 x0 x1
  rw [e1] at hv
  clear e1
  unfold num2
  obtain ⟨t0, t1, _, _⟩ := at4 T o
  obtain ⟨u0, u1, _, _⟩ := at4 S o
  rw [t0, t1, u0, u1]
  have H := fun i (h1 : i < 2) (h2 : i ≠ kn) => hb (o + i) (by omega) (by omega) (by omega)
  have ra := r 0
  have rb := r 1
  obtain ⟨X, rfl⟩ : ∃ X : Nat, x = X := ⟨x.toNat, by omega⟩
  generalize hA : bt S ((o + 0 : Nat) : Int) = a at *
  generalize hB : bt S ((o + 1 : Nat) : Int) = b at *
  obtain ⟨A, rfl⟩ : ∃ A : Nat, a = A := ⟨a.toNat, by omega⟩
  obtain ⟨B, rfl⟩ : ∃ A : Nat, b = A := ⟨b.toNat, by omega⟩
  rcases two kn hk with rfl | rfl
  · rw [hA, Int.toNat_natCast, Int.toNat_natCast] at e2
    rw [hv, e2, H 1 (by omega) (by omega), hB]
    have h := xor_byte 0 1 rfl 0 B A X (by decide) (by decide) (by omega) (by omega) (by omega)
    rw [show ((1 * (256 * B + A) + 0 : Nat) : Int) = (A : Int) + B * 256 by omega] at h
    rw [h]; omega
  · rw [hB, Int.toNat_natCast, Int.toNat_natCast] at e2
    rw [hv, e2, H 0 (by omega) (by omega), hA]
    have h := xor_byte 8 256 rfl A 0 B X (by decide) (by omega) (by omega) (by omega) (by omega)
    rw [show ((256 * (256 * 0 + B) + A : Nat) : Int) = (A : Int) + B * 256 by omega] at h
    rw [h]; omega
theorem differ_nil' (s : ByteArray) : differL s = [] ↔ num4 s 2 = big4 s 6 ∧ num4 s 10 = big4 s 14 ∧ num2 s 28 = big2 s 30 := by
  unfold differL
  by_cases h1 : num4 s 2 = big4 s 6
  · rw [if_pos h1]
    by_cases h2 : num4 s 10 = big4 s 14
    · rw [if_pos h2]
      by_cases h3 : num2 s 28 = big2 s 30
      · rw [if_pos h3]; exact ⟨fun _ => ⟨h1, h2, h3⟩, fun _ => rfl⟩
      · rw [if_neg h3]; exact ⟨fun h => (nomatch h), fun h => absurd h.2.2 h3⟩
    · rw [if_neg h2]; exact ⟨fun h => (nomatch h), fun h => absurd h.2.1 h2⟩
  · rw [if_neg h1]; exact ⟨fun h => (nomatch h), fun h => absurd h.1 h1⟩

theorem pure_0 (S a0 a7 : ByteArray) (a1 a2 a3 a4 a5 a6 x3 : Int) (kn : Nat) (hk : kn < 4) (x0 : 0 < x3) (x1 : x3 ≤ 255) (hs : S.size ≤ 1000) (h34 : 34 ≤ S.size) (dl : differL S = []) (dS : dirrecord_Decode.f 400 S = some (a0, a1, a2, a3, a4, a5, a6, a7, (S.size : Int), 0))
    (B1 : ByteArray) (hB1 : strOfNums ((H.bytesOf S).set (6 + kn) (bits .xor .u8 ((H.bytesOf S)[6 + kn]?.getD 0) x3)) = B1) (B2 : ByteArray) (hB2 : strOfNums ((H.bytesOf S).set (2 + kn) (bits .xor .u8 ((H.bytesOf S)[2 + kn]?.getD 0) x3)) = B2) :
    ∃ b, bits .xor .i64 a1 (wrap64 (wrap64 x3 * 2 ^ (8 * kn))) = b ∧ dirrecord_Decode.f 400 B2 = some (a0, b, a2, a3, a4, a5, a6, a7, (S.size : Int), 0) ∧ dirrecord_Differ.f 400 B2 = some [2] ∧ dirrecord_Differ.f 400 B1 = some [2] ∧ dirrecord_Decode.f 400 B1 = some (a0, a1, a2, a3, a4, a5, a6, a7, (S.size : Int), 0) := by
  obtain ⟨e2, e10, e28⟩ := (differ_nil' S).1 dl
  rw [hbytes_at S (6 + kn) (by omega), Option.getD_some] at hB1
  rw [hbytes_at S (2 + kn) (by omega), Option.getD_some] at hB2
  have r1 := bt_range S ((6 + kn : Nat) : Int)
  have r2 := bt_range S ((2 + kn : Nat) : Int)
  obtain ⟨v, ev, v0, v1, wB1, _⟩ := byte_xor _ x3 r1.1 r1.2 x0 x1
  obtain ⟨u, eu, u0, u1, wB2, _⟩ := byte_xor _ x3 r2.1 r2.2 x0 x1
  rw [ev] at hB1
  rw [eu] at hB2
  have hB1 := hB1 ▸ set_bt S (6 + kn) (by omega) v v0 v1
  have hB2 := hB2 ▸ set_bt S (2 + kn) (by omega) u u0 u1
  have z1 := hB1.1
  have z2 := hB2.1
  have hN : bits .xor .i64 (num4 S 2) (wrap64 (wrap64 x3 * 2 ^ (8 * kn))) = num4 B2 2 := xor4 S B2 2 kn hk x3 x0 x1 (hB2.2.1.trans eu.symm) fun j h1 h2 h3 => hB2.2.2 j h3 (by omega)
  obtain ⟨k1, k2, k6, dec1⟩ := dec_change S B1 a0 a7 a1 a2 a3 a4 a5 a6 hs z1 (fun j h1 h2 => hB1.2.2 j (by omega) h2) dS
  obtain ⟨_, _, _, dec2⟩ := dec_change S B2 a0 a7 a1 a2 a3 a4 a5 a6 hs z2 (fun j h1 h2 => hB2.2.2 j (by omega) h2) dS
  refine ⟨num4 B2 2, by rw [k1]; exact hN, ?_, by
    have n2 := (num4_ne S B2 2 kn hk (by rw [hB2.2.1]; exact wB2) fun j h1 h2 h3 => hB2.2.2 j h3 (by omega)).1
    have g2 := big4_same S B2 6 fun j h1 h2 => hB2.2.2 j (by omega) (by omega)
    have n10 := num4_same S B2 10 fun j h1 h2 => hB2.2.2 j (by omega) (by omega)
    have g10 := big4_same S B2 14 fun j h1 h2 => hB2.2.2 j (by omega) (by omega)
    have n28 := num2_same S B2 28 fun j h1 h2 => hB2.2.2 j (by omega) (by omega)
    have g28 := big2_same S B2 30 fun j h1 h2 => hB2.2.2 j (by omega) (by omega)
    rw [differ_f 396 B2 (by omega) (by omega)]
    unfold differL
    rw [if_neg (show ¬ (num4 B2 2 = big4 B2 6) from fun h => n2 (h.trans (g2.trans e2.symm)))]
    rw [if_pos (show num4 B2 10 = big4 B2 14 from n10.trans (e10.trans g10.symm))]
    rw [if_pos (show num2 B2 28 = big2 B2 30 from n28.trans (e28.trans g28.symm))]
    rfl
, by
    have n2 := num4_same S B1 2 fun j h1 h2 => hB1.2.2 j (by omega) (by omega)
    have g2 := (num4_ne S B1 6 kn hk (by rw [hB1.2.1]; exact wB1) fun j h1 h2 h3 => hB1.2.2 j h3 (by omega)).2
    have n10 := num4_same S B1 10 fun j h1 h2 => hB1.2.2 j (by omega) (by omega)
    have g10 := big4_same S B1 14 fun j h1 h2 => hB1.2.2 j (by omega) (by omega)
    have n28 := num2_same S B1 28 fun j h1 h2 => hB1.2.2 j (by omega) (by omega)
    have g28 := big2_same S B1 30 fun j h1 h2 => hB1.2.2 j (by omega) (by omega)
    rw [differ_f 396 B1 (by omega) (by omega)]
    unfold differL
    rw [if_neg (show ¬ (num4 B1 2 = big4 B1 6) from fun h => g2 (h.symm.trans (n2.trans e2)))]
    rw [if_pos (show num4 B1 10 = big4 B1 14 from n10.trans (e10.trans g10.symm))]
    rw [if_pos (show num2 B1 28 = big2 B1 30 from n28.trans (e28.trans g28.symm))]
    rfl
, ?_⟩
  · rw [dec2]
    have n10 : num4 B2 10 = num4 S 10 := num4_same S B2 10 fun j h1 h2 => hB2.2.2 j (by omega) (by omega)
    have n28 : num2 B2 28 = num2 S 28 := num2_same S B2 28 fun j h1 h2 => hB2.2.2 j (by omega) (by omega)
    rw [n10, n28, ← k2, ← k6]
  · rw [dec1]
    have n2 : num4 B1 2 = num4 S 2 := num4_same S B1 2 fun j h1 h2 => hB1.2.2 j (by omega) (by omega)
    have n10 : num4 B1 10 = num4 S 10 := num4_same S B1 10 fun j h1 h2 => hB1.2.2 j (by omega) (by omega)
    have n28 : num2 B1 28 = num2 S 28 := num2_same S B1 28 fun j h1 h2 => hB1.2.2 j (by omega) (by omega)
    rw [n2, n10, n28, ← k1, ← k2, ← k6]

theorem pure_1 (S a0 a7 : ByteArray) (a1 a2 a3 a4 a5 a6 x3 : Int) (kn : Nat) (hk : kn < 4) (x0 : 0 < x3) (x1 : x3 ≤ 255) (hs : S.size ≤ 1000) (h34 : 34 ≤ S.size) (dl : differL S = []) (dS : dirrecord_Decode.f 400 S = some (a0, a1, a2, a3, a4, a5, a6, a7, (S.size : Int), 0))
    (B1 : ByteArray) (hB1 : strOfNums ((H.bytesOf S).set (14 + kn) (bits .xor .u8 ((H.bytesOf S)[14 + kn]?.getD 0) x3)) = B1) (B2 : ByteArray) (hB2 : strOfNums ((H.bytesOf S).set (10 + kn) (bits .xor .u8 ((H.bytesOf S)[10 + kn]?.getD 0) x3)) = B2) :
    ∃ b, bits .xor .i64 a2 (wrap64 (wrap64 x3 * 2 ^ (8 * kn))) = b ∧ dirrecord_Decode.f 400 B2 = some (a0, a1, b, a3, a4, a5, a6, a7, (S.size : Int), 0) ∧ dirrecord_Differ.f 400 B2 = some [10] ∧ dirrecord_Differ.f 400 B1 = some [10] ∧ dirrecord_Decode.f 400 B1 = some (a0, a1, a2, a3, a4, a5, a6, a7, (S.size : Int), 0) := by
  obtain ⟨e2, e10, e28⟩ := (differ_nil' S).1 dl
  rw [hbytes_at S (14 + kn) (by omega), Option.getD_some] at hB1
  rw [hbytes_at S (10 + kn) (by omega), Option.getD_some] at hB2
  have r1 := bt_range S ((14 + kn : Nat) : Int)
  have r2 := bt_range S ((10 + kn : Nat) : Int)
  obtain ⟨v, ev, v0, v1, wB1, _⟩ := byte_xor _ x3 r1.1 r1.2 x0 x1
  obtain ⟨u, eu, u0, u1, wB2, _⟩ := byte_xor _ x3 r2.1 r2.2 x0 x1
  rw [ev] at hB1
  rw [eu] at hB2
  have hB1 := hB1 ▸ set_bt S (14 + kn) (by omega) v v0 v1
  have hB2 := hB2 ▸ set_bt S (10 + kn) (by omega) u u0 u1
  have z1 := hB1.1
  have z2 := hB2.1
  have hN : bits .xor .i64 (num4 S 10) (wrap64 (wrap64 x3 * 2 ^ (8 * kn))) = num4 B2 10 := xor4 S B2 10 kn hk x3 x0 x1 (hB2.2.1.trans eu.symm) fun j h1 h2 h3 => hB2.2.2 j h3 (by omega)
  obtain ⟨k1, k2, k6, dec1⟩ := dec_change S B1 a0 a7 a1 a2 a3 a4 a5 a6 hs z1 (fun j h1 h2 => hB1.2.2 j (by omega) h2) dS
  obtain ⟨_, _, _, dec2⟩ := dec_change S B2 a0 a7 a1 a2 a3 a4 a5 a6 hs z2 (fun j h1 h2 => hB2.2.2 j (by omega) h2) dS
  refine ⟨num4 B2 10, by rw [k2]; exact hN, ?_, by
    have n2 := num4_same S B2 2 fun j h1 h2 => hB2.2.2 j (by omega) (by omega)
    have g2 := big4_same S B2 6 fun j h1 h2 => hB2.2.2 j (by omega) (by omega)
    have n10 := (num4_ne S B2 10 kn hk (by rw [hB2.2.1]; exact wB2) fun j h1 h2 h3 => hB2.2.2 j h3 (by omega)).1
    have g10 := big4_same S B2 14 fun j h1 h2 => hB2.2.2 j (by omega) (by omega)
    have n28 := num2_same S B2 28 fun j h1 h2 => hB2.2.2 j (by omega) (by omega)
    have g28 := big2_same S B2 30 fun j h1 h2 => hB2.2.2 j (by omega) (by omega)
    rw [differ_f 396 B2 (by omega) (by omega)]
    unfold differL
    rw [if_pos (show num4 B2 2 = big4 B2 6 from n2.trans (e2.trans g2.symm))]
    rw [if_neg (show ¬ (num4 B2 10 = big4 B2 14) from fun h => n10 (h.trans (g10.trans e10.symm)))]
    rw [if_pos (show num2 B2 28 = big2 B2 30 from n28.trans (e28.trans g28.symm))]
    rfl
, by
    have n2 := num4_same S B1 2 fun j h1 h2 => hB1.2.2 j (by omega) (by omega)
    have g2 := big4_same S B1 6 fun j h1 h2 => hB1.2.2 j (by omega) (by omega)
    have n10 := num4_same S B1 10 fun j h1 h2 => hB1.2.2 j (by omega) (by omega)
    have g10 := (num4_ne S B1 14 kn hk (by rw [hB1.2.1]; exact wB1) fun j h1 h2 h3 => hB1.2.2 j h3 (by omega)).2
    have n28 := num2_same S B1 28 fun j h1 h2 => hB1.2.2 j (by omega) (by omega)
    have g28 := big2_same S B1 30 fun j h1 h2 => hB1.2.2 j (by omega) (by omega)
    rw [differ_f 396 B1 (by omega) (by omega)]
    unfold differL
    rw [if_pos (show num4 B1 2 = big4 B1 6 from n2.trans (e2.trans g2.symm))]
    rw [if_neg (show ¬ (num4 B1 10 = big4 B1 14) from fun h => g10 (h.symm.trans (n10.trans e10)))]
    rw [if_pos (show num2 B1 28 = big2 B1 30 from n28.trans (e28.trans g28.symm))]
    rfl
, ?_⟩
  · rw [dec2]
    have n2 : num4 B2 2 = num4 S 2 := num4_same S B2 2 fun j h1 h2 => hB2.2.2 j (by omega) (by omega)
    have n28 : num2 B2 28 = num2 S 28 := num2_same S B2 28 fun j h1 h2 => hB2.2.2 j (by omega) (by omega)
    rw [n2, n28, ← k1, ← k6]
  · rw [dec1]
    have n2 : num4 B1 2 = num4 S 2 := num4_same S B1 2 fun j h1 h2 => hB1.2.2 j (by omega) (by omega)
    have n10 : num4 B1 10 = num4 S 10 := num4_same S B1 10 fun j h1 h2 => hB1.2.2 j (by omega) (by omega)
    have n28 : num2 B1 28 = num2 S 28 := num2_same S B1 28 fun j h1 h2 => hB1.2.2 j (by omega) (by omega)
    rw [n2, n10, n28, ← k1, ← k2, ← k6]

theorem pure_2 (S a0 a7 : ByteArray) (a1 a2 a3 a4 a5 a6 x3 : Int) (kn : Nat) (hk : kn < 2) (x0 : 0 < x3) (x1 : x3 ≤ 255) (hs : S.size ≤ 1000) (h34 : 34 ≤ S.size) (dl : differL S = []) (dS : dirrecord_Decode.f 400 S = some (a0, a1, a2, a3, a4, a5, a6, a7, (S.size : Int), 0))
    (B1 : ByteArray) (hB1 : strOfNums ((H.bytesOf S).set (30 + kn) (bits .xor .u8 ((H.bytesOf S)[30 + kn]?.getD 0) x3)) = B1) (B2 : ByteArray) (hB2 : strOfNums ((H.bytesOf S).set (28 + kn) (bits .xor .u8 ((H.bytesOf S)[28 + kn]?.getD 0) x3)) = B2) :
    ∃ b, bits .xor .i64 a6 (wrap64 (wrap64 x3 * 2 ^ (8 * kn))) = b ∧ dirrecord_Decode.f 400 B2 = some (a0, a1, a2, a3, a4, a5, b, a7, (S.size : Int), 0) ∧ dirrecord_Differ.f 400 B2 = some [28] ∧ dirrecord_Differ.f 400 B1 = some [28] ∧ dirrecord_Decode.f 400 B1 = some (a0, a1, a2, a3, a4, a5, a6, a7, (S.size : Int), 0) := by
  obtain ⟨e2, e10, e28⟩ := (differ_nil' S).1 dl
  rw [hbytes_at S (30 + kn) (by omega), Option.getD_some] at hB1
  rw [hbytes_at S (28 + kn) (by omega), Option.getD_some] at hB2
  have r1 := bt_range S ((30 + kn : Nat) : Int)
  have r2 := bt_range S ((28 + kn : Nat) : Int)
  obtain ⟨v, ev, v0, v1, wB1, _⟩ := byte_xor _ x3 r1.1 r1.2 x0 x1
  obtain ⟨u, eu, u0, u1, wB2, _⟩ := byte_xor _ x3 r2.1 r2.2 x0 x1
  rw [ev] at hB1
  rw [eu] at hB2
  have hB1 := hB1 ▸ set_bt S (30 + kn) (by omega) v v0 v1
  have hB2 := hB2 ▸ set_bt S (28 + kn) (by omega) u u0 u1
  have z1 := hB1.1
  have z2 := hB2.1
  have hN : bits .xor .i64 (num2 S 28) (wrap64 (wrap64 x3 * 2 ^ (8 * kn))) = num2 B2 28 := xor2 S B2 28 kn hk x3 x0 x1 (hB2.2.1.trans eu.symm) fun j h1 h2 h3 => hB2.2.2 j h3 (by omega)
  obtain ⟨k1, k2, k6, dec1⟩ := dec_change S B1 a0 a7 a1 a2 a3 a4 a5 a6 hs z1 (fun j h1 h2 => hB1.2.2 j (by omega) h2) dS
  obtain ⟨_, _, _, dec2⟩ := dec_change S B2 a0 a7 a1 a2 a3 a4 a5 a6 hs z2 (fun j h1 h2 => hB2.2.2 j (by omega) h2) dS
  refine ⟨num2 B2 28, by rw [k6]; exact hN, ?_, by
    have n2 := num4_same S B2 2 fun j h1 h2 => hB2.2.2 j (by omega) (by omega)
    have g2 := big4_same S B2 6 fun j h1 h2 => hB2.2.2 j (by omega) (by omega)
    have n10 := num4_same S B2 10 fun j h1 h2 => hB2.2.2 j (by omega) (by omega)
    have g10 := big4_same S B2 14 fun j h1 h2 => hB2.2.2 j (by omega) (by omega)
    have n28 := (num2_ne S B2 28 kn hk (by rw [hB2.2.1]; exact wB2) fun j h1 h2 h3 => hB2.2.2 j h3 (by omega)).1
    have g28 := big2_same S B2 30 fun j h1 h2 => hB2.2.2 j (by omega) (by omega)
    rw [differ_f 396 B2 (by omega) (by omega)]
    unfold differL
    rw [if_pos (show num4 B2 2 = big4 B2 6 from n2.trans (e2.trans g2.symm))]
    rw [if_pos (show num4 B2 10 = big4 B2 14 from n10.trans (e10.trans g10.symm))]
    rw [if_neg (show ¬ (num2 B2 28 = big2 B2 30) from fun h => n28 (h.trans (g28.trans e28.symm)))]
    rfl
, by
    have n2 := num4_same S B1 2 fun j h1 h2 => hB1.2.2 j (by omega) (by omega)
    have g2 := big4_same S B1 6 fun j h1 h2 => hB1.2.2 j (by omega) (by omega)
    have n10 := num4_same S B1 10 fun j h1 h2 => hB1.2.2 j (by omega) (by omega)
    have g10 := big4_same S B1 14 fun j h1 h2 => hB1.2.2 j (by omega) (by omega)
    have n28 := num2_same S B1 28 fun j h1 h2 => hB1.2.2 j (by omega) (by omega)
    have g28 := (num2_ne S B1 30 kn hk (by rw [hB1.2.1]; exact wB1) fun j h1 h2 h3 => hB1.2.2 j h3 (by omega)).2
    rw [differ_f 396 B1 (by omega) (by omega)]
    unfold differL
    rw [if_pos (show num4 B1 2 = big4 B1 6 from n2.trans (e2.trans g2.symm))]
    rw [if_pos (show num4 B1 10 = big4 B1 14 from n10.trans (e10.trans g10.symm))]
    rw [if_neg (show ¬ (num2 B1 28 = big2 B1 30) from fun h => g28 (h.symm.trans (n28.trans e28)))]
    rfl
, ?_⟩
  · rw [dec2]
    have n2 : num4 B2 2 = num4 S 2 := num4_same S B2 2 fun j h1 h2 => hB2.2.2 j (by omega) (by omega)
    have n10 : num4 B2 10 = num4 S 10 := num4_same S B2 10 fun j h1 h2 => hB2.2.2 j (by omega) (by omega)
    rw [n2, n10, ← k1, ← k2]
  · rw [dec1]
    have n2 : num4 B1 2 = num4 S 2 := num4_same S B1 2 fun j h1 h2 => hB1.2.2 j (by omega) (by omega)
    have n10 : num4 B1 10 = num4 S 10 := num4_same S B1 10 fun j h1 h2 => hB1.2.2 j (by omega) (by omega)
    have n28 : num2 B1 28 = num2 S 28 := num2_same S B1 28 fun j h1 h2 => hB1.2.2 j (by omega) (by omega)
    rw [n2, n10, n28, ← k1, ← k2, ← k6]

theorem halves_any (a0 : ByteArray) (a1 a2 a3 a4 a5 a6 : Int) (a7 : ByteArray) (x1 x2 x3 : Int) (w : World) (z0 : a0.size ≤ 9223372036854775807) (z7 : a7.size ≤ 9223372036854775807) (p1 : 0 ≤ x1 ∧ x1 ≤ 255) (p2 : 0 ≤ x2 ∧ x2 ≤ 255) (p3 : 0 ≤ x3 ∧ x3 ≤ 255) :
    Calls Try.prog 7 #[.agg (recCells a0 a1 a2 a3 a4 a5 a6 a7), .int .u8 x1, .int .u8 x2, .int .u8 x3] w fun e w' => e = .returned (.bool true) ∧ Below w.heap.size w w' := by
  by_cases h : sizeV a0.size a7.size = 0
  · exact halves_err 400 a0 a1 a2 a3 a4 a5 a6 a7 x1 x2 x3 w _ _ (enc_nosize a0 a1 a2 a3 a4 a5 a6 a7 z0 z7 h) (bne_iff_ne.2 (by split <;> decide))
  · by_cases hg : GoodR a1 a2 a3 a4 a5 a6
    · obtain ⟨S, he, hs, hb, hd, hdec⟩ := round a0 a1 a2 a3 a4 a5 a6 a7 h hg
      obtain ⟨v, i0, i1, u0, u1, u2, v1, v2⟩ := size_bds h
      have hdec := hdec ⟨#[]⟩ (by decide)
      rw [show S ++ (⟨#[]⟩ : ByteArray) = S from ByteArray.append_empty, ← hs] at hdec
      have hl : decide ((S.size : Int) < 34) = false := decide_eq_false (by omega)
      by_cases hx : x3 = 0
      · exact halves_zero 400 a0 a1 a2 a3 a4 a5 a6 a7 x1 x2 x3 w S he hl (beq_iff_eq.2 hx)
      · have hx' : (x3 == 0) = false := beq_eq_false_iff_ne.2 hx
        have m1 : Int.tmod x1 3 = x1 % 3 := Int.tmod_eq_emod_of_nonneg p1.1
        have m4 : Int.tmod x2 4 = ((x2 % 4).toNat : Int) := by rw [Int.tmod_eq_emod_of_nonneg p2.1]; omega
        have m2 : Int.tmod x2 2 = ((x2 % 2).toNat : Int) := by rw [Int.tmod_eq_emod_of_nonneg p2.1]; omega
        have eq2 : ∀ o : Int, slices_Equal_int_int.f 400 [o] [o] = some true := fun o => by
          unfold slices_Equal_int_int.f
          rw [if_pos rfl, show (([o] : List Int).length : Int) = 1 from rfl, slices_Equal_int_int.l0, if_pos (by decide), if_pos (by decide), if_pos (by simp), if_pos (by simp), if_pos rfl, show wrap64 (0 + 1) = 1 from wrap_id (by decide) (by decide), slices_Equal_int_int.l0, if_neg (by decide)]
        have hc : x1 % 3 = 0 ∨ x1 % 3 = 1 ∨ x1 % 3 = 2 := by omega
        rcases hc with hc | hc | hc
        · obtain ⟨b, hbv, hd2, hf2, hf1, hd1⟩ := pure_0 S a0 a7 a1 a2 a3 a4 a5 a6 x3 (x2 % 4).toNat (by omega) (by omega) p3.2 (by omega) (by omega) hd hdec _ rfl _ rfl
          exact halves_0 400 a0 a1 a2 a3 a4 a5 a6 a7 x1 x2 x3 w S he hl hx' (by rw [m1]; exact hc) (x2 % 4).toNat m4 (by omega) p2.1 p2.2 _ rfl _ rfl b hbv hd2 hf2 hf1 (eq2 _) hd1
        · obtain ⟨b, hbv, hd2, hf2, hf1, hd1⟩ := pure_1 S a0 a7 a1 a2 a3 a4 a5 a6 x3 (x2 % 4).toNat (by omega) (by omega) p3.2 (by omega) (by omega) hd hdec _ rfl _ rfl
          exact halves_1 400 a0 a1 a2 a3 a4 a5 a6 a7 x1 x2 x3 w S he hl hx' (by rw [m1]; exact hc) (x2 % 4).toNat m4 (by omega) p2.1 p2.2 _ rfl _ rfl b hbv hd2 hf2 hf1 (eq2 _) hd1
        · obtain ⟨b, hbv, hd2, hf2, hf1, hd1⟩ := pure_2 S a0 a7 a1 a2 a3 a4 a5 a6 x3 (x2 % 2).toNat (by omega) (by omega) p3.2 (by omega) (by omega) hd hdec _ rfl _ rfl
          exact halves_2 400 a0 a1 a2 a3 a4 a5 a6 a7 x1 x2 x3 w S he hl hx' (by rw [m1]; exact hc) (x2 % 2).toNat m2 (by omega) p2.1 p2.2 _ rfl _ rfl b hbv hd2 hf2 hf1 (eq2 _) hd1
    · exact halves_err 400 a0 a1 a2 a3 a4 a5 a6 a7 x1 x2 x3 w _ _ (enc_bad a0 a1 a2 a3 a4 a5 a6 a7 h hg) (by decide)

end Go.Proofs.Ytagnefbgclpccaa.Q
