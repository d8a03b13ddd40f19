import Derived.Test.YtagnefbgclpccaaH2f
import Derived.Test.YtagnefbgclpccaaH2g
namespace Go.Proofs.Ytagnefbgclpccaa.H
open Go.RowKit Go.Proofs.YtagnefbgclpccaaW.PrintWords Go.Proofs.YtagnefbgclpccaaW.PrintLast Go.Proofs.Ytagnefbgclpccaa.A
set_option linter.unusedVariables false

/-- dirrecord.Decode. -/
def dirrecord_Decode.f (k : Nat) (s : ByteArray) : Option (ByteArray × Int × Int × Int × Int × Int × Int × ByteArray × Int × Int) :=
  if s.size ≤ 9223372036854775000 then
    if s.size < 34 then some ((⟨#[]⟩ : ByteArray), 0, 0, 0, 0, 0, 0, (⟨#[]⟩ : ByteArray), 0, 10)
    else if (bt s 0 % 2 != 0) || (decide (bt s 0 < 34) || (decide ((s.size : Int) < bt s 0) || ((bt s 32 == 0) || decide (bt s 0 < padE (bt s 32))))) then some ((⟨#[]⟩ : ByteArray), 0, 0, 0, 0, 0, 0, (⟨#[]⟩ : ByteArray), 0, 10)
    else if (bt s 1 != 0) || ((bt s 26 != 0) || (bt s 27 != 0)) then some ((⟨#[]⟩ : ByteArray), 0, 0, 0, 0, 0, 0, (⟨#[]⟩ : ByteArray), 0, 14)
    else (datetime_ReadRecord.f k (s.extract 18 25)).bind fun d =>
      if d.2.2 = 0 then some (s.extract 33 (33 + bt s 32).toNat, numK s 2 4, numK s 10 4, d.1, d.2.1, bt s 25, numK s 28 2, s.extract (padE (bt s 32)).toNat (bt s 0).toNat, bt s 0, 0)
      else some ((⟨#[]⟩ : ByteArray), 0, 0, 0, 0, 0, 0, (⟨#[]⟩ : ByteArray), 0, d.2.2)
  else none
theorem dirrecord_Decode.calls (k : Nat) (s : ByteArray) (r1 : ByteArray) (r2 r3 r4 r5 r6 r7 : Int) (r8 : ByteArray) (r9 r10 : Int) (w : World) (h : dirrecord_Decode.f k s = some (r1, r2, r3, r4, r5, r6, r7, r8, r9, r10)) :
    Calls Try.prog 15 #[.string s] w fun e w' => e = .returned (.tuple #[.agg #[.string r1, .int .i64 r2, .int .i64 r3, .int .i64 r4, .int .i64 r5, .int .i64 r6, .int .i64 r7, .string r8], .int .i64 r9, .int .i64 r10]) ∧ Below w.heap.size w w' := by
  unfold dirrecord_Decode.f at h
  by_cases hs : s.size ≤ 9223372036854775000
  · rw [if_pos hs] at h
    by_cases h34 : s.size < 34
    · rw [if_pos h34] at h
      simp only [Option.some.injEq, Prod.mk.injEq] at h
      obtain ⟨rfl, rfl, rfl, rfl, rfl, rfl, rfl, rfl, rfl, rfl⟩ := h
      exact decode_short s w hs h34
    · rw [if_neg h34] at h
      replace h34 : 34 ≤ s.size := by omega
      cases q0 : (bt s 0 % 2 != 0)
      rotate_left
      · rw [if_pos (by simp [q0])] at h
        simp only [Option.some.injEq, Prod.mk.injEq] at h
        obtain ⟨rfl, rfl, rfl, rfl, rfl, rfl, rfl, rfl, rfl, rfl⟩ := h
        exact decode_bad0 s w hs h34 q0
      cases q1 : decide (bt s 0 < 34)
      rotate_left
      · rw [if_pos (by simp [q0, q1])] at h
        simp only [Option.some.injEq, Prod.mk.injEq] at h
        obtain ⟨rfl, rfl, rfl, rfl, rfl, rfl, rfl, rfl, rfl, rfl⟩ := h
        exact decode_bad1 s w hs h34 q0 q1
      cases q2 : decide ((s.size : Int) < bt s 0)
      rotate_left
      · rw [if_pos (by simp [q0, q1, q2])] at h
        simp only [Option.some.injEq, Prod.mk.injEq] at h
        obtain ⟨rfl, rfl, rfl, rfl, rfl, rfl, rfl, rfl, rfl, rfl⟩ := h
        exact decode_bad2 s w hs h34 q0 q1 q2
      cases q3 : (bt s 32 == 0)
      rotate_left
      · rw [if_pos (by simp [q0, q1, q2, q3])] at h
        simp only [Option.some.injEq, Prod.mk.injEq] at h
        obtain ⟨rfl, rfl, rfl, rfl, rfl, rfl, rfl, rfl, rfl, rfl⟩ := h
        exact decode_bad3 s w hs h34 q0 q1 q2 q3
      cases q4 : decide (bt s 0 < padE (bt s 32))
      rotate_left
      · rw [if_pos (by simp [q0, q1, q2, q3, q4])] at h
        simp only [Option.some.injEq, Prod.mk.injEq] at h
        obtain ⟨rfl, rfl, rfl, rfl, rfl, rfl, rfl, rfl, rfl, rfl⟩ := h
        exact decode_bad4 s w hs h34 q0 q1 q2 q3 q4
      rw [if_neg (by simp [q0, q1, q2, q3, q4])] at h
      cases p0 : (bt s 1 != 0)
      rotate_left
      · rw [if_pos (by simp [p0])] at h
        simp only [Option.some.injEq, Prod.mk.injEq] at h
        obtain ⟨rfl, rfl, rfl, rfl, rfl, rfl, rfl, rfl, rfl, rfl⟩ := h
        exact decode_uns0 s w hs h34 q0 q1 q2 q3 q4 p0
      cases p1 : (bt s 26 != 0)
      rotate_left
      · rw [if_pos (by simp [p0, p1])] at h
        simp only [Option.some.injEq, Prod.mk.injEq] at h
        obtain ⟨rfl, rfl, rfl, rfl, rfl, rfl, rfl, rfl, rfl, rfl⟩ := h
        exact decode_uns1 s w hs h34 q0 q1 q2 q3 q4 p0 p1
      cases p2 : (bt s 27 != 0)
      rotate_left
      · rw [if_pos (by simp [p0, p1, p2])] at h
        simp only [Option.some.injEq, Prod.mk.injEq] at h
        obtain ⟨rfl, rfl, rfl, rfl, rfl, rfl, rfl, rfl, rfl, rfl⟩ := h
        exact decode_uns2 s w hs h34 q0 q1 q2 q3 q4 p0 p1 p2
      rw [if_neg (by simp [p0, p1, p2])] at h
      obtain ⟨⟨t, z, e⟩, hr, h⟩ := Option.bind_eq_some_iff.mp h
      dsimp only at h
      by_cases he : e = 0
      · subst he
        rw [if_pos rfl] at h
        simp only [Option.some.injEq, Prod.mk.injEq] at h
        obtain ⟨rfl, rfl, rfl, rfl, rfl, rfl, rfl, rfl, rfl, rfl⟩ := h
        exact decode_ok k s t z w hs h34 q0 q1 q2 q3 q4 p0 p1 p2 hr
      · rw [if_neg he] at h
        simp only [Option.some.injEq, Prod.mk.injEq] at h
        obtain ⟨rfl, rfl, rfl, rfl, rfl, rfl, rfl, rfl, rfl, rfl⟩ := h
        exact decode_date k s t z e w hs h34 q0 q1 q2 q3 q4 p0 p1 p2 hr (by simpa using he)
  · rw [if_neg hs] at h
    cases h
/-- More rounds tell the same. -/
theorem dirrecord_Decode.mono : ∀ s k, LeO (dirrecord_Decode.f k s) (dirrecord_Decode.f (k + 1) s) := by
  intro s k
  unfold dirrecord_Decode.f
  repeat' first
    | (with_reducible exact datetime_ReadRecord.mono _ _)
    | (with_reducible exact LeO.refl _)
    | (with_reducible exact LeO.none _)
    | (with_reducible refine LeO.ite ?_ ?_)
    | (with_reducible refine LeO.bind ?_ (fun _ => ?_))

end Go.Proofs.Ytagnefbgclpccaa.H
