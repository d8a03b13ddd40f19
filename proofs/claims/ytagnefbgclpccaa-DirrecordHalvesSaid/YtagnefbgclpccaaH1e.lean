import Derived.Test.YtagnefbgclpccaaH1d
namespace Go.Proofs.Ytagnefbgclpccaa.H
open Go.RowKit Go.Proofs.YtagnefbgclpccaaW.PrintWords
set_option linter.unusedVariables false

theorem up_mk (k : Int) (w : World) : Calls Try.prog 44 #[.int .i64 k] w fun e w' => e = .returned (.func (.func 68) #[] #[]) ∧ w = w' := by
  go_enter Try.func44, Try.ntmps44
  go_wp2
  go_ret
  exact ⟨rfl, rfl⟩
theorem down_mk (k : Int) (w : World) : Calls Try.prog 45 #[.int .i64 k] w fun e w' => e = .returned (.func (.func 69) #[] #[.pointer (some ⟨w.heap.size, 0, none⟩)]) ∧ w.alloc (.cells #[.int .i64 k] 3) = w' := by
  go_enter Try.func45, Try.ntmps45
  go_wp2
  go_ret
  exact ⟨rfl, rfl⟩

theorem new_cell (w W : World) (v : Value) (e : TypeId) (h : Below w.heap.size w W) :
    (W.alloc (.cells #[v] e)).cell? ⟨W.heap.size, 0, none⟩ = some v := by
  show (match (W.heap.push (Obj.cells #[v] e (0, 0)))[W.heap.size]? with
    | some (.cells c _ _) => if (none : Option Nat).isSome then none else c[0]?
    | _ => none) = _
  rw [Array.getElem?_push, if_pos rfl]
  rfl

set_option maxRecDepth 100000 in
set_option maxHeartbeats 1000000 in
theorem both4 (n : Int) (w : World) (h0 : 0 ≤ n) (h1 : n < 4294967296) :
    Calls Try.prog 23 #[.int .i64 n, .int .i64 4] w fun e w' => e = .returned (.tuple #[.string (le4 n ++ be4 n), .int .i64 0]) ∧ Below w.heap.size w w' := by
  have d1 : decide (n < 4294967296) = true := decide_eq_true h1
  have s1 := le4_size n
  have s2 := be4_size n
  go_enter Try.func23, Try.ntmps23
  go_wp2_with (first | (go_at_call 41; refine (dbl4 _).mono ?_; rintro e w' ⟨rfl, rfl⟩) | (go_at_call 42; refine (fits4 _ _ (by omega)).mono ?_; rintro e w' ⟨rfl, rfl⟩) | (go_at_call 44; refine (up_mk _ _).mono ?_; rintro e w' ⟨rfl, rfl⟩) | (go_at_call 45; refine (down_mk _ _).mono ?_; rintro e w' ⟨rfl, rfl⟩))
  refine (wr_le4 _ _).mono ?_
  rintro e w1 ⟨rfl, hb1⟩
  go_wp2_with (first | (go_at_call 41; refine (dbl4 _).mono ?_; rintro e w' ⟨rfl, rfl⟩) | (go_at_call 42; refine (fits4 _ _ (by omega)).mono ?_; rintro e w' ⟨rfl, rfl⟩) | (go_at_call 44; refine (up_mk _ _).mono ?_; rintro e w' ⟨rfl, rfl⟩) | (go_at_call 45; refine (down_mk _ _).mono ?_; rintro e w' ⟨rfl, rfl⟩))
  refine (wr_be4 _ _ _ (by simp) (new_cell w w1 _ _ hb1)).mono ?_
  rintro e w2 ⟨rfl, hb2⟩
  go_wp2
  go_ret2
  exact ⟨rfl, (hb1.alloc hb1.size _).trans (hb2.mono (by have := hb1.size; simp; omega))⟩

set_option maxRecDepth 100000 in
set_option maxHeartbeats 1000000 in
theorem both2 (n : Int) (w : World) (h0 : 0 ≤ n) (h1 : n < 65536) :
    Calls Try.prog 23 #[.int .i64 n, .int .i64 2] w fun e w' => e = .returned (.tuple #[.string (le2 n ++ be2 n), .int .i64 0]) ∧ Below w.heap.size w w' := by
  have d1 : decide (n < 65536) = true := decide_eq_true h1
  have s1 := le2_size n
  have s2 := be2_size n
  go_enter Try.func23, Try.ntmps23
  go_wp2_with (first | (go_at_call 41; refine (dbl2 _).mono ?_; rintro e w' ⟨rfl, rfl⟩) | (go_at_call 42; refine (fits2 _ _ (by omega)).mono ?_; rintro e w' ⟨rfl, rfl⟩) | (go_at_call 44; refine (up_mk _ _).mono ?_; rintro e w' ⟨rfl, rfl⟩) | (go_at_call 45; refine (down_mk _ _).mono ?_; rintro e w' ⟨rfl, rfl⟩))
  refine (wr_le2 _ _).mono ?_
  rintro e w1 ⟨rfl, hb1⟩
  go_wp2_with (first | (go_at_call 41; refine (dbl2 _).mono ?_; rintro e w' ⟨rfl, rfl⟩) | (go_at_call 42; refine (fits2 _ _ (by omega)).mono ?_; rintro e w' ⟨rfl, rfl⟩) | (go_at_call 44; refine (up_mk _ _).mono ?_; rintro e w' ⟨rfl, rfl⟩) | (go_at_call 45; refine (down_mk _ _).mono ?_; rintro e w' ⟨rfl, rfl⟩))
  refine (wr_be2 _ _ _ (by simp) (new_cell w w1 _ _ hb1)).mono ?_
  rintro e w2 ⟨rfl, hb2⟩
  go_wp2
  go_ret2
  exact ⟨rfl, (hb1.alloc hb1.size _).trans (hb2.mono (by have := hb1.size; simp; omega))⟩

theorem both4_neg (n : Int) (w : World) (h : n < 0) :
    Calls Try.prog 23 #[.int .i64 n, .int .i64 4] w fun e w' => e = .returned (.tuple #[.string ⟨#[]⟩, .int .i64 2]) ∧ Below w.heap.size w w' := by
  go_enter Try.func23, Try.ntmps23
  go_wp2_with (first | (go_at_call 41; refine (dbl4 _).mono ?_; rintro e w' ⟨rfl, rfl⟩) | (go_at_call 42; refine (fits_neg _ _ _ (by omega)).mono ?_; rintro e w' ⟨rfl, rfl⟩))
  go_ret2
  exact ⟨rfl, Below.refl _ _⟩
theorem both4_big (n : Int) (w : World) (h : 4294967296 ≤ n) :
    Calls Try.prog 23 #[.int .i64 n, .int .i64 4] w fun e w' => e = .returned (.tuple #[.string ⟨#[]⟩, .int .i64 2]) ∧ Below w.heap.size w w' := by
  have d1 : decide (n < 4294967296) = false := decide_eq_false (by omega)
  go_enter Try.func23, Try.ntmps23
  go_wp2_with (first | (go_at_call 41; refine (dbl4 _).mono ?_; rintro e w' ⟨rfl, rfl⟩) | (go_at_call 42; refine (fits4 _ _ (by omega)).mono ?_; rintro e w' ⟨rfl, rfl⟩))
  go_ret2
  exact ⟨rfl, Below.refl _ _⟩

theorem both2_neg (n : Int) (w : World) (h : n < 0) :
    Calls Try.prog 23 #[.int .i64 n, .int .i64 2] w fun e w' => e = .returned (.tuple #[.string ⟨#[]⟩, .int .i64 2]) ∧ Below w.heap.size w w' := by
  go_enter Try.func23, Try.ntmps23
  go_wp2_with (first | (go_at_call 41; refine (dbl2 _).mono ?_; rintro e w' ⟨rfl, rfl⟩) | (go_at_call 42; refine (fits_neg _ _ _ (by omega)).mono ?_; rintro e w' ⟨rfl, rfl⟩))
  go_ret2
  exact ⟨rfl, Below.refl _ _⟩
theorem both2_big (n : Int) (w : World) (h : 65536 ≤ n) :
    Calls Try.prog 23 #[.int .i64 n, .int .i64 2] w fun e w' => e = .returned (.tuple #[.string ⟨#[]⟩, .int .i64 2]) ∧ Below w.heap.size w w' := by
  have d1 : decide (n < 65536) = false := decide_eq_false (by omega)
  go_enter Try.func23, Try.ntmps23
  go_wp2_with (first | (go_at_call 41; refine (dbl2 _).mono ?_; rintro e w' ⟨rfl, rfl⟩) | (go_at_call 42; refine (fits2 _ _ (by omega)).mono ?_; rintro e w' ⟨rfl, rfl⟩))
  go_ret2
  exact ⟨rfl, Below.refl _ _⟩

/-- endian.Both at the sizes 4 and 2. -/
def endian_Both.f (a0 a1 : Int) : Option (ByteArray × Int) :=
  if a1 = 4 then (if 0 ≤ a0 ∧ a0 < 4294967296 then some (le4 a0 ++ be4 a0, 0) else some ((⟨#[]⟩ : ByteArray), 2))
  else if a1 = 2 then (if 0 ≤ a0 ∧ a0 < 65536 then some (le2 a0 ++ be2 a0, 0) else some ((⟨#[]⟩ : ByteArray), 2))
  else none
theorem endian_Both.calls (a0 : Int) (a1 : Int) (r1 : ByteArray) (r2 : Int) (w : World) (h : endian_Both.f a0 a1 = some (r1, r2)) :
    Calls Try.prog 23 #[.int .i64 a0, .int .i64 a1] w fun e w' => e = .returned (.tuple #[.string r1, .int .i64 r2]) ∧ Below w.heap.size w w' := by
  unfold endian_Both.f at h
  by_cases h4 : a1 = 4
  · subst h4
    rw [if_pos rfl] at h
    by_cases hn : 0 ≤ a0 ∧ a0 < 4294967296
    · rw [if_pos hn] at h
      obtain ⟨rfl, rfl⟩ := Prod.mk.inj (Option.some.inj h)
      exact both4 a0 w hn.1 hn.2
    · rw [if_neg hn] at h
      obtain ⟨rfl, rfl⟩ := Prod.mk.inj (Option.some.inj h)
      rcases (by omega : a0 < 0 ∨ 4294967296 ≤ a0) with h0 | h0
      · exact both4_neg a0 w h0
      · exact both4_big a0 w h0
  · rw [if_neg h4] at h
    by_cases h2 : a1 = 2
    · subst h2
      rw [if_pos rfl] at h
      by_cases hn : 0 ≤ a0 ∧ a0 < 65536
      · rw [if_pos hn] at h
        obtain ⟨rfl, rfl⟩ := Prod.mk.inj (Option.some.inj h)
        exact both2 a0 w hn.1 hn.2
      · rw [if_neg hn] at h
        obtain ⟨rfl, rfl⟩ := Prod.mk.inj (Option.some.inj h)
        rcases (by omega : a0 < 0 ∨ 65536 ≤ a0) with h0 | h0
        · exact both2_neg a0 w h0
        · exact both2_big a0 w h0
    · rw [if_neg h2] at h
      cases h

end Go.Proofs.Ytagnefbgclpccaa.H
