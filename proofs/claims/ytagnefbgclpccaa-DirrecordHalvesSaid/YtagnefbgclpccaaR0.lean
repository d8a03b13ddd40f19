import Derived.Test.YtagnefbgclpccaaProg
import Derived.Lib.SmallJoins
namespace Go.Proofs.Ytagnefbgclpccaa.R
open Go.Joins Go.ChangeShapes Go.WideShapes Go.RowKit Go.Deep
open Go.ChangeMaps (open_string shut_string)
set_option linter.unusedVariables false

theorem u8_range {n : Int} (h : (Lit.int .u8 n).wf = true) : 0 ≤ n ∧ n ≤ 255 := by
  have h2 : (decide ((0 : Int) ≤ n) && decide (n ≤ 255)) = true := h
  rw [Bool.and_eq_true, decide_eq_true_eq, decide_eq_true_eq] at h2
  exact h2
theorem i64_range {n : Int} (h : (Lit.int .i64 n).wf = true) : -9223372036854775808 ≤ n ∧ n ≤ 9223372036854775807 := by
  have h2 : (decide ((-9223372036854775808 : Int) ≤ n) && decide (n ≤ 9223372036854775807)) = true := h
  rw [Bool.and_eq_true, decide_eq_true_eq, decide_eq_true_eq] at h2
  exact h2

/-! A directory record as an argument: eight one-cell fields, by value. -/
section
variable {H : Type} {enc : TypeId × Value → H} {w : World} {base : Nat} {spare : Nat → Bool} {held : Bool}
theorem open_rec {r : Reach} {b0 : Nat} {v : Value} {d : DataW H} {p : List MemPlace} (hv : Value.okWide Try.prog w r b0 23 v) (h : DataW.Trod enc Try.prog w base spare held 23 v d p) :
    ∃ (a0 : ByteArray) (a1 a2 a3 a4 a5 a6 : Int) (a7 : ByteArray), v = .agg #[.string a0, .int .i64 a1, .int .i64 a2, .int .i64 a3, .int .i64 a4, .int .i64 a5, .int .i64 a6, .string a7] ∧
      d = .agg [.lit (.string a0.data.toList), .lit (.int .i64 a1), .lit (.int .i64 a2), .lit (.int .i64 a3), .lit (.int .i64 a4), .lit (.int .i64 a5), .lit (.int .i64 a6), .lit (.string a7.data.toList)] ∧ p = [] ∧
      a0.size ≤ maxLen ∧ (Lit.int .i64 a1).wf = true ∧ (Lit.int .i64 a2).wf = true ∧ (Lit.int .i64 a3).wf = true ∧ (Lit.int .i64 a4).wf = true ∧ (Lit.int .i64 a5).wf = true ∧ (Lit.int .i64 a6).wf = true ∧ a7.size ≤ maxLen := by
  have hs := Try.underlying23
  have hC : Try.prog.cellsOf 23 = 8 := by kernel_rfl
  have ks : Try.prog.cellsOf 9 = 1 := by kernel_rfl
  have ki : Try.prog.cellsOf 3 = 1 := by kernel_rfl
  obtain ⟨cs, rfl, hsz⟩ := okWide_struct hs hv
  obtain ⟨l⟩ := cs
  match l, hsz.trans hC with
  | [c0, c1, c2, c3, c4, c5, c6, c7], _ =>
    obtain ⟨fuel, hf⟩ := h
    obtain ⟨xs, n, _, hx, _, hlen, hg⟩ := DataW.trod_struct hs hf
    match xs, hlen with
    | [y0, y1, y2, y3, y4, y5, y6, y7], _ =>
      have g0 : DataW.trod enc Try.prog w base spare held n 9 [c0] = some y0 := by simpa [Value.cells, ks] using hg 0 _ rfl
      have g1 : DataW.trod enc Try.prog w base spare held n 3 [c1] = some y1 := by simpa [Value.cells, ki] using hg 1 _ rfl
      have g2 : DataW.trod enc Try.prog w base spare held n 3 [c2] = some y2 := by simpa [Value.cells, ki] using hg 2 _ rfl
      have g3 : DataW.trod enc Try.prog w base spare held n 3 [c3] = some y3 := by simpa [Value.cells, ki] using hg 3 _ rfl
      have g4 : DataW.trod enc Try.prog w base spare held n 3 [c4] = some y4 := by simpa [Value.cells, ki] using hg 4 _ rfl
      have g5 : DataW.trod enc Try.prog w base spare held n 3 [c5] = some y5 := by simpa [Value.cells, ki] using hg 5 _ rfl
      have g6 : DataW.trod enc Try.prog w base spare held n 3 [c6] = some y6 := by simpa [Value.cells, ki] using hg 6 _ rfl
      have g7 : DataW.trod enc Try.prog w base spare held n 9 [c7] = some y7 := by simpa [Value.cells, ks] using hg 7 _ rfl
      obtain ⟨a0, e0, rfl, z0⟩ := DataW.trod_string Try.underlying9 g0
      obtain ⟨a1, e1, rfl, z1⟩ := DataW.trod_int Try.underlying3 g1
      obtain ⟨a2, e2, rfl, z2⟩ := DataW.trod_int Try.underlying3 g2
      obtain ⟨a3, e3, rfl, z3⟩ := DataW.trod_int Try.underlying3 g3
      obtain ⟨a4, e4, rfl, z4⟩ := DataW.trod_int Try.underlying3 g4
      obtain ⟨a5, e5, rfl, z5⟩ := DataW.trod_int Try.underlying3 g5
      obtain ⟨a6, e6, rfl, z6⟩ := DataW.trod_int Try.underlying3 g6
      obtain ⟨a7, e7, rfl, z7⟩ := DataW.trod_string Try.underlying9 g7
      cases e0; cases e1; cases e2; cases e3; cases e4; cases e5; cases e6; cases e7
      simp only [Prod.mk.injEq] at hx
      exact ⟨a0, a1, a2, a3, a4, a5, a6, a7, rfl, by simpa using hx.1, by simpa using hx.2, z0, z1, z2, z3, z4, z5, z6, z7⟩

theorem shut_rec {a0 : ByteArray} {a1 a2 a3 a4 a5 a6 : Int} {a7 : ByteArray} (z0 : a0.size ≤ maxLen) (z1 : (Lit.int .i64 a1).wf = true) (z2 : (Lit.int .i64 a2).wf = true) (z3 : (Lit.int .i64 a3).wf = true) (z4 : (Lit.int .i64 a4).wf = true) (z5 : (Lit.int .i64 a5).wf = true) (z6 : (Lit.int .i64 a6).wf = true) (z7 : a7.size ≤ maxLen) :
    DataW.Trod enc Try.prog w base spare held 23 (.agg #[.string a0, .int .i64 a1, .int .i64 a2, .int .i64 a3, .int .i64 a4, .int .i64 a5, .int .i64 a6, .string a7])
      (.agg [.lit (.string a0.data.toList), .lit (.int .i64 a1), .lit (.int .i64 a2), .lit (.int .i64 a3), .lit (.int .i64 a4), .lit (.int .i64 a5), .lit (.int .i64 a6), .lit (.string a7.data.toList)]) [] := by
  have hs := Try.underlying23
  have hC : Try.prog.cellsOf 23 = 8 := by kernel_rfl
  have hc : ∀ t, t = 9 ∨ t = 3 → Try.prog.cellsOf t = 1 := by
    rintro t (rfl | rfl)
    · kernel_rfl
    · kernel_rfl
  have ks := hc 9 (Or.inl rfl)
  have ki := hc 3 (Or.inr rfl)
  have hstr : ∀ (s : ByteArray), s.size ≤ maxLen → DataW.trod enc Try.prog w base spare held 1 9 [.string s] = some (.lit (.string s.data.toList), []) := fun s h => by simp [DataW.trod, Try.underlying9, h]
  have hint : ∀ (n : Int), (Lit.int .i64 n).wf = true → DataW.trod enc Try.prog w base spare held 1 3 [.int .i64 n] = some (.lit (.int .i64 n), []) := fun n h => trod_int_mk 0 Try.underlying3 h
  have ts := trod_struct_mk (enc := enc) (w := w) (base := base) (spare := spare) (held := held) (n := 1) (cs := [.string a0, .int .i64 a1, .int .i64 a2, .int .i64 a3, .int .i64 a4, .int .i64 a5, .int .i64 a6, .string a7])
    (xs := [(.lit (.string a0.data.toList), []), (.lit (.int .i64 a1), []), (.lit (.int .i64 a2), []), (.lit (.int .i64 a3), []), (.lit (.int .i64 a4), []), (.lit (.int .i64 a5), []), (.lit (.int .i64 a6), []), (.lit (.string a7.data.toList), [])]) hs (by simp [hC])
    (by simp [ks, ki, hstr _ z0, hstr _ z7, hint _ z1, hint _ z2, hint _ z3, hint _ z4, hint _ z5, hint _ z6])
  exact ⟨2, by simpa [Value.cells] using ts⟩
end

end Go.Proofs.Ytagnefbgclpccaa.R
