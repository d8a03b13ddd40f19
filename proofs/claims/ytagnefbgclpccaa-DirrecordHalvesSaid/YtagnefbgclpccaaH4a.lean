import Derived.Test.YtagnefbgclpccaaH2e
import Derived.Lib.ConvBytes
import Derived.Laws.BytesArg
namespace Go.Proofs.Ytagnefbgclpccaa.H
open Go.RowKit Go.Proofs.YtagnefbgclpccaaW.PrintWords Go.Proofs.YtagnefbgclpccaaW.PrintLast Go.Proofs.Ytagnefbgclpccaa.A
set_option linter.unusedVariables false

/-! '[]byte(s)' of a string, written to, and read back. -/
/-- The bytes of a string, as numbers. -/
def bytesOf (s : ByteArray) : List Int := s.data.toList.map fun b => (b.toNat : Int)
theorem bytesOf_len (s : ByteArray) : (bytesOf s).length = s.size := by unfold bytesOf; rw [List.length_map]; exact Array.length_toList
/-- A block that holds these bytes first. -/
def Row (W : World) (B : Nat) (ys : List Int) : Prop :=
  ∃ (CS : Array Value) (m : Nat), W.heap[B]? = some (.cells CS 5 (m, m + 1)) ∧ ys.length ≤ m ∧ ys.length ≤ CS.size ∧ ∀ j, j < ys.length → CS[j]? = some (.int .u8 (ys.getD j 0))
theorem Row.new (w : World) (s : ByteArray) : Row (Lib.bytesWorld w 5 s) w.heap.size (bytesOf s) := by
  refine ⟨_, _, Lib.bytesWorld_at_new w 5 s, ?_, ?_, fun j hj => ?_⟩
  · rw [bytesOf_len]; unfold Lib.bytesCells; rw [Array.size_append, Array.size_map]; exact Nat.le_add_right _ _
  · rw [bytesOf_len]; unfold Lib.bytesCells; rw [Array.size_append, Array.size_map]; exact Nat.le_add_right _ _
  · have h := Lib.bytesWorld_cell w 5 s j (by rw [bytesOf_len] at hj; exact hj)
    rw [bytesOf_len] at hj
    have h2 : (Lib.bytesCells w 5 s)[j]? = some (.int .u8 (s.data.toList.getD j 0).toNat) := by
      have e : (Lib.bytesWorld w 5 s).cell? ⟨w.heap.size, j, none⟩ = (Lib.bytesCells w 5 s)[j]? := cell_of_row _ _ j _ _ _ (Lib.bytesWorld_at_new w 5 s)
      rw [← e]; exact h
    rw [h2]
    congr 2
    unfold bytesOf
    have hl : j < s.data.toList.length := by rw [Array.length_toList]; exact hj
    rw [List.getD_eq_getElem?_getD, List.getD_eq_getElem?_getD, List.getElem?_map, List.getElem?_eq_getElem hl]
    rfl
theorem Row.cell {W : World} {B : Nat} {ys : List Int} (h : Row W B ys) (j : Nat) (hj : j < ys.length) : W.cell? ⟨B, j, none⟩ = some (.int .u8 (ys.getD j 0)) := by
  obtain ⟨CS, m, hb, _, _, hc⟩ := h
  exact (cell_of_row W B j CS _ _ hb).trans (hc j hj)
theorem Row.frozen {W : World} {B : Nat} {ys : List Int} (h : Row W B ys) (j : Nat) (hj : j < ys.length) : W.frozen? ⟨B, j, none⟩ = false := by
  obtain ⟨CS, m, hb, hm, _, _⟩ := h
  unfold World.frozen?
  rw [hb]
  have : ¬ m ≤ j := by omega
  simp [this]
theorem Row.lt {W : World} {B : Nat} {ys : List Int} (h : Row W B ys) : B < W.heap.size := by
  obtain ⟨CS, m, hb, _⟩ := h
  exact (Array.getElem?_eq_some_iff.1 hb).1
theorem Row.set {W : World} {B : Nat} {ys : List Int} (h : Row W B ys) (i : Nat) (hi : i < ys.length) (v : Int) : Row (W.setCell ⟨B, i, none⟩ (.int .u8 v)) B (ys.set i v) := by
  obtain ⟨CS, m, hb, hm, hc, hx⟩ := h
  refine ⟨CS.setIfInBounds i (.int .u8 v), m, by simp [World.setCell, Array.getElem?_modify, hb], by simpa using hm, by simpa using hc, fun j hj => ?_⟩
  rw [List.length_set] at hj
  by_cases e : i = j
  · subst e
    rw [Array.getElem?_setIfInBounds_self_of_lt (by omega)]
    congr 2
    rw [List.getD_eq_getElem?_getD, List.getElem?_set_self hi]
    rfl
  · rw [Array.getElem?_setIfInBounds_ne e, hx j hj]
    congr 2
    rw [List.getD_eq_getElem?_getD, List.getD_eq_getElem?_getD, List.getElem?_set_ne e]
theorem Row.below {W W' : World} {B : Nat} {ys : List Int} (h : Row W B ys) (hb : Below W.heap.size W W') : Row W' B ys := by
  have hl := h.lt
  obtain ⟨CS, m, hb', r⟩ := h
  exact ⟨CS, m, (hb.block B hl).trans hb', r⟩
theorem Row.other {W : World} {B g : Nat} {ys : List Int} (h : Row W B ys) (hg : B ≠ g) (i : Nat) (v : Value) : Row (W.setCell ⟨g, i, none⟩ v) B ys := by
  obtain ⟨CS, m, hb', r⟩ := h
  exact ⟨CS, m, (Below.heap_setCell W ⟨g, i, none⟩ v B hg).trans hb', r⟩
theorem Row.alloc {W : World} {B : Nat} {ys : List Int} (h : Row W B ys) (o : Obj) : Row (W.alloc o) B ys := by
  have hl := h.lt
  obtain ⟨CS, m, hb', r⟩ := h
  exact ⟨CS, m, (Below.heap_alloc W o B hl).trans hb', r⟩
theorem Row.conv {W : World} {B : Nat} {ys : List Int} (h : Row W B ys) (n cap : Nat) (hn : ys.length = n) :
    (convert 37 9 (.slice (some ⟨B, 0, none⟩) n cap)).run Try.prog W = .ok (.string (strOfNums ys)) W :=
  run_convert_bytes_arg (P := Try.prog) (w := W) 37 5 Try.underlying37 Try.underlying5 B 0 n cap ys hn (fun i hi => by rw [Nat.zero_add]; exact h.cell i (by omega)) 9 Try.underlying9
theorem below_bytes {w W : World} (s : ByteArray) (h : Below w.heap.size w W) : Below w.heap.size w (Lib.bytesWorld W 5 s) := by
  refine ⟨h.os, h.tape, h.output, by rw [Lib.bytesWorld_size]; have := h.size; omega, fun k hk => ?_⟩
  rw [Lib.bytesWorld_at_old W _ s k (by have := h.size; omega)]
  exact h.block k hk

theorem Row.same {W W' : World} {B : Nat} {ys : List Int} (h : Row W B ys) (e : W'.heap[B]? = W.heap[B]?) : Row W' B ys := by
  obtain ⟨CS, m, hb', r⟩ := h
  exact ⟨CS, m, e.trans hb', r⟩
theorem heap_put8 (w : World) {g R : Nat} (h : R ≠ g) (v0 v1 v2 v3 v4 v5 v6 v7 : Value) :
    ((((((((w.setCell ⟨g, 0, none⟩ v0).setCell ⟨g, 1, none⟩ v1).setCell ⟨g, 2, none⟩ v2).setCell ⟨g, 3, none⟩ v3).setCell ⟨g, 4, none⟩ v4).setCell ⟨g, 5, none⟩ v5).setCell ⟨g, 6, none⟩ v6).setCell ⟨g, 7, none⟩ v7).heap[R]? = w.heap[R]? := by
  rw [Below.heap_setCell _ ⟨g, 7, none⟩ _ R h, Below.heap_setCell _ ⟨g, 6, none⟩ _ R h, Below.heap_setCell _ ⟨g, 5, none⟩ _ R h, Below.heap_setCell _ ⟨g, 4, none⟩ _ R h, Below.heap_setCell _ ⟨g, 3, none⟩ _ R h, Below.heap_setCell _ ⟨g, 2, none⟩ _ R h, Below.heap_setCell _ ⟨g, 1, none⟩ _ R h, Below.heap_setCell _ ⟨g, 0, none⟩ _ R h]
/-- A literal slice of one number. -/
theorem C_one {W : World} {g : Nat} {x : Int} (h : W.cell? ⟨g, 0, none⟩ = some (.int .i64 x)) : (Kd.int .i64).C W (some ⟨g, 0, none⟩) ([x] : List Int).length [x] := by
  refine ⟨rfl, by simp, fun _ => ⟨⟨g, 0, none⟩, rfl, fun j p hj => ?_⟩⟩
  match j, hj with
  | 0, hj =>
    obtain rfl : x = p := Option.some.inj hj
    refine ⟨[.int .i64 x], rfl, rfl, fun i u hi => ?_⟩
    match i, hi with
    | 0, hi =>
      obtain rfl := Option.some.inj hi
      simpa [Addr.add] using h

end Go.Proofs.Ytagnefbgclpccaa.H
