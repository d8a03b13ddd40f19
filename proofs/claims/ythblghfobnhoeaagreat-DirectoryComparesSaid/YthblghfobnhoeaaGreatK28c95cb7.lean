import Derived.Test.YthblghfobnhoeaaGreatK44df00ba
import Derived.Laws.CopyOwn
import Derived.Laws.CopyRow
import Derived.Deep.RegionLaw
import Derived.Deep.LoopGhost
import Derived.Deep.Cut
namespace Go.Proofs.YthblghfobnhoeaaGreat.H
open Go.RowKit Go.Proofs.YthblghfobnhoeaaGreatW.PrintWords Go.Proofs.YthblghfobnhoeaaGreatW.PrintLast Go.Proofs.YthblghfobnhoeaaGreatW.PrintMore Go.Proofs.YthblghfobnhoeaaGreat.A
set_option linter.unusedVariables false
set_option linter.unusedSimpArgs false

/-! slices.Repeat([]int{34}, 60). -/
/-- n numbers of one kind, then zeros, 60 cells in all. -/
def rep60 (n : Nat) : List Value := List.replicate n (.int .i64 34) ++ List.replicate (60 - n) (.int .i64 0)

theorem rep60_len (n : Nat) (h : n ≤ 60) : (rep60 n).length = 60 := by
  unfold rep60
  rw [List.length_append, List.length_replicate, List.length_replicate]; omega
theorem rep_src {W : World} {G n m : Nat} (hg : W.heap[G]? = some (.cells (rep60 n).toArray 3 (0, 0))) (hm : m ≤ n) (j : Nat) (v : Value) (hj : (List.replicate m (Value.int .i64 34))[j]? = some v) : W.cell? ((⟨G, 0, none⟩ : Addr).add j) = some v := by
  have hlt : j < m := by
    have := (List.getElem?_eq_some_iff.1 hj).1
    simpa using this
  have e : W.cell? ((⟨G, 0, none⟩ : Addr).add j) = (rep60 n).toArray[j]? := by
    have h1 := cell_of_row W G j (rep60 n).toArray 3 (0, 0) hg
    have h2 : (⟨G, 0, none⟩ : Addr).add j = ⟨G, j, none⟩ := by
      rcases Nat.eq_zero_or_pos j with rfl | hj0
      · rfl
      · simp [Addr.add, show ¬ j = 0 by omega]
    rw [h2]; exact h1
  rw [e, List.getElem?_toArray]
  unfold rep60
  rw [List.getElem?_append_left (by rw [List.length_replicate]; omega), List.getElem?_replicate, if_pos (by omega)]
  rw [List.getElem?_replicate, if_pos hlt] at hj
  exact hj
theorem rep_splice (n m : Nat) (h : n + m ≤ 60) : splice (rep60 n) n (List.replicate m (Value.int .i64 34)) = rep60 (n + m) := by
  unfold splice rep60
  rw [List.take_left' (by rw [List.length_replicate]), List.length_replicate, ← List.append_assoc, List.replicate_append_replicate]
  congr 1
  rw [List.drop_append, List.length_replicate, List.drop_of_length_le (by rw [List.length_replicate]; omega), List.nil_append, List.drop_replicate]
  congr 1
  omega

set_option maxRecDepth 100000 in
set_option maxHeartbeats 4000000 in
theorem repeat60 (A : Option Addr) (c0 : Nat) (w : World) (hC : Kd.C (Kd.int .i64) w A ([34] : List Int).length [34]) (hc : 1 ≤ c0) :
    Calls Tryz.prog 31 #[.slice A 1 c0, .int .i64 60] w fun e w' => ∃ v, e = .returned v ∧ Kd.R (Kd.int .i64) 3 w' w.heap.size (fun _ => True) v (List.replicate 60 34) ∧ Below w.heap.size w w' := by
  have hM := fun W => bits_Mul.calls 1 60 0 60 W (by kernel_rfl)
  have hmk : ∀ W, (Instr.makeSlice 33 (.int .i64 60) (.int .i64 60)).run Tryz.prog W = .ok (.slice (some ⟨W.heap.size, 0, none⟩) 60 60) (W.alloc (.cells (rep60 0).toArray 3)) := fun _ => by kernel_rfl
  have w1 : IntKind.u64.wrap 1 = 1 := by decide
  have w60 : IntKind.u64.wrap 60 = 60 := by decide
  have x60 : IntKind.i64.wrap 60 = 60 := by decide
  go_enter Tryz.func31, Tryz.ntmps31
  go_upto_region 7 with (go_at_call 51; refine (hM _).mono ?_; rintro e w2 ⟨rfl, nd, rfl⟩)
  obtain ⟨hl_, hm_, hA⟩ := hC
  obtain ⟨ad, rfl, hcell⟩ := hA (by decide)
  obtain ⟨cc, hlen_, hk, hcc⟩ := hcell 0 34 rfl
  clear hlen_ hl_ hm_ hA hcell
  obtain rfl : cc = [.int .i64 34] := hk
  have hs0 : w.cell? ad = some (.int .i64 34) := by simpa [Addr.add] using hcc 0 _ rfl
  have hbel : Below w.heap.size w ((w.drewN nd).alloc (.cells (rep60 0).toArray 3)) := below_alloc (pw_below_drewN (Below.refl _ _) nd) _
  have hadb : ad.block < w.heap.size := by
    have h := hs0
    unfold World.cell? at h
    apply Classical.byContradiction
    intro hge
    rw [Array.getElem?_eq_none (by omega)] at h
    cases h
  have hs1 := (hbel.cell hadb).trans hs0
  have hg1 : ((w.drewN nd).alloc (.cells (rep60 0).toArray 3)).heap[w.heap.size]? = some (.cells (rep60 0).toArray 3 (0, 0)) := heap_alloc_new (w.drewN nd) _
  generalize (w.drewN nd).alloc (.cells (rep60 0).toArray 3) = w3 at hbel hs1 hg1 ⊢
  have hcp := run_copy_row (P := Tryz.prog) w3 33 33 3 3 w.heap.size 0 60 60 ad 1 c0 (rep60 0).toArray 3 [.int .i64 34] Tryz.underlying33 (by kernel_rfl) hg1 rfl
    (fun j v hj => by
      match j, hj with
      | 0, hj => obtain rfl := Option.some.inj hj; simpa [Addr.add] using hs1) (by decide) (by decide)
  go_wp2_with fail
  have hr1 : (.int .i64 34 :: (rep60 0).tail : List Value).toArray = (rep60 1).toArray := rfl
  have hg4 : (w3.setRow w.heap.size (.int .i64 34 :: (rep60 0).tail).toArray).heap[w.heap.size]? = some (.cells (rep60 1).toArray 3 (0, 0)) := by rw [hr1]; exact setRow_heap w3 w.heap.size _ _ 3 _ hg1
  have hb4 : Below w.heap.size w (w3.setRow w.heap.size (.int .i64 34 :: (rep60 0).tail).toArray) := below_setRow hbel (Nat.le_refl _) _
  generalize w3.setRow w.heap.size (.int .i64 34 :: (rep60 0).tail).toArray = w4 at hg4 hb4 ⊢
  clear hcp hg1 hs1 hbel
  go_loopg [8] 60 (fun g s8 wx => ∃ n : Nat, 1 ≤ n ∧ n ≤ 60 ∧ 60 - n ≤ g ∧ s8 = .int .i64 (n : Int) ∧ wx.heap[w.heap.size]? = some (.cells (rep60 n).toArray 3 (0, 0)) ∧ Below w.heap.size w wx)
  case atStart => exact ⟨1, by omega, by omega, by omega, rfl, hg4, hb4⟩
  case round =>
    obtain ⟨n, n1, n60, hng, rfl, hg, hb⟩ := hrel
    by_cases hn : n = 60
    · subst hn
      go_wp2_with fail
      go_ret
      exact ⟨_, rfl, Kd.R_of_own (enc := Value.int .i64) ⟨rfl, Or.inr ⟨w.heap.size, 60, _, rfl, Nat.le_refl _, hg, Nat.le_refl _, by decide, rfl, rfl⟩⟩ (fun _ _ => trivial), hb⟩
    · have hd : decide ((n : Int) < 60) = true := decide_eq_true (by omega)
      have hp0 : (0 : Int) ≤ (n : Int) := by omega
      have hp1 : (n : Int) ≤ 60 := by omega
      have hne : ¬ 60 = n := by omega
      obtain ⟨m, hm⟩ : ∃ m, m = Nat.min n (60 - n) := ⟨_, rfl⟩
      have hm1 : 1 ≤ m := by rw [hm]; exact Nat.le_min.2 ⟨n1, by omega⟩
      have hm2 : m ≤ n := by rw [hm]; exact Nat.min_le_left _ _
      have hm3 : m ≤ 60 - n := by rw [hm]; exact Nat.min_le_right _ _
      have hw : IntKind.i64.wrap ((n : Int) + (m : Int)) = ((n + m : Nat) : Int) := by rw [IntKind.wrap_i64]; push_cast; omega
      have hl60 := rep60_len n n60
      go_wp2_with fail
      go_region_law (refine step_copy_splice rfl (.tmp 41) (.tmp 44) 33 33 rfl 3 Tryz.underlying33 (by kernel_rfl) (some ⟨w.heap.size, n, none⟩) (some ⟨w.heap.size, 0, none⟩) (60 - n) (60 - n) n 60 (by simp [Act.eval, Act.put, hne]) (by simp [Act.eval, Act.put]) w.heap.size n (rep60 n) 3 hg (List.replicate m (.int .i64 34)) (by rw [List.length_replicate]; exact hm) (fun _ => ⟨rfl, ⟨w.heap.size, 0, none⟩, rfl, fun j v hj => rep_src hg hm2 j v hj⟩) (by rw [List.length_replicate, hl60]; omega) (by intro v hv; rw [List.eq_of_mem_replicate hv]; rfl) w.heap.size w hb.drew (Nat.le_refl _) ?_; intro w5 hg5 hb5)
      have hg6 := hg5.out
      rw [rep_splice n m (by omega)] at hg6
      rw [← hm, hw]
      simp only [Act.put, Exit.inBlock, Exit.then]
      rename_i hJq hKq
      refine hKq _ _ ?_
      go_roundg (60 - (n + m))
      case measure => omega
      case rel => exact ⟨n + m, by omega, by omega, Nat.le_refl _, rfl, hg6, hb5⟩

/-- slices.Repeat, at this call. -/
def slices_Repeat_int_int.f (l0 : List Int) (a1 : Int) : Option (List Int) := if l0 = [34] ∧ a1 = 60 then some (List.replicate 60 34) else none
theorem slices_Repeat_int_int.calls (A0 : Option Addr) (c0 : Nat) (l0 : List Int) (a1 : Int) (r : List Int) (w : World) (hr0 : Kd.C (Kd.int .i64) w A0 l0.length l0) (hc0 : l0.length ≤ c0) (h : slices_Repeat_int_int.f l0 a1 = some r) :
    Calls Tryz.prog 31 #[.slice A0 l0.length c0, .int .i64 a1] w fun e w' => ∃ v0_ : Value, e = .returned (v0_) ∧ Kd.R (Kd.int .i64) 3 w' w.heap.size (fun _ => True) v0_ r ∧ Below w.heap.size w w' := by
  unfold slices_Repeat_int_int.f at h
  by_cases hc : l0 = [34] ∧ a1 = 60
  · rw [if_pos hc] at h
    obtain rfl := Option.some.inj h
    obtain ⟨rfl, rfl⟩ := hc
    exact repeat60 A0 c0 w hr0 hc0
  · rw [if_neg hc] at h
    cases h

end Go.Proofs.YthblghfobnhoeaaGreat.H
