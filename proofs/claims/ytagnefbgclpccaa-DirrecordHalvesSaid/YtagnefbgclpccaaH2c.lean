import Derived.Test.YtagnefbgclpccaaH2b
import Derived.LoopN
namespace Go.Proofs.Ytagnefbgclpccaa.H
open Go.RowKit Go.Proofs.YtagnefbgclpccaaW.PrintWords
set_option linter.unusedVariables false

set_option maxRecDepth 100000 in
set_option maxHeartbeats 8000000 in
theorem enc1_twoz {R W b : Nat} {cs : Array Value} {w0 w : World} {e : Int} {l : List UInt8} (h : Enc R W b cs w0 w e l) (g : Nat) (n0 z0 : Int) (s0 : ByteArray)
    (hg : w.heap[g]? = some (.cells #[.int .i64 n0, .int .i64 z0] 3 (0, 0))) (gb : g ≠ b) (gW : g ≠ W) (hB0 : endian_Both.f n0 z0 = some (s0, 0)) (hs0 : s0.size ≤ 1000) (hl : l.length ≤ 1000000) :
    Calls Try.prog 22 #[.slice (some ⟨g, 0, none⟩) 2 2, .pointer (some ⟨W, 0, none⟩), .pointer (some ⟨b, 0, none⟩)] w fun ev w' => ev = .returned (.tuple #[]) ∧ Enc R W b cs w0 w' e (l ++ s0.data.toList) := by
  have c0 : w.cell? ⟨g, 0, none⟩ = some (.int .i64 n0) := by simp [World.cell?, hg]
  have c1 : w.cell? ⟨g, 1, none⟩ = some (.int .i64 z0) := by simp [World.cell?, hg]
  have v1 : IntKind.i64.wrap 1 = 1 := by decide
  have v2 : IntKind.i64.wrap 2 = 2 := by decide
  have v3 : IntKind.i64.wrap 3 = 3 := by decide
  have HG := Lib.hid hg
  have HB0 := Lib.hid hB0
  clear hg hB0
  go_enter Try.func22, Try.ntmps22
  go_wp2
  refine wp_loop_rounds 2 ?_
  rw [rounds_succ]
  go_wp2
  go_region_held3 (fun w' => w'.cell? ⟨g, 0, none⟩ = some (.int .i64 n0) ∧ w'.cell? ⟨g, 1, none⟩ = some (.int .i64 z0)) (first | go_keep | (go_split_ands; refine ⟨?_, ?_⟩ <;> (rw [hb0.cell (World.block_lt_of_cell? _ _ (by assumption))]; assumption)))
    (first | (go_at_call 23; refine (endian_Both.calls _ _ _ _ _ HB0.out).mono ?_; rintro ev wa0 ⟨rfl, hb0⟩))
  have ha0 := h.drew.stays hb0
  have hc0 := ha0
  go_wp2_with fail
  refine (enc_ws hc0 s0 (by omega)).mono ?_
  rintro ev wb0 ⟨rfl, hd0, hk0⟩
  clear hk0 hb0
  go_wp2
  rw [rounds_succ]
  go_wp2
  go_end0
  exact ⟨rfl, hd0⟩

set_option maxRecDepth 100000 in
set_option maxHeartbeats 8000000 in
theorem enc1_twoe {R W b : Nat} {cs : Array Value} {w0 w : World} {e : Int} {l : List UInt8} (h : Enc R W b cs w0 w e l) (g : Nat) (n0 z0 e0 : Int) (s0 : ByteArray)
    (hg : w.heap[g]? = some (.cells #[.int .i64 n0, .int .i64 z0] 3 (0, 0))) (gb : g ≠ b) (gW : g ≠ W) (hB0 : endian_Both.f n0 z0 = some (s0, e0)) (hs0 : s0.size ≤ 1000) (hn0 : (e0 != 0) = true) (hl : l.length ≤ 1000000) :
    Calls Try.prog 22 #[.slice (some ⟨g, 0, none⟩) 2 2, .pointer (some ⟨W, 0, none⟩), .pointer (some ⟨b, 0, none⟩)] w fun ev w' => ev = .returned (.tuple #[]) ∧ Enc R W b cs w0 w' e0 (l ++ s0.data.toList) := by
  have c0 : w.cell? ⟨g, 0, none⟩ = some (.int .i64 n0) := by simp [World.cell?, hg]
  have c1 : w.cell? ⟨g, 1, none⟩ = some (.int .i64 z0) := by simp [World.cell?, hg]
  have v1 : IntKind.i64.wrap 1 = 1 := by decide
  have v2 : IntKind.i64.wrap 2 = 2 := by decide
  have v3 : IntKind.i64.wrap 3 = 3 := by decide
  have HG := Lib.hid hg
  have HB0 := Lib.hid hB0
  clear hg hB0
  go_enter Try.func22, Try.ntmps22
  go_wp2
  refine wp_loop_rounds 2 ?_
  rw [rounds_succ]
  go_wp2
  go_region_held3 (fun w' => w'.cell? ⟨g, 0, none⟩ = some (.int .i64 n0) ∧ w'.cell? ⟨g, 1, none⟩ = some (.int .i64 z0)) (first | go_keep | (go_split_ands; refine ⟨?_, ?_⟩ <;> (rw [hb0.cell (World.block_lt_of_cell? _ _ (by assumption))]; assumption)))
    (first | (go_at_call 23; refine (endian_Both.calls _ _ _ _ _ HB0.out).mono ?_; rintro ev wa0 ⟨rfl, hb0⟩))
  have ha0 := h.drew.stays hb0
  have cW0 := ha0.cellW
  have fW0 := ha0.frozenW
  have hc0 := ha0.set e0
  go_wp2_with fail
  refine (enc_ws hc0 s0 (by omega)).mono ?_
  rintro ev wb0 ⟨rfl, hd0, hk0⟩
  clear hk0 hb0 cW0 fW0
  go_wp2
  rw [rounds_succ]
  go_wp2
  go_end0
  exact ⟨rfl, hd0⟩

set_option maxRecDepth 100000 in
set_option maxHeartbeats 8000000 in
theorem enc1_fourzz {R W b : Nat} {cs : Array Value} {w0 w : World} {e : Int} {l : List UInt8} (h : Enc R W b cs w0 w e l) (g : Nat) (n0 z0 n1 z1 : Int) (s0 s1 : ByteArray)
    (hg : w.heap[g]? = some (.cells #[.int .i64 n0, .int .i64 z0, .int .i64 n1, .int .i64 z1] 3 (0, 0))) (gb : g ≠ b) (gW : g ≠ W) (hB0 : endian_Both.f n0 z0 = some (s0, 0)) (hs0 : s0.size ≤ 1000) (hB1 : endian_Both.f n1 z1 = some (s1, 0)) (hs1 : s1.size ≤ 1000) (hl : l.length ≤ 1000000) :
    Calls Try.prog 22 #[.slice (some ⟨g, 0, none⟩) 4 4, .pointer (some ⟨W, 0, none⟩), .pointer (some ⟨b, 0, none⟩)] w fun ev w' => ev = .returned (.tuple #[]) ∧ Enc R W b cs w0 w' e ((l ++ s0.data.toList) ++ s1.data.toList) := by
  have c0 : w.cell? ⟨g, 0, none⟩ = some (.int .i64 n0) := by simp [World.cell?, hg]
  have c1 : w.cell? ⟨g, 1, none⟩ = some (.int .i64 z0) := by simp [World.cell?, hg]
  have c2 : w.cell? ⟨g, 2, none⟩ = some (.int .i64 n1) := by simp [World.cell?, hg]
  have c3 : w.cell? ⟨g, 3, none⟩ = some (.int .i64 z1) := by simp [World.cell?, hg]
  have v1 : IntKind.i64.wrap 1 = 1 := by decide
  have v2 : IntKind.i64.wrap 2 = 2 := by decide
  have v3 : IntKind.i64.wrap 3 = 3 := by decide
  have v4 : IntKind.i64.wrap 4 = 4 := by decide
  have v5 : IntKind.i64.wrap 5 = 5 := by decide
  have HG := Lib.hid hg
  have HB0 := Lib.hid hB0
  have HB1 := Lib.hid hB1
  clear hg hB0 hB1
  go_enter Try.func22, Try.ntmps22
  go_wp2
  refine wp_loop_rounds 3 ?_
  rw [rounds_succ]
  go_wp2
  go_region_held3 (fun w' => w'.cell? ⟨g, 0, none⟩ = some (.int .i64 n0) ∧ w'.cell? ⟨g, 1, none⟩ = some (.int .i64 z0)) (first | go_keep | (go_split_ands; refine ⟨?_, ?_⟩ <;> (rw [hb0.cell (World.block_lt_of_cell? _ _ (by assumption))]; assumption)))
    (first | (go_at_call 23; refine (endian_Both.calls _ _ _ _ _ HB0.out).mono ?_; rintro ev wa0 ⟨rfl, hb0⟩))
  have ha0 := h.drew.stays hb0
  have HGa := Lib.hid ((hb0.block g (Array.getElem?_eq_some_iff.1 HG.out).1).trans HG.out)
  have hc0 := ha0
  go_wp2_with fail
  refine (enc_ws hc0 s0 (by omega)).mono ?_
  rintro ev wb0 ⟨rfl, hd0, hk0⟩
  have HGb : Hid _ := Lib.hid (hk0 g _ HGa.out (by simp [gb]) (by intro c fz; simp))
  have d2 : wb0.cell? ⟨g, 2, none⟩ = some (.int .i64 n1) := by simp [World.cell?, HGb.out]
  have d3 : wb0.cell? ⟨g, 3, none⟩ = some (.int .i64 z1) := by simp [World.cell?, HGb.out]
  clear c0 c1 c2 c3
  clear hk0 hb0
  go_wp2
  rw [rounds_succ]
  go_wp2
  go_region_held3 (fun w' => w'.cell? ⟨g, 2, none⟩ = some (.int .i64 n1) ∧ w'.cell? ⟨g, 3, none⟩ = some (.int .i64 z1)) (first | go_keep | (go_split_ands; refine ⟨?_, ?_⟩ <;> (rw [hb1.cell (World.block_lt_of_cell? _ _ (by assumption))]; assumption)))
    (first | (go_at_call 23; refine (endian_Both.calls _ _ _ _ _ HB1.out).mono ?_; rintro ev wa1 ⟨rfl, hb1⟩))
  have ha1 := hd0.drew.stays hb1
  have hc1 := ha1
  go_wp2_with fail
  refine (enc_ws hc1 s1 (by have hq : (l ++ s0.data.toList).length = l.length + s0.size := List.length_append ; omega)).mono ?_
  rintro ev wb1 ⟨rfl, hd1, hk1⟩
  clear hk1 hb1
  go_wp2
  rw [rounds_succ]
  go_wp2
  go_end0
  exact ⟨rfl, hd1⟩

set_option maxRecDepth 100000 in
set_option maxHeartbeats 8000000 in
theorem enc1_fourze {R W b : Nat} {cs : Array Value} {w0 w : World} {e : Int} {l : List UInt8} (h : Enc R W b cs w0 w e l) (g : Nat) (n0 z0 n1 z1 e1 : Int) (s0 s1 : ByteArray)
    (hg : w.heap[g]? = some (.cells #[.int .i64 n0, .int .i64 z0, .int .i64 n1, .int .i64 z1] 3 (0, 0))) (gb : g ≠ b) (gW : g ≠ W) (hB0 : endian_Both.f n0 z0 = some (s0, 0)) (hs0 : s0.size ≤ 1000) (hB1 : endian_Both.f n1 z1 = some (s1, e1)) (hs1 : s1.size ≤ 1000) (hn1 : (e1 != 0) = true) (hl : l.length ≤ 1000000) :
    Calls Try.prog 22 #[.slice (some ⟨g, 0, none⟩) 4 4, .pointer (some ⟨W, 0, none⟩), .pointer (some ⟨b, 0, none⟩)] w fun ev w' => ev = .returned (.tuple #[]) ∧ Enc R W b cs w0 w' e1 ((l ++ s0.data.toList) ++ s1.data.toList) := by
  have c0 : w.cell? ⟨g, 0, none⟩ = some (.int .i64 n0) := by simp [World.cell?, hg]
  have c1 : w.cell? ⟨g, 1, none⟩ = some (.int .i64 z0) := by simp [World.cell?, hg]
  have c2 : w.cell? ⟨g, 2, none⟩ = some (.int .i64 n1) := by simp [World.cell?, hg]
  have c3 : w.cell? ⟨g, 3, none⟩ = some (.int .i64 z1) := by simp [World.cell?, hg]
  have v1 : IntKind.i64.wrap 1 = 1 := by decide
  have v2 : IntKind.i64.wrap 2 = 2 := by decide
  have v3 : IntKind.i64.wrap 3 = 3 := by decide
  have v4 : IntKind.i64.wrap 4 = 4 := by decide
  have v5 : IntKind.i64.wrap 5 = 5 := by decide
  have HG := Lib.hid hg
  have HB0 := Lib.hid hB0
  have HB1 := Lib.hid hB1
  clear hg hB0 hB1
  go_enter Try.func22, Try.ntmps22
  go_wp2
  refine wp_loop_rounds 3 ?_
  rw [rounds_succ]
  go_wp2
  go_region_held3 (fun w' => w'.cell? ⟨g, 0, none⟩ = some (.int .i64 n0) ∧ w'.cell? ⟨g, 1, none⟩ = some (.int .i64 z0)) (first | go_keep | (go_split_ands; refine ⟨?_, ?_⟩ <;> (rw [hb0.cell (World.block_lt_of_cell? _ _ (by assumption))]; assumption)))
    (first | (go_at_call 23; refine (endian_Both.calls _ _ _ _ _ HB0.out).mono ?_; rintro ev wa0 ⟨rfl, hb0⟩))
  have ha0 := h.drew.stays hb0
  have HGa := Lib.hid ((hb0.block g (Array.getElem?_eq_some_iff.1 HG.out).1).trans HG.out)
  have hc0 := ha0
  go_wp2_with fail
  refine (enc_ws hc0 s0 (by omega)).mono ?_
  rintro ev wb0 ⟨rfl, hd0, hk0⟩
  have HGb : Hid _ := Lib.hid (hk0 g _ HGa.out (by simp [gb]) (by intro c fz; simp))
  have d2 : wb0.cell? ⟨g, 2, none⟩ = some (.int .i64 n1) := by simp [World.cell?, HGb.out]
  have d3 : wb0.cell? ⟨g, 3, none⟩ = some (.int .i64 z1) := by simp [World.cell?, HGb.out]
  clear c0 c1 c2 c3
  clear hk0 hb0
  go_wp2
  rw [rounds_succ]
  go_wp2
  go_region_held3 (fun w' => w'.cell? ⟨g, 2, none⟩ = some (.int .i64 n1) ∧ w'.cell? ⟨g, 3, none⟩ = some (.int .i64 z1)) (first | go_keep | (go_split_ands; refine ⟨?_, ?_⟩ <;> (rw [hb1.cell (World.block_lt_of_cell? _ _ (by assumption))]; assumption)))
    (first | (go_at_call 23; refine (endian_Both.calls _ _ _ _ _ HB1.out).mono ?_; rintro ev wa1 ⟨rfl, hb1⟩))
  have ha1 := hd0.drew.stays hb1
  have cW1 := ha1.cellW
  have fW1 := ha1.frozenW
  have hc1 := ha1.set e1
  go_wp2_with fail
  refine (enc_ws hc1 s1 (by have hq : (l ++ s0.data.toList).length = l.length + s0.size := List.length_append ; omega)).mono ?_
  rintro ev wb1 ⟨rfl, hd1, hk1⟩
  clear hk1 hb1 cW1 fW1
  go_wp2
  rw [rounds_succ]
  go_wp2
  go_end0
  exact ⟨rfl, hd1⟩

set_option maxRecDepth 100000 in
set_option maxHeartbeats 8000000 in
theorem enc1_fourez {R W b : Nat} {cs : Array Value} {w0 w : World} {e : Int} {l : List UInt8} (h : Enc R W b cs w0 w e l) (g : Nat) (n0 z0 n1 z1 e0 : Int) (s0 s1 : ByteArray)
    (hg : w.heap[g]? = some (.cells #[.int .i64 n0, .int .i64 z0, .int .i64 n1, .int .i64 z1] 3 (0, 0))) (gb : g ≠ b) (gW : g ≠ W) (hB0 : endian_Both.f n0 z0 = some (s0, e0)) (hs0 : s0.size ≤ 1000) (hB1 : endian_Both.f n1 z1 = some (s1, 0)) (hs1 : s1.size ≤ 1000) (hn0 : (e0 != 0) = true) (hl : l.length ≤ 1000000) :
    Calls Try.prog 22 #[.slice (some ⟨g, 0, none⟩) 4 4, .pointer (some ⟨W, 0, none⟩), .pointer (some ⟨b, 0, none⟩)] w fun ev w' => ev = .returned (.tuple #[]) ∧ Enc R W b cs w0 w' e0 ((l ++ s0.data.toList) ++ s1.data.toList) := by
  have c0 : w.cell? ⟨g, 0, none⟩ = some (.int .i64 n0) := by simp [World.cell?, hg]
  have c1 : w.cell? ⟨g, 1, none⟩ = some (.int .i64 z0) := by simp [World.cell?, hg]
  have c2 : w.cell? ⟨g, 2, none⟩ = some (.int .i64 n1) := by simp [World.cell?, hg]
  have c3 : w.cell? ⟨g, 3, none⟩ = some (.int .i64 z1) := by simp [World.cell?, hg]
  have v1 : IntKind.i64.wrap 1 = 1 := by decide
  have v2 : IntKind.i64.wrap 2 = 2 := by decide
  have v3 : IntKind.i64.wrap 3 = 3 := by decide
  have v4 : IntKind.i64.wrap 4 = 4 := by decide
  have v5 : IntKind.i64.wrap 5 = 5 := by decide
  have HG := Lib.hid hg
  have HB0 := Lib.hid hB0
  have HB1 := Lib.hid hB1
  clear hg hB0 hB1
  go_enter Try.func22, Try.ntmps22
  go_wp2
  refine wp_loop_rounds 3 ?_
  rw [rounds_succ]
  go_wp2
  go_region_held3 (fun w' => w'.cell? ⟨g, 0, none⟩ = some (.int .i64 n0) ∧ w'.cell? ⟨g, 1, none⟩ = some (.int .i64 z0)) (first | go_keep | (go_split_ands; refine ⟨?_, ?_⟩ <;> (rw [hb0.cell (World.block_lt_of_cell? _ _ (by assumption))]; assumption)))
    (first | (go_at_call 23; refine (endian_Both.calls _ _ _ _ _ HB0.out).mono ?_; rintro ev wa0 ⟨rfl, hb0⟩))
  have ha0 := h.drew.stays hb0
  have HGa := Lib.hid ((hb0.block g (Array.getElem?_eq_some_iff.1 HG.out).1).trans HG.out)
  have cW0 := ha0.cellW
  have fW0 := ha0.frozenW
  have hc0 := ha0.set e0
  go_wp2_with fail
  refine (enc_ws hc0 s0 (by omega)).mono ?_
  rintro ev wb0 ⟨rfl, hd0, hk0⟩
  have HGb : Hid _ := Lib.hid (hk0 g _ (blk_other HGa.out gW 0 (.int .i64 e0)) (by simp [gb]) (by intro c fz; simp))
  have d2 : wb0.cell? ⟨g, 2, none⟩ = some (.int .i64 n1) := by simp [World.cell?, HGb.out]
  have d3 : wb0.cell? ⟨g, 3, none⟩ = some (.int .i64 z1) := by simp [World.cell?, HGb.out]
  clear c0 c1 c2 c3
  clear hk0 hb0 cW0 fW0
  go_wp2
  rw [rounds_succ]
  go_wp2
  go_region_held3 (fun w' => w'.cell? ⟨g, 2, none⟩ = some (.int .i64 n1) ∧ w'.cell? ⟨g, 3, none⟩ = some (.int .i64 z1)) (first | go_keep | (go_split_ands; refine ⟨?_, ?_⟩ <;> (rw [hb1.cell (World.block_lt_of_cell? _ _ (by assumption))]; assumption)))
    (first | (go_at_call 23; refine (endian_Both.calls _ _ _ _ _ HB1.out).mono ?_; rintro ev wa1 ⟨rfl, hb1⟩))
  have ha1 := hd0.drew.stays hb1
  have hc1 := ha1
  go_wp2_with fail
  refine (enc_ws hc1 s1 (by have hq : (l ++ s0.data.toList).length = l.length + s0.size := List.length_append ; omega)).mono ?_
  rintro ev wb1 ⟨rfl, hd1, hk1⟩
  clear hk1 hb1
  go_wp2
  rw [rounds_succ]
  go_wp2
  go_end0
  exact ⟨rfl, hd1⟩

set_option maxRecDepth 100000 in
set_option maxHeartbeats 8000000 in
theorem enc1_fouree {R W b : Nat} {cs : Array Value} {w0 w : World} {e : Int} {l : List UInt8} (h : Enc R W b cs w0 w e l) (g : Nat) (n0 z0 n1 z1 e0 e1 : Int) (s0 s1 : ByteArray)
    (hg : w.heap[g]? = some (.cells #[.int .i64 n0, .int .i64 z0, .int .i64 n1, .int .i64 z1] 3 (0, 0))) (gb : g ≠ b) (gW : g ≠ W) (hB0 : endian_Both.f n0 z0 = some (s0, e0)) (hs0 : s0.size ≤ 1000) (hB1 : endian_Both.f n1 z1 = some (s1, e1)) (hs1 : s1.size ≤ 1000) (hn0 : (e0 != 0) = true) (hn1 : (e1 != 0) = true) (hl : l.length ≤ 1000000) :
    Calls Try.prog 22 #[.slice (some ⟨g, 0, none⟩) 4 4, .pointer (some ⟨W, 0, none⟩), .pointer (some ⟨b, 0, none⟩)] w fun ev w' => ev = .returned (.tuple #[]) ∧ Enc R W b cs w0 w' e1 ((l ++ s0.data.toList) ++ s1.data.toList) := by
  have c0 : w.cell? ⟨g, 0, none⟩ = some (.int .i64 n0) := by simp [World.cell?, hg]
  have c1 : w.cell? ⟨g, 1, none⟩ = some (.int .i64 z0) := by simp [World.cell?, hg]
  have c2 : w.cell? ⟨g, 2, none⟩ = some (.int .i64 n1) := by simp [World.cell?, hg]
  have c3 : w.cell? ⟨g, 3, none⟩ = some (.int .i64 z1) := by simp [World.cell?, hg]
  have v1 : IntKind.i64.wrap 1 = 1 := by decide
  have v2 : IntKind.i64.wrap 2 = 2 := by decide
  have v3 : IntKind.i64.wrap 3 = 3 := by decide
  have v4 : IntKind.i64.wrap 4 = 4 := by decide
  have v5 : IntKind.i64.wrap 5 = 5 := by decide
  have HG := Lib.hid hg
  have HB0 := Lib.hid hB0
  have HB1 := Lib.hid hB1
  clear hg hB0 hB1
  go_enter Try.func22, Try.ntmps22
  go_wp2
  refine wp_loop_rounds 3 ?_
  rw [rounds_succ]
  go_wp2
  go_region_held3 (fun w' => w'.cell? ⟨g, 0, none⟩ = some (.int .i64 n0) ∧ w'.cell? ⟨g, 1, none⟩ = some (.int .i64 z0)) (first | go_keep | (go_split_ands; refine ⟨?_, ?_⟩ <;> (rw [hb0.cell (World.block_lt_of_cell? _ _ (by assumption))]; assumption)))
    (first | (go_at_call 23; refine (endian_Both.calls _ _ _ _ _ HB0.out).mono ?_; rintro ev wa0 ⟨rfl, hb0⟩))
  have ha0 := h.drew.stays hb0
  have HGa := Lib.hid ((hb0.block g (Array.getElem?_eq_some_iff.1 HG.out).1).trans HG.out)
  have cW0 := ha0.cellW
  have fW0 := ha0.frozenW
  have hc0 := ha0.set e0
  go_wp2_with fail
  refine (enc_ws hc0 s0 (by omega)).mono ?_
  rintro ev wb0 ⟨rfl, hd0, hk0⟩
  have HGb : Hid _ := Lib.hid (hk0 g _ (blk_other HGa.out gW 0 (.int .i64 e0)) (by simp [gb]) (by intro c fz; simp))
  have d2 : wb0.cell? ⟨g, 2, none⟩ = some (.int .i64 n1) := by simp [World.cell?, HGb.out]
  have d3 : wb0.cell? ⟨g, 3, none⟩ = some (.int .i64 z1) := by simp [World.cell?, HGb.out]
  clear c0 c1 c2 c3
  clear hk0 hb0 cW0 fW0
  go_wp2
  rw [rounds_succ]
  go_wp2
  go_region_held3 (fun w' => w'.cell? ⟨g, 2, none⟩ = some (.int .i64 n1) ∧ w'.cell? ⟨g, 3, none⟩ = some (.int .i64 z1)) (first | go_keep | (go_split_ands; refine ⟨?_, ?_⟩ <;> (rw [hb1.cell (World.block_lt_of_cell? _ _ (by assumption))]; assumption)))
    (first | (go_at_call 23; refine (endian_Both.calls _ _ _ _ _ HB1.out).mono ?_; rintro ev wa1 ⟨rfl, hb1⟩))
  have ha1 := hd0.drew.stays hb1
  have cW1 := ha1.cellW
  have fW1 := ha1.frozenW
  have hc1 := ha1.set e1
  go_wp2_with fail
  refine (enc_ws hc1 s1 (by have hq : (l ++ s0.data.toList).length = l.length + s0.size := List.length_append ; omega)).mono ?_
  rintro ev wb1 ⟨rfl, hd1, hk1⟩
  clear hk1 hb1 cW1 fW1
  go_wp2
  rw [rounds_succ]
  go_wp2
  go_end0
  exact ⟨rfl, hd1⟩

theorem enc1_2 {R W b : Nat} {cs : Array Value} {w0 w : World} {e : Int} {l : List UInt8} (h : Enc R W b cs w0 w e l) (g : Nat) (n z e1 : Int) (s : ByteArray)
    (hg : w.heap[g]? = some (.cells #[.int .i64 n, .int .i64 z] 3 (0, 0))) (gb : g ≠ b) (gW : g ≠ W) (hB : endian_Both.f n z = some (s, e1)) (hs : s.size ≤ 1000) (hl : l.length ≤ 1000000) :
    Calls Try.prog 22 #[.slice (some ⟨g, 0, none⟩) 2 2, .pointer (some ⟨W, 0, none⟩), .pointer (some ⟨b, 0, none⟩)] w fun ev w' => ev = .returned (.tuple #[]) ∧ Enc R W b cs w0 w' (ee e e1) (l ++ s.data.toList) := by
  unfold ee
  by_cases h1 : e1 = 0
  · subst h1
    rw [if_pos rfl]
    exact enc1_twoz h g n z s hg gb gW hB hs hl
  · rw [if_neg h1]
    exact enc1_twoe h g n z e1 s hg gb gW hB hs (by simpa using h1) hl
theorem enc1_4 {R W b : Nat} {cs : Array Value} {w0 w : World} {e : Int} {l : List UInt8} (h : Enc R W b cs w0 w e l) (g : Nat) (n0 z0 n1 z1 e0 e1 : Int) (s0 s1 : ByteArray)
    (hg : w.heap[g]? = some (.cells #[.int .i64 n0, .int .i64 z0, .int .i64 n1, .int .i64 z1] 3 (0, 0))) (gb : g ≠ b) (gW : g ≠ W)
    (hB0 : endian_Both.f n0 z0 = some (s0, e0)) (hs0 : s0.size ≤ 1000) (hB1 : endian_Both.f n1 z1 = some (s1, e1)) (hs1 : s1.size ≤ 1000) (hl : l.length ≤ 1000000) :
    Calls Try.prog 22 #[.slice (some ⟨g, 0, none⟩) 4 4, .pointer (some ⟨W, 0, none⟩), .pointer (some ⟨b, 0, none⟩)] w fun ev w' => ev = .returned (.tuple #[]) ∧ Enc R W b cs w0 w' (ee (ee e e0) e1) ((l ++ s0.data.toList) ++ s1.data.toList) := by
  unfold ee
  by_cases h0 : e0 = 0
  · subst h0
    rw [if_pos rfl]
    by_cases h1 : e1 = 0
    · subst h1
      rw [if_pos rfl]
      exact enc1_fourzz h g n0 z0 n1 z1 s0 s1 hg gb gW hB0 hs0 hB1 hs1 hl
    · rw [if_neg h1]
      exact enc1_fourze h g n0 z0 n1 z1 e1 s0 s1 hg gb gW hB0 hs0 hB1 hs1 (by simpa using h1) hl
  · rw [if_neg h0]
    by_cases h1 : e1 = 0
    · subst h1
      rw [if_pos rfl]
      exact enc1_fourez h g n0 z0 n1 z1 e0 s0 s1 hg gb gW hB0 hs0 hB1 hs1 (by simpa using h0) hl
    · rw [if_neg h1]
      exact enc1_fouree h g n0 z0 n1 z1 e0 e1 s0 s1 hg gb gW hB0 hs0 hB1 hs1 (by simpa using h0) (by simpa using h1) hl

end Go.Proofs.Ytagnefbgclpccaa.H
