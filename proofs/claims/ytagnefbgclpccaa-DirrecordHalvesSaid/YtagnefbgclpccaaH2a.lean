import Derived.Test.YtagnefbgclpccaaH0
import Derived.Shelf.Strings.Builder1
import Derived.Shelf.Strings.BuilderK
import Derived.Lib.Hide
namespace Go.Proofs.Ytagnefbgclpccaa.H
open Go.RowKit Go.Shelf Go.Proofs.YtagnefbgclpccaaW.PrintWords
set_option linter.unusedVariables false

/-- The numbers of package strings' Builder here. -/
def bren : Go.Shelf.Ren := ⟨fun | 166 => 24 | 167 => 26 | 169 => 27 | 240 => 46 | 276 => 70 | n => n,
  fun | 0 => 0 | 3 => 3 | 4 => 4 | 5 => 5 | 9 => 9 | 20 => 20 | 37 => 37 | 70 => 45 | 72 => 47 | 75 => 49 | 80 => 55 | 127 => 74 | 164 => 87 | n => n, fun | n => n⟩
theorem lays240 : Go.Proofs.Lays.n240 Try.prog bren := {
  mixed := by kernel_rfl
  f240 := Try.func46.trans (congrArg some (by kernel_rfl))
  f276 := Try.func70.trans (congrArg some (by kernel_rfl))
  t0 := Try.underlying0
  a0 := Try.isAgg0
  z0 := Try.sizeOf0
  v0 := Try.zeroValue0
  t4 := Try.underlying4
  a4 := Try.isAgg4
  z4 := Try.sizeOf4
  v4 := Try.zeroValue4
  t9 := Try.underlying9
  a9 := Try.isAgg9
  z9 := Try.sizeOf9
  v9 := Try.zeroValue9
  t20 := Try.underlying20
  a20 := Try.isAgg20
  z20 := Try.sizeOf20
  v20 := Try.zeroValue20
  t70 := Try.underlying45
  a70 := Try.isAgg45
  z70 := Try.sizeOf45
  v70 := Try.zeroValue45
  t72 := Try.underlying47
  a72 := Try.isAgg47
  z72 := Try.sizeOf47
  v72 := Try.zeroValue47
  t164 := Try.underlying87
  a164 := Try.isAgg87
  z164 := Try.sizeOf87
  v164 := Try.zeroValue87 }
theorem lays166 : Go.Proofs.Lays.n166 Try.prog bren := {
  mixed := by kernel_rfl
  f166 := Try.func24.trans (congrArg some (by kernel_rfl))
  f240 := Try.func46.trans (congrArg some (by kernel_rfl))
  f276 := Try.func70.trans (congrArg some (by kernel_rfl))
  t0 := Try.underlying0
  a0 := Try.isAgg0
  z0 := Try.sizeOf0
  v0 := Try.zeroValue0
  t3 := Try.underlying3
  a3 := Try.isAgg3
  z3 := Try.sizeOf3
  v3 := Try.zeroValue3
  t4 := Try.underlying4
  a4 := Try.isAgg4
  z4 := Try.sizeOf4
  v4 := Try.zeroValue4
  t9 := Try.underlying9
  a9 := Try.isAgg9
  z9 := Try.sizeOf9
  v9 := Try.zeroValue9
  t20 := Try.underlying20
  a20 := Try.isAgg20
  z20 := Try.sizeOf20
  v20 := Try.zeroValue20
  t37 := Try.underlying37
  a37 := Try.isAgg37
  z37 := Try.sizeOf37
  v37 := Try.zeroValue37
  t70 := Try.underlying45
  a70 := Try.isAgg45
  z70 := Try.sizeOf45
  v70 := Try.zeroValue45
  t72 := Try.underlying47
  a72 := Try.isAgg47
  z72 := Try.sizeOf47
  v72 := Try.zeroValue47
  t75 := Try.underlying49
  a75 := Try.isAgg49
  z75 := Try.sizeOf49
  v75 := Try.zeroValue49
  t164 := Try.underlying87
  a164 := Try.isAgg87
  z164 := Try.sizeOf87
  v164 := Try.zeroValue87 }
theorem lays167 : Go.Proofs.Lays.n167 Try.prog bren := {
  mixed := by kernel_rfl
  f167 := Try.func26.trans (congrArg some (by kernel_rfl))
  f240 := Try.func46.trans (congrArg some (by kernel_rfl))
  f276 := Try.func70.trans (congrArg some (by kernel_rfl))
  t0 := Try.underlying0
  a0 := Try.isAgg0
  z0 := Try.sizeOf0
  v0 := Try.zeroValue0
  t4 := Try.underlying4
  a4 := Try.isAgg4
  z4 := Try.sizeOf4
  v4 := Try.zeroValue4
  t5 := Try.underlying5
  a5 := Try.isAgg5
  z5 := Try.sizeOf5
  v5 := Try.zeroValue5
  t9 := Try.underlying9
  a9 := Try.isAgg9
  z9 := Try.sizeOf9
  v9 := Try.zeroValue9
  t20 := Try.underlying20
  a20 := Try.isAgg20
  z20 := Try.sizeOf20
  v20 := Try.zeroValue20
  t37 := Try.underlying37
  a37 := Try.isAgg37
  z37 := Try.sizeOf37
  v37 := Try.zeroValue37
  t70 := Try.underlying45
  a70 := Try.isAgg45
  z70 := Try.sizeOf45
  v70 := Try.zeroValue45
  t72 := Try.underlying47
  a72 := Try.isAgg47
  z72 := Try.sizeOf47
  v72 := Try.zeroValue47
  t75 := Try.underlying49
  a75 := Try.isAgg49
  z75 := Try.sizeOf49
  v75 := Try.zeroValue49
  t164 := Try.underlying87
  a164 := Try.isAgg87
  z164 := Try.sizeOf87
  v164 := Try.zeroValue87 }
theorem lays169 : Go.Proofs.Lays.n169 Try.prog bren := {
  mixed := by kernel_rfl
  f169 := Try.func27.trans (congrArg some (by kernel_rfl))
  t0 := Try.underlying0
  a0 := Try.isAgg0
  z0 := Try.sizeOf0
  v0 := Try.zeroValue0
  t3 := Try.underlying3
  a3 := Try.isAgg3
  z3 := Try.sizeOf3
  v3 := Try.zeroValue3
  t9 := Try.underlying9
  a9 := Try.isAgg9
  z9 := Try.sizeOf9
  v9 := Try.zeroValue9
  t37 := Try.underlying37
  a37 := Try.isAgg37
  z37 := Try.sizeOf37
  v37 := Try.zeroValue37
  t70 := Try.underlying45
  a70 := Try.isAgg45
  z70 := Try.sizeOf45
  v70 := Try.zeroValue45
  t72 := Try.underlying47
  a72 := Try.isAgg47
  z72 := Try.sizeOf47
  v72 := Try.zeroValue47
  t127 := Try.underlying74
  a127 := Try.isAgg74
  z127 := Try.sizeOf74
  v127 := Try.zeroValue74 }
theorem bextra : Builder.Extra Try.prog bren := {
  sizeBuilder := by kernel_rfl
  liesBuilder := by kernel_rfl
  t5 := Try.underlying5
  a5 := Try.isAgg5
  z5 := Try.sizeOf5
  v5 := Try.zeroValue5
  infoByte := by kernel_rfl
  cellsByte := by kernel_rfl
  sizeByte := by kernel_rfl
  neB5 := by decide }

/-- A builder of the call's own (from block B on), at block b, that holds these bytes. -/
def Bld (B b : Nat) (l : List UInt8) (w : World) : Prop := Lib.IsBuilderF 47 5 B b (Lib.byteCells l) w
/-- What stays: all blocks but the builder's own and rows of bytes. -/
abbrev Oth (b : Nat) (w w' : World) : Prop := Lib.OthersKept 5 (some b) w w'

theorem bld_writeString (B b : Nat) (l : List UInt8) (s : ByteArray) (w : World) (h : Bld B b l w) (hlen : l.length + s.size ≤ 140737488355328) (hb : B ≤ w.heap.size) :
    Calls Try.prog 24 #[.pointer (some ⟨b, 0, none⟩), .string s] w fun e w' => e = .returned (.tuple #[.int .i64 s.size, .nilIface]) ∧ (Bld B b (l ++ s.data.toList) w' ∧ Below B w w' ∧ Oth b w w') := by
  refine (Any.Builder_WriteString_k lays166 bextra B b (Lib.byteCells l) s w h (by simpa [Lib.byteCells] using hlen) hb).mono ?_
  rintro e w' ⟨he, h1, h2⟩
  refine ⟨he, Or.inr ?_, h2⟩
  have e2 : Lib.byteCells (l ++ s.data.toList) = Lib.byteCells l ++ Lib.strCells s := by simp [Lib.byteCells, Lib.strCells]
  rw [e2]
  exact h1

theorem bld_writeByte (B b : Nat) (l : List UInt8) (c : UInt8) (w : World) (h : Bld B b l w) (hlen : l.length + 1 ≤ 140737488355328) (hb : B ≤ w.heap.size) :
    Calls Try.prog 26 #[.pointer (some ⟨b, 0, none⟩), .int .u8 c.toNat] w fun e w' => e = .returned .nilIface ∧ (Bld B b (l ++ [c]) w' ∧ Below B w w' ∧ Oth b w w') := by
  refine (Any.Builder_WriteByte_k lays167 bextra B b (Lib.byteCells l) c.toNat w h (by simpa [Lib.byteCells] using hlen) hb).mono ?_
  rintro e w' ⟨he, h1, h2⟩
  refine ⟨he, Or.inr ?_, h2⟩
  have e2 : Lib.byteCells (l ++ [c]) = Lib.byteCells l ++ [.int .u8 c.toNat] := by simp [Lib.byteCells]
  rw [e2]
  exact h1

theorem bld_string (B b : Nat) (l : List UInt8) (w : World) (h : Bld B b l w) (hb : B ≤ w.heap.size) :
    Calls Try.prog 27 #[.pointer (some ⟨b, 0, none⟩)] w fun e w' => e = .returned (.string ⟨l.toArray⟩) ∧ Below B w w' :=
  (Any.Builder_String_any_k lays169 bextra B b l w h hb).mono fun _ _ h => ⟨h.1, h.2.2.1⟩

theorem bld_check (B b : Nat) (l : List UInt8) (w : World) (h : Bld B b l w) :
    Calls Try.prog 46 #[.pointer (some ⟨b, 0, none⟩)] w fun e w' => e = .returned (.tuple #[]) ∧ (Lib.BuilderAtF 47 5 B b (.pointer (some ⟨b, 0, none⟩)) (Lib.byteCells l) w' ∧ (w' = w ∨ w' = w.setCell ⟨b, 0, none⟩ (.pointer (some ⟨b, 0, none⟩)))) := by
  rcases h with h | h
  · refine (Any.Builder_copyCheck_fresh lays240 bextra.toX72 b w h.cell0 h.shape h.frozen0).mono ?_
    rintro e w' ⟨rfl, rfl⟩
    exact ⟨rfl, h.used _, .inr rfl⟩
  · refine (Any.Builder_copyCheck_used lays240 bextra.toX72 b w h.cell0).mono ?_
    rintro e w' ⟨rfl, rfl⟩
    exact ⟨rfl, h, .inl rfl⟩

set_option maxRecDepth 100000 in
set_option maxHeartbeats 2000000 in
theorem bld_write (B b : Nat) (l : List UInt8) (xs : List UInt8) (ad : Addr) (m c : Nat) (w : World) (h : Bld B b l w) (hl : xs.length = m)
    (hx : ∀ j u, (Lib.byteCells xs)[j]? = some u → w.cell? (ad.add j) = some u) (had : ad.block ≠ b) (hlen : l.length + m ≤ 140737488355328) (hb : B ≤ w.heap.size) :
    Calls Try.prog 25 #[.pointer (some ⟨b, 0, none⟩), .slice (some ad) m c] w fun e w' => e = .returned (.tuple #[.int .i64 m, .nilIface]) ∧ (Bld B b (l ++ xs) w' ∧ Below B w w' ∧ Oth b w w') := by
  obtain ⟨i0, hi, hz0, hz1, hz2⟩ := info_parts bextra.infoByte
  have hBb : B ≤ b := by rcases h with h | h <;> exact h.1
  go_enter Try.func25, Try.ntmps25
  go_wp2_with (go_at_call 46; refine (bld_check _ _ _ _ h).mono ?_)
  rintro e w1 ⟨rfl, h1, hw⟩
  have hs1 : w.heap.size = w1.heap.size := by
    rcases hw with rfl | rfl
    · rfl
    · simp
  have hb1 : Below B w w1 := by
    rcases hw with rfl | rfl
    · exact Below.refl _ _
    · exact (Below.refl B w).setCell (p := ⟨b, 0, none⟩) hBb _
  have hk1 : Oth b w w1 := by
    rcases hw with rfl | rfl
    · exact Lib.OthersKept.refl _ _ _
    · exact (Lib.OthersKept.refl _ _ w).setCell ⟨b, 0, none⟩ rfl _
  have hx1 : ∀ j u, (Lib.byteCells xs)[j]? = some u → w1.cell? (ad.add j) = some u := by
    intro j u hj
    rcases hw with rfl | rfl
    · exact hx j u hj
    · have hne : (ad.add j).block ≠ b := by unfold Addr.add; split <;> exact had
      exact (cell_far (p := ⟨b, 0, none⟩) hne _).trans (hx j u hj)
  clear hw hx h
  obtain ⟨hB, v, hbk, hown, hne⟩ := h1
  have c0 : w1.cell? ⟨b, 0, none⟩ = some (.pointer (some ⟨b, 0, none⟩)) := by rw [Lib.cell_of_heap hbk]; rfl
  have c1 : w1.cell? ⟨b, 1, none⟩ = some v := by rw [Lib.cell_of_heap hbk]; rfl
  have hll : (Lib.byteCells l).length = l.length := by simp [Lib.byteCells]
  have hxl : (Lib.byteCells xs).length = m := by simp [Lib.byteCells, hl]
  have h1c : ∀ u ∈ Lib.byteCells xs, u.oneCell' = true := by
    intro u hu
    simp [Lib.byteCells] at hu
    obtain ⟨x, _, rfl⟩ := hu
    rfl
  rw [hll] at hown
  have HS := Lib.hid hs1
  have HX := Lib.hid hx1
  have HLL := Lib.hid hll
  have HXL := Lib.hid hxl
  have HK := Lib.hid hk1
  clear hs1 hx1 hll hxl hk1
  go_wp2_with (at_builtin; refine wpList_append_ownF _ rfl _ _ 37 rfl B 5 i0 (.int .u8 0) 1 1 Try.underlying37 hi hz0 hz1 hz2 rfl (by decide) _ _ _ rfl hown ad m c (Lib.byteCells xs) rfl (by have := HXL.out; omega) HX.out h1c ?c3 ?c4 ?c5 ?_)
  case c3 => unfold maxLen; omega
  case c4 => omega
  case c5 => have := HS.out; omega
  intro v' w2 hown' hgrow _
  have hlt : b < w1.heap.size := by
    rcases Nat.lt_or_ge b w1.heap.size with h' | h'
    · exact h'
    · simp [Array.getElem?_eq_none h'] at hbk
  have hb2 : w2.heap[b]? = some (.cells #[.pointer (some ⟨b, 0, none⟩), v] 47 (0, 0)) := by
    rw [hgrow.block b hlt (fun e => hne e.symm)]
    exact hbk
  have d0 : w2.cell? ⟨b, 0, none⟩ = some (.pointer (some ⟨b, 0, none⟩)) := by rw [Lib.cell_of_heap hb2]; rfl
  have d1 : w2.cell? ⟨b, 1, none⟩ = some v := by rw [Lib.cell_of_heap hb2]; rfl
  have f1 : w2.frozen? ⟨b, 1, none⟩ = false := Lib.frozen_of_heap hb2 1
  obtain ⟨ao, n', cap, rfl⟩ : ∃ ao n' cap, v' = .slice ao n' cap := by
    rcases hown'.2 with ⟨hv, _⟩ | ⟨g, cap, cur, fz, hv, _⟩
    · exact ⟨_, _, _, hv⟩
    · exact ⟨_, _, _, hv⟩
  go_wp2
  go_ret2
  have e2 : Lib.byteCells (l ++ xs) = Lib.byteCells l ++ Lib.byteCells xs := by simp [Lib.byteCells]
  refine ⟨rfl, ?_, ?_, (HK.out.grown hgrow (Lib.ownsRowF_kind hown)).setCell ⟨b, 1, none⟩ rfl _⟩
  · refine Or.inr ?_
    rw [e2]
    exact Lib.BuilderAtF.put (T := 47) (e := 5) hB hb2 (bs' := Lib.byteCells l ++ Lib.byteCells xs) (by simpa [HLL.out, HXL.out] using hown') (by decide)
  · exact (hb1.grown hgrow (by have := hb1.size; omega) (fun k hk => (hown.lt k hk).1)).setCell (p := ⟨b, 1, none⟩) hB _

/-- A builder that nothing has touched. -/
theorem Bld.new (B : Nat) (w : World) (hB : B ≤ w.heap.size) : Bld B w.heap.size [] (w.alloc (.cells #[.pointer none, .slice none 0 0] 47)) := by
  refine Or.inl ⟨hB, .slice none 0 0, ?_, World.ownsRowF_nil _ _ _ _, by simp [Value.ownBlock]⟩
  show (w.heap.push _)[w.heap.size]? = _
  rw [Array.getElem?_push, if_pos rfl]
/-- A builder stays where all that was there stays. -/
theorem Bld.stays {B b : Nat} {l : List UInt8} {w w' : World} (h : Bld B b l w) (hs : ∀ k, k < w.heap.size → w'.heap[k]? = w.heap[k]?) : Bld B b l w' := by
  have key : ∀ p, Lib.BuilderAtF 47 5 B b p (Lib.byteCells l) w → Lib.BuilderAtF 47 5 B b p (Lib.byteCells l) w' := by
    rintro p ⟨hB, v, hb, hown, hne⟩
    have hlt : b < w.heap.size := (Array.getElem?_eq_some_iff.1 hb).1
    refine ⟨hB, v, by rw [hs b hlt]; exact hb, ?_, hne⟩
    obtain ⟨h1, h2⟩ := hown
    refine ⟨h1, ?_⟩
    rcases h2 with h2 | ⟨g, cap, cur, fz, hv, hg, hh, hr⟩
    · exact .inl h2
    · have hlt2 : g < w.heap.size := (Array.getElem?_eq_some_iff.1 hh).1
      exact .inr ⟨g, cap, cur, fz, hv, hg, by rw [hs g hlt2]; exact hh, hr⟩
  rcases h with h | h
  · exact .inl (key _ h)
  · exact .inr (key _ h)

end Go.Proofs.Ytagnefbgclpccaa.H
