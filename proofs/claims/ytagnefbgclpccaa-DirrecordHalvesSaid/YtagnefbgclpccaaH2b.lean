import Derived.Test.YtagnefbgclpccaaH2a
import Derived.Test.YtagnefbgclpccaaH1e
import Derived.Deep.RegionHeld3
import Derived.WalkSmall
namespace Go.Proofs.Ytagnefbgclpccaa.H
open Go.RowKit Go.Proofs.YtagnefbgclpccaaW.PrintWords
set_option linter.unusedVariables false

/-- What dirrecord.Encode holds: the record at block R, the error at block W, the builder at block b; all of the call's own, made from world w0 on. -/
structure Enc (R W b : Nat) (cs : Array Value) (w0 w : World) (e : Int) (l : List UInt8) : Prop where
  rc : w.heap[R]? = some (.cells cs 23 (0, 0))
  wr : w.heap[W]? = some (.cells #[.int .i64 e] 25 (0, 0))
  bl : Bld w0.heap.size b l w
  be : Below w0.heap.size w0 w
  nR : R ≠ b
  nW : W ≠ b
  nRW : R ≠ W
  gW : w0.heap.size ≤ W

theorem Enc.stays {R W b : Nat} {cs : Array Value} {w0 w w' : World} {e : Int} {l : List UInt8} (h : Enc R W b cs w0 w e l) (hb : Below w.heap.size w w') : Enc R W b cs w0 w' e l where
  rc := by rw [hb.block R (Array.getElem?_eq_some_iff.1 h.rc).1]; exact h.rc
  wr := by rw [hb.block W (Array.getElem?_eq_some_iff.1 h.wr).1]; exact h.wr
  bl := h.bl.stays fun k hk => hb.block k hk
  be := h.be.trans (hb.mono h.be.size)
  nR := h.nR
  nW := h.nW
  nRW := h.nRW
  gW := h.gW
theorem Enc.alloc {R W b : Nat} {cs : Array Value} {w0 w : World} {e : Int} {l : List UInt8} (h : Enc R W b cs w0 w e l) (o : Obj) : Enc R W b cs w0 (w.alloc o) e l :=
  h.stays ((Below.refl _ _).alloc (Nat.le_refl _) _)
theorem Enc.drew {R W b : Nat} {cs : Array Value} {w0 w : World} {e : Int} {l : List UInt8} (h : Enc R W b cs w0 w e l) : Enc R W b cs w0 w.drew e l :=
  h.stays (Below.refl _ _).drew
theorem Enc.wrote {R W b : Nat} {cs : Array Value} {w0 w w' : World} {e : Int} {l l' : List UInt8} (h : Enc R W b cs w0 w e l) (hb : Bld w0.heap.size b l' w') (hk : Oth b w w') (hw : Below w0.heap.size w w') : Enc R W b cs w0 w' e l' where
  rc := hk R _ h.rc (by simp [h.nR]) (by intro c fz; simp)
  wr := hk W _ h.wr (by simp [h.nW]) (by intro c fz; simp)
  bl := hb
  be := h.be.trans hw
  nR := h.nR
  nW := h.nW
  nRW := h.nRW
  gW := h.gW
theorem blk_other {w : World} {k g : Nat} {o : Obj} (h : w.heap[k]? = some o) (hne : k ≠ g) (i : Nat) (v : Value) : (w.setCell ⟨g, i, none⟩ v).heap[k]? = some o := by
  rw [Below.heap_setCell _ _ _ _ hne]; exact h
theorem Enc.set {R W b : Nat} {cs : Array Value} {w0 w : World} {e : Int} {l : List UInt8} (h : Enc R W b cs w0 w e l) (e' : Int) : Enc R W b cs w0 (w.setCell ⟨W, 0, none⟩ (.int .i64 e')) e' l where
  rc := blk_other h.rc h.nRW _ _
  wr := blk_put h.wr 0 _ rfl
  bl := by
    have key : ∀ p, Lib.BuilderAtF 47 5 w0.heap.size b p (Lib.byteCells l) w → Lib.BuilderAtF 47 5 w0.heap.size b p (Lib.byteCells l) (w.setCell ⟨W, 0, none⟩ (.int .i64 e')) := by
      rintro p ⟨hB, v, hb, hown, hne⟩
      refine ⟨hB, v, blk_other hb h.nW.symm _ _, ?_, hne⟩
      obtain ⟨h1, h2⟩ := hown
      refine ⟨h1, ?_⟩
      rcases h2 with h2 | ⟨g, cap, cur, fz, hv, hg, hh, hr⟩
      · exact .inl h2
      · refine .inr ⟨g, cap, cur, fz, hv, hg, blk_other hh ?_ _ _, hr⟩
        rintro rfl
        rw [h.wr] at hh
        simp at hh
    rcases h.bl with h1 | h1
    · exact .inl (key _ h1)
    · exact .inr (key _ h1)
  be := h.be.setCell (p := ⟨W, 0, none⟩) h.gW _
  nR := h.nR
  nW := h.nW
  nRW := h.nRW
  gW := h.gW
theorem Enc.cellR {R W b : Nat} {cs : Array Value} {w0 w : World} {e : Int} {l : List UInt8} (h : Enc R W b cs w0 w e l) (i : Nat) : w.cell? ⟨R, i, none⟩ = cs[i]? := by
  simp [World.cell?, h.rc]
theorem Enc.cellW {R W b : Nat} {cs : Array Value} {w0 w : World} {e : Int} {l : List UInt8} (h : Enc R W b cs w0 w e l) : w.cell? ⟨W, 0, none⟩ = some (.int .i64 e) := by
  simp [World.cell?, h.wr]
theorem Enc.frozenW {R W b : Nat} {cs : Array Value} {w0 w : World} {e : Int} {l : List UInt8} (h : Enc R W b cs w0 w e l) : w.frozen? ⟨W, 0, none⟩ = false := by
  simp [World.frozen?, h.wr]
theorem Enc.base {R W b : Nat} {cs : Array Value} {w0 w : World} {e : Int} {l : List UInt8} (h : Enc R W b cs w0 w e l) : w0.heap.size ≤ w.heap.size := h.be.size

/-- An error that is nought leaves the elder one. -/
def ee (e e1 : Int) : Int := if e1 = 0 then e else e1

theorem enc_ws {R W b : Nat} {cs : Array Value} {w0 w : World} {e : Int} {l : List UInt8} (h : Enc R W b cs w0 w e l) (s : ByteArray) (hlen : l.length + s.size ≤ 140737488355328) :
    Calls Try.prog 24 #[.pointer (some ⟨b, 0, none⟩), .string s] w fun ev w' => ev = .returned (.tuple #[.int .i64 s.size, .nilIface]) ∧ Enc R W b cs w0 w' e (l ++ s.data.toList) ∧ Oth b w w' :=
  (bld_writeString _ _ _ _ _ h.bl hlen h.base).mono fun _ _ ⟨he, hb, hw, hk⟩ => ⟨he, h.wrote hb hk hw, hk⟩
theorem enc_wb {R W b : Nat} {cs : Array Value} {w0 w : World} {e : Int} {l : List UInt8} (h : Enc R W b cs w0 w e l) (c : UInt8) (v : Int) (hv : (c.toNat : Int) = v) (hlen : l.length + 1 ≤ 140737488355328) :
    Calls Try.prog 26 #[.pointer (some ⟨b, 0, none⟩), .int .u8 v] w fun ev w' => ev = .returned .nilIface ∧ Enc R W b cs w0 w' e (l ++ [c]) := by
  subst hv
  exact (bld_writeByte _ _ _ _ _ h.bl hlen h.base).mono fun _ _ ⟨he, hb, hw, hk⟩ => ⟨he, h.wrote hb hk hw⟩
theorem enc_w {R W b : Nat} {cs : Array Value} {w0 w : World} {e : Int} {l : List UInt8} (h : Enc R W b cs w0 w e l) (xs : List UInt8) (m : Nat) (hm : xs.length = m) (g c : Nat) (vs : Array Value) (hx : w.heap[g]? = some (.cells vs 5 (0, 0))) (hv : Lib.byteCells xs = vs.toList) (hg : g ≠ b) (hlen : l.length + m ≤ 140737488355328) :
    Calls Try.prog 25 #[.pointer (some ⟨b, 0, none⟩), .slice (some ⟨g, 0, none⟩) m c] w fun ev w' => ev = .returned (.tuple #[.int .i64 m, .nilIface]) ∧ Enc R W b cs w0 w' e (l ++ xs) := by
  subst hm
  refine (bld_write _ _ _ xs ⟨g, 0, none⟩ _ _ _ h.bl rfl ?_ hg hlen h.base).mono fun _ _ ⟨he, hb, hw, hk⟩ => ⟨he, h.wrote hb hk hw⟩
  intro j u hj
  have : (⟨g, 0, none⟩ : Addr).add j = ⟨g, j, none⟩ := by unfold Addr.add; split <;> simp_all
  rw [this]
  rw [hv] at hj
  simp [World.cell?, hx]
  simpa using hj

theorem Enc.start (cs : Array Value) (e : Int) (w w1 : World) (nd : Nat) (hb : Below (w.heap.size + 1) ((w.alloc (.cells cs 23)).drewN nd) w1) :
    Enc w.heap.size w1.heap.size (w1.heap.size + 1) cs w ((w1.alloc (.cells #[.int .i64 e] 25)).alloc (.cells #[.pointer none, .slice none 0 0] 47)) e [] := by
  have hs : w.heap.size + 1 ≤ w1.heap.size := by
    have := hb.size
    simpa [World.drewN] using this
  have hR : w1.heap[w.heap.size]? = some (.cells cs 23 (0, 0)) := by
    rw [hb.block _ (Nat.lt_succ_self _)]
    show (w.heap.push _)[w.heap.size]? = _
    rw [Array.getElem?_push, if_pos rfl]
  have hbe : Below w.heap.size w w1 := by
    refine Below.trans ((below_drewN ((Below.refl _ w).alloc (Nat.le_refl _) (.cells cs 23)) nd)) (hb.mono (by omega))
  refine ⟨?_, ?_, ?_, (hbe.alloc (by omega) _).alloc (by simp; omega) _, by omega, by omega, by omega, by omega⟩
  · show ((w1.heap.push _).push _)[w.heap.size]? = _
    rw [Array.getElem?_push, if_neg (by simp; omega), Array.getElem?_push, if_neg (by omega)]
    exact hR
  · show ((w1.heap.push _).push _)[w1.heap.size]? = _
    rw [Array.getElem?_push, if_neg (by simp), Array.getElem?_push, if_pos rfl]
  · have := Bld.new w.heap.size (w1.alloc (.cells #[.int .i64 e] 25)) (by simp; omega)
    simpa using this

/-- A block that was just made. -/
theorem blk_new (w : World) (c : Array Value) (t : TypeId) : (w.alloc (.cells c t)).heap[w.heap.size]? = some (.cells c t (0, 0)) := by
  show (w.heap.push _)[w.heap.size]? = _
  rw [Array.getElem?_push, if_pos rfl]
theorem enc_wn {R W b : Nat} {cs : Array Value} {w0 w : World} {e : Int} {l : List UInt8} (h : Enc R W b cs w0 w e l) (xs : List UInt8) (m : Nat) (hm : xs.length = m) (g c : Nat) (hg : g = w.heap.size) (vs : Array Value) (hv : Lib.byteCells xs = vs.toList) (hb : b < g) (hlen : l.length + m ≤ 140737488355328) :
    Calls Try.prog 25 #[.pointer (some ⟨b, 0, none⟩), .slice (some ⟨g, 0, none⟩) m c] (w.alloc (.cells vs 5)) fun ev w' => ev = .returned (.tuple #[.int .i64 m, .nilIface]) ∧ Enc R W b cs w0 w' e (l ++ xs) := by
  subst hg
  exact enc_w (h.alloc _) xs m hm _ c vs (blk_new _ _ _) hv (by omega) hlen
theorem Enc.ltb {R W b : Nat} {cs : Array Value} {w0 w : World} {e : Int} {l : List UInt8} (h : Enc R W b cs w0 w e l) : b < w.heap.size := by
  rcases h.bl with h | h <;> exact h.lt
theorem Enc.ltW {R W b : Nat} {cs : Array Value} {w0 w : World} {e : Int} {l : List UInt8} (h : Enc R W b cs w0 w e l) : W < w.heap.size := (Array.getElem?_eq_some_iff.1 h.wr).1
theorem enc_str {R W b : Nat} {cs : Array Value} {w0 w : World} {e : Int} {l : List UInt8} (h : Enc R W b cs w0 w e l) :
    Calls Try.prog 27 #[.pointer (some ⟨b, 0, none⟩)] w fun ev w' => ev = .returned (.string ⟨l.toArray⟩) ∧ Below w0.heap.size w0 w' :=
  (bld_string _ _ _ _ h.bl h.base).mono fun _ _ ⟨he, hw⟩ => ⟨he, h.be.trans hw⟩

end Go.Proofs.Ytagnefbgclpccaa.H
