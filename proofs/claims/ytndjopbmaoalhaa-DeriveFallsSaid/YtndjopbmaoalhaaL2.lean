import Derived.Test.YtndjopbmaoalhaaL1
import Derived.Test.YtndjopbmaoalhaaD3
import Derived.Test.YtndjopbmaoalhaaD4
set_option linter.unusedVariables false
set_option linter.unusedSimpArgs false
namespace Go.Proofs.Ytndjopbmaoalhaa
open Go.RowKit Go.Shelf
attribute [local go_sem ↓] run_eql_cap

theorem and7_in (a : Int) : inB 0 (bits BinOp.and IntKind.i64 a 7) 7 = true := by
  show inB 0 (IntKind.i64.wrap ((BitVec.ofInt 64 a &&& BitVec.ofInt 64 7).toNat : Int)) 7 = true
  have h : (BitVec.ofInt 64 a &&& BitVec.ofInt 64 7).toNat ≤ 7 := by rw [BitVec.toNat_and]; exact Nat.le_trans Nat.and_le_right (by decide)
  generalize (BitVec.ofInt 64 a &&& BitVec.ofInt 64 7).toNat = n at *
  rw [IntKind.wrap_i64]
  simp [inB]; omega
theorem and_mask (a b : Int) (ha : inB 0 a 7 = true) (hb : inB 0 b 7 = true) : bits BinOp.and IntKind.i64 a b = maskI a b := by
  have h1 : 0 ≤ a ∧ a ≤ 7 := by simpa [inB] using ha
  have h2 : 0 ≤ b ∧ b ≤ 7 := by simpa [inB] using hb
  have := and_small ⟨a.toNat, by omega⟩ ⟨b.toNat, by omega⟩
  simp only [] at this
  rw [Int.toNat_of_nonneg h1.1, Int.toNat_of_nonneg h2.1] at this
  rw [this]; simp [maskI, ha, hb]

theorem below_call {w W W1 : World} (h : Below w.heap.size w W) (o : Obj) (hb : Below (W.alloc o).heap.size (W.alloc o) W1) : Below w.heap.size w W1 :=
  (h.trans (((Below.refl _ W).alloc (Nat.le_refl _) o).mono h.size)).trans (hb.mono (by have := h.size; simp; omega))
theorem below_call0 {w W W1 : World} (h : Below w.heap.size w W) (hb : Below W.heap.size W W1) : Below w.heap.size w W1 := h.trans (hb.mono h.size)
theorem below_alloc {w W : World} (h : Below w.heap.size w W) (o : Obj) : Below w.heap.size w (W.alloc o) := h.trans (((Below.refl _ W).alloc (Nat.le_refl _) o).mono h.size)

set_option maxRecDepth 100000 in
set_option maxHeartbeats 1000000 in
theorem twice_walk (c : Cap) (a b : Int) (hc : c.Fit) (w : World) : Calls Try.prog 4 #[c.v, .int .i64 a, .int .i64 b] w fun e w' => e = .returned (.bool true) ∧ Below w.heap.size w w' := by
  have ha := and7_in a
  have hb := and7_in b
  generalize hA : bits BinOp.and IntKind.i64 a 7 = A at *
  generalize hB : bits BinOp.and IntKind.i64 b 7 = B at *
  have hab := and_mask A B ha hb
  have h1 := fun w => copy_any c A hc w
  have h2 := fun w => copy_any (copyC c A) B (copy_fit c A hc) w
  have h3 := fun w => copy_any c (maskI A B) hc w
  have hno := copy_twice_no c A B ha hb
  have hyes := copy_twice c A B ha hb
  generalize maskI A B = M at *
  generalize copyE c A = E1 at *
  generalize copyE (copyC c A) B = E2 at *
  generalize copyE c M = E3 at *
  generalize copyC (copyC c A) B = C2 at *
  generalize copyC c A = C1 at *
  generalize copyC c M = C3 at *
  obtain ⟨k, o, r, d, g, b', s, p⟩ := c
  obtain ⟨k1, o1, r1, d1, g1, b1, s1, p1⟩ := C1
  obtain ⟨k2, o2, r2, d2, g2, b2, s2, p2⟩ := C2
  obtain ⟨k3, o3, r3, d3, g3, b3, s3, p3⟩ := C3
  have H1 := Lib.hid h1
  have H2 := Lib.hid h2
  have H3 := Lib.hid h3
  have HNO := Lib.hid hno
  have HYES := Lib.hid hyes
  clear h1 h2 h3 hno hyes ha hb hc
  go_enter Try.func4, Try.ntmps4
  go_wp2_with fail
  refine (H1.out _).mono ?_
  rintro e W1 ⟨rfl, hb1⟩
  have x1 := blk_below (blk_new w _) hb1 (by simp)
  have B1 := Lib.hid (below_call (Below.refl _ w) _ hb1)
  clear hb1
  have X1 := Lib.hid x1
  clear x1
  go_wp2_with fail
  refine (H2.out _).mono ?_
  rintro e W2 ⟨rfl, hb2⟩
  have x2 := blk_below (blk_alloc X1.out _) hb2 (by simp; exact Nat.lt_succ_of_lt (Array.getElem?_eq_some_iff.1 X1.out).1)
  have y2 := blk_below (blk_new W1 _) hb2 (by simp)
  have B2 := Lib.hid (below_call B1.out _ hb2)
  have e2 := blk_cell' x2
  clear hb2 X1 B1
  have X2 := Lib.hid x2
  have Y2 := Lib.hid y2
  clear x2 y2
  go_wp2_with fail
  refine (H3.out _).mono ?_
  rintro e W3 ⟨rfl, hb3⟩
  have y3 := blk_below (blk_alloc Y2.out _) hb3 (by simp; exact Nat.lt_succ_of_lt (Array.getElem?_eq_some_iff.1 Y2.out).1)
  have z3 := blk_below (blk_new W2 _) hb3 (by simp)
  have B3 := Lib.hid (below_call B2.out _ hb3)
  have e3 := blk_cell' z3
  clear hb3 X2 Y2 B2 e2 y3 z3
  by_cases hE : E1 = 0
  · subst hE
    obtain ⟨q1, q2⟩ := HYES.out rfl
    simp only [Cap.mk.injEq] at q2
    obtain ⟨rfl, rfl, rfl, rfl, rfl, rfl, rfl, rfl⟩ := q2
    subst q1
    have he : eq8 k2 o2 r2 d2 g2 b2 s2 p2 k2 o2 r2 d2 g2 b2 s2 p2 = true := by simp [eq8]
    go_wp2_with (go_at_call 14; refine (awake14_any _).mono ?_; rintro e W4 ⟨rfl, hb4⟩)
    go_ret
    exact ⟨rfl, below_call B3.out _ hb4⟩
  · have t1 : (E1 == 0) = false := by simpa using hE
    have hE3 := HNO.out hE
    have t3 : (E3 == 0) = false := by simpa using hE3
    have t4 : (E3 != 0) = true := by simpa using hE3
    clear hE hE3
    go_wp2_with (go_at_call 14; refine (awake14_any _).mono ?_; rintro e W4 ⟨rfl, hb4⟩)
    go_ret
    exact ⟨rfl, below_call B3.out _ hb4⟩

theorem twice_walk' (cs : List Value) (h : AllIs [some .i64, some .i64, some .i64, some .u64, some .i64, some .i64, some .i64, some .i64] cs) (a : Int) (wa : (Lit.int .i64 a).wf = true) (b : Int) (wb : (Lit.int .i64 b).wf = true) (w : World) :
    Calls Try.prog 4 #[.agg cs.toArray, .int .i64 a, .int .i64 b] w fun e w' => e = .returned (.bool true) ∧ Below w.heap.size w w' := by
  obtain ⟨c, hc, e⟩ := cap_of_cells h
  rw [e]
  exact twice_walk c a b hc w
end Go.Proofs.Ytndjopbmaoalhaa
