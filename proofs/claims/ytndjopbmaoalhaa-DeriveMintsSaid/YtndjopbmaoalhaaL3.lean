import Derived.Test.YtndjopbmaoalhaaL2
import Derived.Test.YtndjopbmaoalhaaD5
import Derived.Test.YtndjopbmaoalhaaD6
set_option linter.unusedVariables false
set_option linter.unusedSimpArgs false
namespace Go.Proofs.Ytndjopbmaoalhaa
open Go.RowKit Go.Shelf
attribute [local go_sem ↓] run_eql_cap

set_option maxRecDepth 100000 in
set_option maxHeartbeats 1000000 in
theorem mints_walk (c : Cap) (m : Int) (x : Nat) (hc : c.Fit) (hx : x < 18446744073709551616) (w : World) : Calls Try.prog 9 #[c.v, .int .i64 m, .int .u64 x] w fun e w' => e = .returned (.bool true) ∧ Below w.heap.size w w' := by
  have h1 := fun w => mint_any c m x hc hx w
  have h2 := fun w => rmint_any c m x hc hx w
  generalize mE _ _ _ = E at *
  generalize mC _ _ _ = C at *
  obtain ⟨k, o, r, d, g, b, s, p⟩ := c
  obtain ⟨k1, o1, r1, d1, g1, b1, s1, p1⟩ := C
  have H1 := Lib.hid h1
  have H2 := Lib.hid h2
  clear h1 h2 hc hx
  have he : eq8 k1 o1 r1 d1 g1 b1 s1 p1 k1 o1 r1 d1 g1 b1 s1 p1 = true := by simp [eq8]
  go_enter Try.func9, Try.ntmps9
  go_wp2_with fail
  refine (H1.out _).mono ?_
  rintro e W1 ⟨rfl, hb1⟩
  have x1 := blk_below (blk_new w _) hb1 (by simp)
  have B1 := Lib.hid (below_call (Below.refl _ w) _ hb1)
  have e1 := blk_cell' x1
  clear hb1 x1
  go_wp2_with fail
  refine (H2.out _).mono ?_
  rintro e W2 ⟨rfl, hb2⟩
  have y2 := blk_below (blk_new W1 _) hb2 (by simp)
  have B2 := Lib.hid (below_call B1.out _ hb2)
  have e2 := blk_cell' y2
  clear hb2 B1 e1 y2
  go_wp2_with (first | (go_at_call 13; refine (num_any _ _).mono ?_; rintro e w' ⟨rfl, rfl⟩) | (go_at_call 14; refine (awake14_any _).mono ?_; rintro e W3 ⟨rfl, hb3⟩))
  go_ret
  exact ⟨rfl, below_call B2.out _ hb3⟩

theorem mints_walk' (cs : List Value) (h : AllIs [some .i64, some .i64, some .i64, some .u64, some .i64, some .i64, some .i64, some .i64] cs) (a : Int) (wa : (Lit.int .i64 a).wf = true) (x : Int) (wx : (Lit.int .u64 x).wf = true) (w : World) :
    Calls Try.prog 9 #[.agg cs.toArray, .int .i64 a, .int .u64 x] w fun e w' => e = .returned (.bool true) ∧ Below w.heap.size w w' := by
  obtain ⟨c, hc, e⟩ := cap_of_cells h
  rw [e]
  have : 0 ≤ x ∧ x ≤ 18446744073709551615 := by simpa [Lit.wf, IntKind.min, IntKind.max, IntKind.signed, IntKind.bits] using wx
  obtain ⟨n, rfl⟩ := Int.eq_ofNat_of_zero_le this.1
  exact mints_walk c a n hc (by omega) w
end Go.Proofs.Ytndjopbmaoalhaa
