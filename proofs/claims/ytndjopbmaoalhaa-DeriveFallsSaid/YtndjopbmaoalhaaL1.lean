import Derived.Test.YtndjopbmaoalhaaD2
import Derived.Test.YtndjopbmaoalhaaG0
set_option linter.unusedVariables false
set_option linter.unusedSimpArgs false
namespace Go.Proofs.Ytndjopbmaoalhaa
open Go.RowKit Go.Shelf
attribute [local go_sem ↓] run_eql_cap

theorem blk_cell' {W : World} {b : Nat} {c : Array Value} {t : TypeId} {fr : Nat × Nat} (h : W.heap[b]? = some (.cells c t fr)) : ∀ o i, (W.alloc o).cell? ⟨b, i, none⟩ = c[i]? := fun o => blk_cell (blk_alloc h o)

theorem num_any (n : Int) (w : World) : Calls Try.prog 13 #[.int .i64 n] w fun e w' => e = .returned (.int .i64 n) ∧ w = w' := by
  go_enter Try.func13, Try.ntmps13
  go_wp2
  go_ret
  exact ⟨rfl, rfl⟩

set_option maxRecDepth 100000 in
set_option maxHeartbeats 1000000 in
theorem awake14_any (w : World) : Calls Try.prog 14 #[] w fun e w' => e = .returned (.bool true) ∧ Below w.heap.size w w' := by
  have h1 := fun w => copy_any ⟨3, 2, 3, 0, 0, 0, 3, 5⟩ 1 ⟨by decide, by decide⟩ w
  have h2 := fun w => copy_any ⟨1, 1, 0, 0, 0, 0, 0, 0⟩ 7 ⟨by decide, by decide⟩ w
  rw [show copyC ⟨3, 2, 3, 0, 0, 0, 3, 5⟩ 1 = ⟨3, 2, 1, 0, 0, 0, 0, 0⟩ by decide, show copyE ⟨3, 2, 3, 0, 0, 0, 3, 5⟩ 1 = 0 by decide] at h1
  rw [show copyC ⟨1, 1, 0, 0, 0, 0, 0, 0⟩ 7 = Cap.no by decide, show copyE ⟨1, 1, 0, 0, 0, 0, 0, 0⟩ 7 = 8 by decide] at h2
  have H1 := Lib.hid h1
  have H2 := Lib.hid h2
  clear h1 h2
  go_enter Try.func14, Try.ntmps14
  go_wp2_with fail
  refine (H1.out _).mono ?_
  rintro e W1 ⟨rfl, hb⟩
  go_wp2_with fail
  refine (H2.out _).mono ?_
  rintro e W2 ⟨rfl, hb2⟩
  have c1 := blk_below (blk_new W1 (.cells #[.int .i64 3, .int .i64 2, .int .i64 1, .int .u64 0, .int .i64 0, .int .i64 0, .int .i64 0, .int .i64 0] 24)) hb2 (by simp)
  have e1 := blk_cell' c1
  have hB := hb.trans ((((Below.refl _ W1).alloc (Nat.le_refl _) _).trans (hb2.mono (by simp))).mono hb.size)
  clear hb hb2 c1
  have HB := Lib.hid hB
  clear hB
  simp only [Cap.no]
  go_wp2
  go_ret
  exact ⟨rfl, HB.out.trans (((Below.refl _ W2).alloc (Nat.le_refl _) _).mono HB.out.size)⟩

set_option maxRecDepth 100000 in
set_option maxHeartbeats 1000000 in
theorem copies_walk (c : Cap) (m : Int) (hc : c.Fit) (w : World) : Calls Try.prog 3 #[c.v, .int .i64 m] w fun e w' => e = .returned (.bool true) ∧ Below w.heap.size w w' := by
  have h1 := fun w => copy_any c m hc w
  have h2 := fun w => rcopy_any c m w
  obtain ⟨k, o, r, d, g, b, s, p⟩ := c
  clear hc
  generalize copyE _ m = E at *
  generalize copyC _ m = C at *
  obtain ⟨k', o', r', d', g', b', s', p'⟩ := C
  have H1 := Lib.hid h1
  have H2 := Lib.hid h2
  clear h1 h2
  have he : eq8 k' o' r' d' g' b' s' p' k' o' r' d' g' b' s' p' = true := by simp [eq8]
  go_enter Try.func3, Try.ntmps3
  go_wp2_with fail
  refine (H1.out _).mono ?_
  rintro e W1 ⟨rfl, hb⟩
  have c1 := blk_below (blk_new w (.cells #[.int .i64 k, .int .i64 o, .int .i64 r, .int .u64 d, .int .i64 g, .int .i64 b, .int .i64 s, .int .i64 p] 24)) hb (by simp)
  have e1 := blk_cell' c1
  go_wp2_with fail
  clear e1
  refine (H2.out _).mono ?_
  rintro e W2 ⟨rfl, hb2⟩
  have c2 := blk_below (blk_new W1 (.cells #[.int .i64 k', .int .i64 o', .int .i64 r', .int .u64 d', .int .i64 g', .int .i64 b', .int .i64 s', .int .i64 p'] 24)) hb2 (by simp)
  have e2 := blk_cell' c2
  have hB : Below w.heap.size w W2 := (((Below.refl _ w).alloc (Nat.le_refl _) _).trans (hb.mono (by simp))).trans ((((Below.refl _ W1).alloc (Nat.le_refl _) _).trans (hb2.mono (by simp))).mono (by have := hb.size; simp at this; omega))
  clear hb hb2 c1 c2
  have HB := Lib.hid hB
  clear hB
  go_wp2_with (first | (go_at_call 13; refine (num_any _ _).mono ?_; rintro e w' ⟨rfl, rfl⟩) | (go_at_call 14; refine (awake14_any _).mono ?_; rintro e W3 ⟨rfl, hb3⟩))
  go_ret
  exact ⟨rfl, (HB.out.trans (((Below.refl _ W2).alloc (Nat.le_refl _) _).mono HB.out.size)).trans (hb3.mono (by have := HB.out.size; simp; omega))⟩

/-- out of the cells that came in -/
theorem cap_of_cells {cs : List Value} (h : AllIs [some .i64, some .i64, some .i64, some .u64, some .i64, some .i64, some .i64, some .i64] cs) : ∃ c : Cap, c.Fit ∧ Value.agg cs.toArray = c.v := by
  obtain ⟨_, _, rfl, ⟨k, rfl, _⟩, _, _, rfl, ⟨o, rfl, _⟩, _, _, rfl, ⟨r, rfl, _⟩, _, _, rfl, ⟨d, rfl, wd⟩, _, _, rfl, ⟨g, rfl, wg⟩, _, _, rfl, ⟨b, rfl, _⟩, _, _, rfl, ⟨s, rfl, _⟩, _, _, rfl, ⟨p, rfl, _⟩, rfl⟩ := h
  refine ⟨⟨k, o, r, d, g, b, s, p⟩, ⟨?_, ?_⟩, rfl⟩
  · have : -9223372036854775808 ≤ g ∧ g ≤ 9223372036854775807 := by simpa [Lit.wf, IntKind.min, IntKind.max, IntKind.signed, IntKind.bits] using wg
    exact this.2
  · have : 0 ≤ d ∧ d ≤ 18446744073709551615 := by simpa [Lit.wf, IntKind.min, IntKind.max, IntKind.signed, IntKind.bits] using wd
    exact ⟨this.1, by show d < 18446744073709551616; omega⟩
theorem copies_walk' (cs : List Value) (h : AllIs [some .i64, some .i64, some .i64, some .u64, some .i64, some .i64, some .i64, some .i64] cs) (m : Int) (wm : (Lit.int .i64 m).wf = true) (w : World) :
    Calls Try.prog 3 #[.agg cs.toArray, .int .i64 m] w fun e w' => e = .returned (.bool true) ∧ Below w.heap.size w w' := by
  obtain ⟨c, hc, e⟩ := cap_of_cells h
  rw [e]
  exact copies_walk c m hc w
end Go.Proofs.Ytndjopbmaoalhaa
