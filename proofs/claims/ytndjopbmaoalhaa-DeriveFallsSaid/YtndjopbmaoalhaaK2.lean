import Derived.Test.YtndjopbmaoalhaaD7
import Derived.Test.YtndjopbmaoalhaaK1
set_option linter.unusedVariables false
set_option linter.unusedSimpArgs false
namespace Go.Proofs.Ytndjopbmaoalhaa
open Go.RowKit Go.Shelf

theorem has_any (r n : Int) (w : World) : Calls Try.prog 30 #[.int .i64 r, .int .i64 n] w fun e w' => e = .returned (.bool (hasB r n)) ∧ w' = w := by
  have hm : inB 0 r 7 = true → inB 0 n 7 = true → bits BinOp.and IntKind.i64 r n = maskI r n := fun ha hb => by
    have h1 : 0 ≤ r ∧ r ≤ 7 := by simpa [inB] using ha
    have h2 : 0 ≤ n ∧ n ≤ 7 := by simpa [inB] using hb
    have := and_small ⟨r.toNat, by omega⟩ ⟨n.toNat, by omega⟩
    simp only [] at this
    rw [Int.toNat_of_nonneg h1.1, Int.toNat_of_nonneg h2.1] at this
    rw [this]; simp [maskI, ha, hb]
  cases ha : inB 0 r 7
  · have hs : hasB r n = false := by simp [hasB, ha]
    rw [hs]
    clear hs hm
    go_enter Try.func30, Try.ntmps30
    go_wp2_with (go_at_call 31; refine (rmay_any' _ _).mono ?_; rintro e w' ⟨rfl, rfl⟩)
    go_ret
    exact ⟨rfl, rfl⟩
  · cases hb : inB 0 n 7
    · have hs : hasB r n = false := by simp [hasB, hb]
      rw [hs]
      clear hs hm
      go_enter Try.func30, Try.ntmps30
      go_wp2_with (go_at_call 31; refine (rmay_any' _ _).mono ?_; rintro e w' ⟨rfl, rfl⟩)
      go_ret
      exact ⟨rfl, rfl⟩
    · have hs : hasB r n = (maskI r n == n) := by
        simp [hasB, ha, hb]
        rfl
      rw [hs]
      have hm' := hm ha hb
      clear hs hm
      generalize maskI r n = q at *
      go_enter Try.func30, Try.ntmps30
      go_wp2_with (go_at_call 31; refine (rmay_any' _ _).mono ?_; rintro e w' ⟨rfl, rfl⟩)
      go_ret
      exact ⟨rfl, rfl⟩

set_option maxRecDepth 100000 in
set_option maxHeartbeats 1000000 in
theorem alike_any (c d : Cap) (hc : c.Fit) (hd : d.Fit) (w : World) : Calls Try.prog 26 #[c.v, d.v] w fun e w' => e = .returned (.bool (alikeB c d)) ∧ Below w.heap.size w w' := by
  have h1 := fun w => may_any c hc w
  have h2 := fun w => may_any d hd w
  generalize hA : alikeB c d = A
  unfold alikeB at hA
  have HA := Lib.hid hA
  clear hA hc hd
  generalize c.okB = oc at *
  generalize d.okB = od at *
  obtain ⟨k, o, r, x, g, b, s, p⟩ := c
  obtain ⟨k1, o1, r1, x1, g1, b1, s1, p1⟩ := d
  have H1 := Lib.hid h1
  have H2 := Lib.hid h2
  clear h1 h2
  go_enter Try.func26, Try.ntmps26
  go_wp2_with fail
  refine (H1.out _).mono ?_
  rintro e W1 ⟨rfl, hb1⟩
  have x1 := blk_below (blk_alloc (blk_new w _) _) hb1 (by simp; omega)
  have y1 := blk_below (blk_new (w.alloc _) _) hb1 (by simp)
  rw [World.size_alloc] at y1
  have hB : Below w.heap.size w W1 := (((Below.refl _ w).alloc (Nat.le_refl _) _).alloc (by simp) _).trans (hb1.mono (by simp; omega))
  clear hb1
  have HB := Lib.hid hB
  clear hB
  have e1 := blk_cell x1
  have e2 := blk_cell y1
  have X1 := Lib.hid x1
  have Y1 := Lib.hid y1
  clear x1 y1
  cases oc
  · simp only []
    go_wp
    refine body_ret_eq (Q := fun w' => Below w.heap.size w w') rfl ?_ HB.out
    have := HA.out
    simp at this
    subst this
    simp [results, Try.results26, go_sem]
  · go_wp2_with fail
    refine (H2.out _).mono ?_
    rintro e W2 ⟨rfl, hb2⟩
    have x2 := blk_below X1.out hb2 (Array.getElem?_eq_some_iff.1 X1.out).1
    have y2 := blk_below Y1.out hb2 (Array.getElem?_eq_some_iff.1 Y1.out).1
    have HB2 := Lib.hid (HB.out.trans (hb2.mono HB.out.size))
    clear hb2 e1 e2 X1 Y1 HB
    have e1 := blk_cell x2
    have e2 := blk_cell y2
    clear x2 y2
    simp only []
    go_wp
    all_goals refine body_ret_eq (Q := fun w' => Below w.heap.size w w') rfl ?_ HB2.out
    all_goals have := HA.out
    all_goals clear HA
    all_goals simp [*] at this
    all_goals subst this
    all_goals simp [results, Try.results26, go_sem]
    all_goals (rw [Bool.eq_iff_iff]; simp [*])
end Go.Proofs.Ytndjopbmaoalhaa
