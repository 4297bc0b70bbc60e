import Derived.Test.YtndjopbmaoalhaaC3
set_option linter.unusedVariables false
set_option linter.unusedSimpArgs false
namespace Go.Proofs.Ytndjopbmaoalhaa
open Go.RowKit Go.Shelf
attribute [local go_sem ↓] run_eql_cap

def placedB (s p : Int) : Bool := inB 1 s 16777215 && inB 0 p 511
def may3B (k o r d g b s p : Int) : Bool := inB 1 r 3 && (placedB s p || (s == 0 && p == 0)) && eq8 k o r d g b s p k o r 0 0 0 s p && inB 1 o 65535

set_option maxRecDepth 100000 in
set_option maxHeartbeats 2000000 in
theorem may3 (o r d g b s p : Int) (w : World) :
    Calls Try.prog 18 #[.agg #[.int .i64 3, .int .i64 o, .int .i64 r, .int .u64 d, .int .i64 g, .int .i64 b, .int .i64 s, .int .i64 p]] w fun e w' => e = .returned (.bool (may3B 3 o r d g b s p)) ∧ Below w.heap.size w w' := by
  cases h1 : inB 1 r 3
  · have HM := Lib.hid (show may3B 3 o r d g b s p = false by simp [may3B, h1])
    go_enter Try.func18, Try.ntmps18
    go_wp2_with fail
    go_region
    go_wp2_with (go_at_call 38; refine (within_any' _ _ _ _).mono ?_; rintro e w' ⟨rfl, rfl⟩)
    all_goals go_ret
    all_goals exact ⟨HM.out ▸ rfl, by go_grown⟩
  by_cases hz : s = 0 ∧ p = 0
  · obtain ⟨rfl, rfl⟩ := hz
    have HM := Lib.hid (show may3B 3 o r d g b 0 0 = (eq8 3 o r d g b 0 0 3 o r 0 0 0 0 0 && inB 1 o 65535) by simp [may3B, h1])
    cases h4 : eq8 3 o r d g b 0 0 3 o r 0 0 0 0 0
    all_goals
      rw [h4] at HM
      simp only [Bool.false_and, Bool.true_and] at HM
      go_enter Try.func18, Try.ntmps18
      go_wp2_with fail
      go_region
      go_wp2_with (go_at_call 38; refine (within_any' _ _ _ _).mono ?_; rintro e w' ⟨rfl, rfl⟩)
      all_goals go_ret
      all_goals exact ⟨HM.out ▸ rfl, by go_grown⟩
  · cases h2 : inB 1 s 16777215
    · have HM := Lib.hid (show may3B 3 o r d g b s p = false by simp [may3B, h2, placedB]; omega)
      go_enter Try.func18, Try.ntmps18
      go_wp2_with fail
      go_region
      go_wp2_with (go_at_call 38; refine (within_any' _ _ _ _).mono ?_; rintro e w' ⟨rfl, rfl⟩)
      all_goals go_ret
      all_goals first | (exact ⟨HM.out ▸ rfl, by go_grown⟩) | (exfalso; omega)
    · cases h3 : inB 0 p 511
      · have HM := Lib.hid (show may3B 3 o r d g b s p = false by simp [may3B, h2, h3, placedB]; omega)
        go_enter Try.func18, Try.ntmps18
        go_wp2_with fail
        go_region
        go_wp2_with (go_at_call 38; refine (within_any' _ _ _ _).mono ?_; rintro e w' ⟨rfl, rfl⟩)
        all_goals go_ret
        all_goals first | (exact ⟨HM.out ▸ rfl, by go_grown⟩) | (exfalso; omega)
      · have HM := Lib.hid (show may3B 3 o r d g b s p = (eq8 3 o r d g b s p 3 o r 0 0 0 s p && inB 1 o 65535) by simp [may3B, h1, h2, h3, placedB])
        cases h4 : eq8 3 o r d g b s p 3 o r 0 0 0 s p
        all_goals
          rw [h4] at HM
          simp only [Bool.false_and, Bool.true_and] at HM
          go_enter Try.func18, Try.ntmps18
          go_wp2_with fail
          go_region
          go_wp2_with (go_at_call 38; refine (within_any' _ _ _ _).mono ?_; rintro e w' ⟨rfl, rfl⟩)
          all_goals go_ret
          all_goals exact ⟨HM.out ▸ rfl, by go_grown⟩
end Go.Proofs.Ytndjopbmaoalhaa
