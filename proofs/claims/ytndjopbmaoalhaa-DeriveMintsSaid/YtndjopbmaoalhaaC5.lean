import Derived.Test.YtndjopbmaoalhaaC4
set_option linter.unusedVariables false
set_option linter.unusedSimpArgs false
namespace Go.Proofs.Ytndjopbmaoalhaa
open Go.RowKit Go.Shelf
attribute [local go_sem ↓] run_eql_cap

def may8B (k o r d g b s p : Int) : Bool := inB 0 r 7 && decide (d ≤ 16777215) && eq8 k o r d g b s p k o r d 0 0 0 0 && inB 1 o 65535
theorem rmay_any' (r : Int) (w : World) : Calls Try.prog 31 #[.int .i64 r] w fun e w' => e = .returned (.bool (inB 0 r 7)) ∧ w = w' := rmay_any r w

set_option maxRecDepth 100000 in
set_option maxHeartbeats 1000000 in
theorem may8 (o r d g b s p : Int) (w : World) :
    Calls Try.prog 18 #[.agg #[.int .i64 8, .int .i64 o, .int .i64 r, .int .u64 d, .int .i64 g, .int .i64 b, .int .i64 s, .int .i64 p]] w fun e w' => e = .returned (.bool (may8B 8 o r d g b s p)) ∧ Below w.heap.size w w' := by
  cases h1 : inB 0 r 7
  · have HM := Lib.hid (show may8B 8 o r d g b s p = false by simp [may8B, h1])
    go_enter Try.func18, Try.ntmps18
    go_wp2_with fail
    go_region
    go_wp2_with (go_at_call 31; refine (rmay_any' _ _).mono ?_; rintro e w' ⟨rfl, rfl⟩)
    go_ret
    exact ⟨HM.out ▸ rfl, by go_grown⟩
  by_cases h2 : d ≤ 16777215
  · cases h4 : eq8 8 o r d g b s p 8 o r d 0 0 0 0
    · have HM := Lib.hid (show may8B 8 o r d g b s p = false by simp [may8B, h4])
      go_enter Try.func18, Try.ntmps18
      go_wp2_with fail
      go_region
      go_wp2_with (go_at_call 31; refine (rmay_any' _ _).mono ?_; rintro e w' ⟨rfl, rfl⟩)
      go_ret
      exact ⟨HM.out ▸ rfl, by go_grown⟩
    · have HM := Lib.hid (show may8B 8 o r d g b s p = inB 1 o 65535 by simp [may8B, h4, h1, h2])
      go_enter Try.func18, Try.ntmps18
      go_wp2_with fail
      go_region
      go_wp2_with (first | (go_at_call 31; refine (rmay_any' _ _).mono ?_; rintro e w' ⟨rfl, rfl⟩) | (go_at_call 38; refine (within_any' _ _ _ _).mono ?_; rintro e w' ⟨rfl, rfl⟩))
      go_ret
      exact ⟨HM.out ▸ rfl, by go_grown⟩
  · have HM := Lib.hid (show may8B 8 o r d g b s p = false by simp [may8B, h2])
    go_enter Try.func18, Try.ntmps18
    go_wp2_with fail
    go_region
    go_wp2_with (go_at_call 31; refine (rmay_any' _ _).mono ?_; rintro e w' ⟨rfl, rfl⟩)
    go_ret
    exact ⟨HM.out ▸ rfl, by go_grown⟩
end Go.Proofs.Ytndjopbmaoalhaa
