import Derived.Test.YtndjopbmaoalhaaR1
import Derived.Test.YtndjopbmaoalhaaC7
set_option linter.unusedVariables false
set_option linter.unusedSimpArgs false
namespace Go.Proofs.Ytndjopbmaoalhaa
open Go.RowKit Go.Shelf
attribute [local go_sem ↓] run_eql_cap

set_option maxRecDepth 100000 in
set_option maxHeartbeats 1000000 in
theorem rfm1 (k o r d g b s p : Int) (w : World) (hk : k = 1 ∨ k = 4 ∨ k = 5 ∨ k = 6 ∨ k = 9) :
    Calls Try.prog 19 #[.agg #[.int .i64 k, .int .i64 o, .int .i64 r, .int .u64 d, .int .i64 g, .int .i64 b, .int .i64 s, .int .i64 p]] w fun e w' => e = .returned (.bool (eq8 k o r d g b s p k o 0 0 0 0 0 0 && inB 1 o 65535)) ∧ Below w.heap.size w w' := by
  have ho := obj_any o
  cases h1 : inB 1 o 65535
  all_goals
  rw [h1] at ho
  have Ho := Lib.hid ho
  clear ho
  rcases hk with rfl | rfl | rfl | rfl | rfl
  all_goals
    go_enter Try.func19, Try.ntmps19
    go_wp2_with (go_at_call 40; refine (Ho.out _).mono ?_; rintro e w' ⟨rfl, rfl⟩)
    go_ret
    exact ⟨by first | rw [Bool.and_false]; rfl | rw [Bool.and_true]; rfl, by go_grown⟩

set_option maxRecDepth 100000 in
set_option maxHeartbeats 1000000 in
theorem rfm8 (o r d g b s p : Int) (w : World) :
    Calls Try.prog 19 #[.agg #[.int .i64 8, .int .i64 o, .int .i64 r, .int .u64 d, .int .i64 g, .int .i64 b, .int .i64 s, .int .i64 p]] w fun e w' => e = .returned (.bool (may8B 8 o r d g b s p)) ∧ Below w.heap.size w w' := by
  go_enter Try.func19, Try.ntmps19
  go_wp2_with fail
  go_region
  go_wp2_with (go_at_call 40; refine (obj_any _ _).mono ?_; rintro e w' ⟨rfl, rfl⟩)
  all_goals go_ret
  all_goals (refine ⟨congrArg (fun x => Ending.returned (Value.bool x)) ?_, by go_grown⟩)
  all_goals (try simp only [Act.tmps])
  all_goals (rw [Bool.eq_iff_iff]; simp [may8B, placedB, inB, eq8] at *; try omega)
end Go.Proofs.Ytndjopbmaoalhaa
