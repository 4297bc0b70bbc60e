import Derived.Test.YtndjopbmaoalhaaR1
import Derived.Test.YtndjopbmaoalhaaC7
set_option linter.unusedVariables false
set_option linter.unusedSimpArgs false
namespace Go.Proofs.Ytndjopbmaoalhaa
open Go.RowKit Go.Shelf
attribute [local go_sem ↓] run_eql_cap

set_option maxRecDepth 100000 in
set_option maxHeartbeats 1000000 in
theorem rfm3 (o r d g b s p : Int) (w : World) :
    Calls Try.prog 19 #[.agg #[.int .i64 3, .int .i64 o, .int .i64 r, .int .u64 d, .int .i64 g, .int .i64 b, .int .i64 s, .int .i64 p]] w fun e w' => e = .returned (.bool (may3B 3 o r d g b s p)) ∧ Below w.heap.size w w' := by
  go_enter Try.func19, Try.ntmps19
  go_wp2_with fail
  go_region
  go_wp2_with (go_at_call 40; refine (obj_any _ _).mono ?_; rintro e w' ⟨rfl, rfl⟩)
  all_goals go_ret
  all_goals (refine ⟨congrArg (fun x => Ending.returned (Value.bool x)) ?_, by go_grown⟩)
  all_goals (try simp only [Act.tmps])
  all_goals (rw [Bool.eq_iff_iff]; simp [may3B, placedB, inB, eq8] at *; try omega)

set_option maxRecDepth 100000 in
set_option maxHeartbeats 1000000 in
theorem rfmNo (k o r d g b s p : Int) (w : World) (hk : (k < 0 ∨ 9 < k)) :
    Calls Try.prog 19 #[.agg #[.int .i64 k, .int .i64 o, .int .i64 r, .int .u64 d, .int .i64 g, .int .i64 b, .int .i64 s, .int .i64 p]] w fun e w' => e = .returned (.bool false) ∧ Below w.heap.size w w' := by
  have t0 : (k == 0) = false := beq_eq_false_iff_ne.2 (by omega)
  have t1 : (k == 1) = false := beq_eq_false_iff_ne.2 (by omega)
  have t2 : (k == 2) = false := beq_eq_false_iff_ne.2 (by omega)
  have t3 : (k == 3) = false := beq_eq_false_iff_ne.2 (by omega)
  have t4 : (k == 4) = false := beq_eq_false_iff_ne.2 (by omega)
  have t5 : (k == 5) = false := beq_eq_false_iff_ne.2 (by omega)
  have t6 : (k == 6) = false := beq_eq_false_iff_ne.2 (by omega)
  have t7 : (k == 7) = false := beq_eq_false_iff_ne.2 (by omega)
  have t8 : (k == 8) = false := beq_eq_false_iff_ne.2 (by omega)
  have t9 : (k == 9) = false := beq_eq_false_iff_ne.2 (by omega)
  clear hk
  go_enter Try.func19, Try.ntmps19
  go_wp2
  go_ret
  exact ⟨rfl, by go_grown⟩
end Go.Proofs.Ytndjopbmaoalhaa
