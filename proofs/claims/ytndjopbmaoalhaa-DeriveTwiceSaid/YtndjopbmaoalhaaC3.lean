import Derived.Test.YtndjopbmaoalhaaC2
import Derived.BigRegion
set_option linter.unusedVariables false
set_option linter.unusedSimpArgs false
namespace Go.Proofs.Ytndjopbmaoalhaa
open Go.RowKit Go.Shelf

/-- a capability -/
structure Cap where
  kind : Int
  obj : Int
  rights : Int
  badge : Int
  guard : Int
  bits : Int
  serial : Int
  page : Int
  deriving DecidableEq
def eq8 (a0 a1 a2 a3 a4 a5 a6 a7 b0 b1 b2 b3 b4 b5 b6 b7 : Int) : Bool := decide (a0 = b0 ∧ a1 = b1 ∧ a2 = b2 ∧ a3 = b3 ∧ a4 = b4 ∧ a5 = b5 ∧ a6 = b6 ∧ a7 = b7)

theorem run_eql_cap (w : World) (a0 a1 a2 a3 a4 a5 a6 a7 b0 b1 b2 b3 b4 b5 b6 b7 : Int) :
    (binOp .eql 24 (.agg #[.int .i64 a0, .int .i64 a1, .int .i64 a2, .int .u64 a3, .int .i64 a4, .int .i64 a5, .int .i64 a6, .int .i64 a7])
      (.agg #[.int .i64 b0, .int .i64 b1, .int .i64 b2, .int .u64 b3, .int .i64 b4, .int .i64 b5, .int .i64 b6, .int .i64 b7])).run Try.prog w =
    .ok (.bool (eq8 a0 a1 a2 a3 a4 a5 a6 a7 b0 b1 b2 b3 b4 b5 b6 b7)) w := by
  simp [go_sem]
  unfold eq8
  by_cases h0 : a0 = b0 <;> simp [h0]
  by_cases h1 : a1 = b1 <;> simp [h1]
  by_cases h2 : a2 = b2 <;> simp [h2]
  by_cases h3 : a3 = b3 <;> simp [h3]
  by_cases h4 : a4 = b4 <;> simp [h4]
  by_cases h5 : a5 = b5 <;> simp [h5]
  by_cases h6 : a6 = b6 <;> simp [h6]
  by_cases h7 : a7 = b7 <;> simp [h7]
attribute [local go_sem ↓] run_eql_cap

theorem rmay_any (r : Int) (w : World) : Calls Try.prog 31 #[.int .i64 r] w fun e w' => e = .returned (.bool (decide (0 ≤ r) && decide (r ≤ 7))) ∧ w = w' := by
  go_enter Try.func31, Try.ntmps31
  go_wp2
  all_goals go_ret
  · rename_i h; exact ⟨by simp [h], rfl⟩
  · rename_i h; exact ⟨by simp; omega, rfl⟩

def inB (lo x hi : Int) : Bool := decide (lo ≤ x) && decide (x ≤ hi)
theorem within_any' (x lo hi : Int) (w : World) :
    Calls Try.prog 38 #[.int .i64 x, .int .i64 lo, .int .i64 hi] w fun e w' => e = .returned (.bool (inB lo x hi)) ∧ w = w' := within_any x lo hi w
theorem fits_any' (v : Int) (n : Int) (w : World) (h0 : 0 ≤ v) (hv : v < 18446744073709551616) :
    Calls Try.prog 39 #[.int .u64 v, .int .i64 n] w fun e w' => e = .returned (.bool (fitsB v.toNat n)) ∧ Below w.heap.size w w' := by
  obtain ⟨m, rfl⟩ := Int.eq_ofNat_of_zero_le h0
  exact fits_any m n w (by omega)

set_option maxRecDepth 100000 in
set_option maxHeartbeats 1000000 in
theorem may07 (k o r d g b s p : Int) (w : World) (hk : k = 0 ∨ k = 7) :
    Calls Try.prog 18 #[.agg #[.int .i64 k, .int .i64 o, .int .i64 r, .int .u64 d, .int .i64 g, .int .i64 b, .int .i64 s, .int .i64 p]] w fun e w' => e = .returned (.bool (eq8 k o r d g b s p k 0 0 0 0 0 0 0)) ∧ Below w.heap.size w w' := by
  rcases hk with rfl | rfl
  all_goals
    go_enter Try.func18, Try.ntmps18
    go_wp2
    go_ret
    exact ⟨rfl, by go_grown⟩

set_option maxRecDepth 100000 in
set_option maxHeartbeats 1000000 in
theorem may1 (k o r d g b s p : Int) (w : World) (hk : k = 1 ∨ k = 4 ∨ k = 5 ∨ k = 6 ∨ k = 9) :
    Calls Try.prog 18 #[.agg #[.int .i64 k, .int .i64 o, .int .i64 r, .int .u64 d, .int .i64 g, .int .i64 b, .int .i64 s, .int .i64 p]] w fun e w' => e = .returned (.bool (eq8 k o r d g b s p k o 0 0 0 0 0 0 && inB 1 o 65535)) ∧ Below w.heap.size w w' := by
  cases he : eq8 k o r d g b s p k o 0 0 0 0 0 0
  all_goals
  rcases hk with rfl | rfl | rfl | rfl | rfl
  all_goals
    go_enter Try.func18, Try.ntmps18
    go_wp2_with (go_at_call 38; refine (within_any' _ _ _ _).mono ?_; rintro e w' ⟨rfl, rfl⟩)
    go_ret
    exact ⟨rfl, by go_grown⟩

end Go.Proofs.Ytndjopbmaoalhaa
