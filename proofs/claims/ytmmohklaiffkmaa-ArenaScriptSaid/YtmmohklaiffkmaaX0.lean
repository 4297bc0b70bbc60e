/- Low. -/
import Derived.Test.YtmmohklaiffkmaaU0
import Derived.Test.YtmmohklaiffkmaaS10
import Derived.Test.YtmmohklaiffkmaaTI
set_option linter.unusedVariables false
set_option linter.unusedSimpArgs false
namespace Go.Proofs.Ytmmohklaiffkmaa
open Go.RowKit

theorem wrap_u64 (x : Int) : IntKind.u64.wrap x = x % 18446744073709551616 := by
  simp [IntKind.wrap, IntKind.signed, IntKind.bits]
def lowV (x n : Int) : Nat := ((x % 18446744073709551616) % n).toNat
theorem lowV_lt (x : Int) (n : Nat) (h : 0 < n) : lowV x n < n := by
  have h1 := Int.emod_nonneg (x % 18446744073709551616) (b := (n : Int)) (by omega)
  have h2 := Int.emod_lt_of_pos (x % 18446744073709551616) (b := (n : Int)) (by omega)
  unfold lowV; omega
theorem lowV_cast (x : Int) (n : Nat) (h : 0 < n) : ((lowV x n : Nat) : Int) = (x % 18446744073709551616) % n := by
  have h1 := Int.emod_nonneg (x % 18446744073709551616) (b := (n : Int)) (by omega)
  unfold lowV; omega
theorem low_any (x : Int) (n : Nat) (h0 : 0 < n) (hm : n ≤ 1000000) (l : List Chunk) : Fn Try.prog 25 [.int .i64 x, .int .i64 n] l fun v l' => v = .int .i64 (lowV x n : Nat) ∧ l' = l := by
  have hx0 := Int.emod_nonneg x (b := (18446744073709551616 : Int)) (by omega)
  have hlt := lowV_lt x n h0
  have hc := lowV_cast x n h0
  refine fn_of_body Try.func25 rfl rfl fun E => ?_
  simp only [argF, Try.ntmps25]
  repeat (first | (show OpsS _ _ _ _ _ _ (_ :: _) _ _ _; first | refine ozq ?_) | refine c_seq ?_ | refine p_then ?_ | refine c_region ?_ | refine s_nil ?_ | refine c_ret ?_ | refine p_then_ret ?_ | refine p_end ?_)
  refine t_q (q_conv_w rfl) rfl rfl rfl ?_
  rw [wrap_u64]
  obtain ⟨y, hy⟩ : ∃ y, x % 18446744073709551616 = y := ⟨_, rfl⟩
  rw [hy] at hx0 hc ⊢
  repeat (first | (show OpsS _ _ _ _ _ _ (_ :: _) _ _ _; first | refine ozq ?_) | refine c_seq ?_ | refine p_then ?_ | refine c_region ?_ | refine s_nil ?_ | refine c_ret ?_ | refine p_then_ret ?_ | refine p_end ?_)
  rw [← hc]
  exact k_ret [] rfl .refl (by (repeat (first | apply ResS.nil | (apply rs_tmp; (· rfl)) | (apply rs_cell1; (· rfl); (· ((repeat (first | with_reducible apply List.mem_cons_self | with_reducible apply List.mem_cons_of_mem)); try with_reducible assumption)); (· rfl)) | (apply rs_cellA; (· rfl); (· ((repeat (first | with_reducible apply List.mem_cons_self | with_reducible apply List.mem_cons_of_mem)); try with_reducible assumption)); (· (repeat (first | with_reducible apply LSub.done | with_reducible apply LSub.take | with_reducible apply LSub.drop))))))) ⟨rfl, rfl⟩
end Go.Proofs.Ytmmohklaiffkmaa
