/- Fields of a word. -/
import Derived.Test.YtkefdpgmelndaaaU0
import Derived.Test.YtkefdpgmelndaaaP13
import Derived.Test.YtkefdpgmelndaaaZ0
set_option linter.unusedVariables false
set_option linter.unusedSimpArgs false
namespace Go.Proofs.Ytkefdpgmelndaaa
open Go.RowKit

set_option pp.deepTerms false
set_option pp.deepTerms.threshold 4
set_option maxHeartbeats 400000
theorem wmay_any (a n : Nat) (h1 : 1 ≤ n) (h2 : a + n ≤ 64) (l : List Chunk) : Fn Try.prog 30 [.int .i64 (a : Nat), .int .i64 (n : Nat)] l fun v l' => v = .bool true ∧ l' = l := by
  refine fn_of_body Try.func30 rfl rfl fun E => ?_
  simp only [argF, Try.ntmps30]
  repeat (first | (show OpsS _ _ _ _ _ _ (_ :: _) _ _ _; first | refine ozq ?_ | refine ozs ?_ | refine ozs0 ?_ | refine ozt ?_ | refine ozf ?_) | refine c_seq ?_ | refine p_then ?_ | refine c_region ?_ | refine s_nil ?_ | refine c_ret ?_ | refine p_then_ret ?_ | refine p_end ?_)
  refine k_ret [] rfl .refl (by (repeat (first | apply ResS.nil | (apply rs_tmp; (· rfl)) | (apply rs_cell1; (· rfl); (· ((repeat (first | with_reducible apply List.mem_cons_self | with_reducible apply List.mem_cons_of_mem)); try with_reducible assumption)); (· rfl)) | (apply rs_cellA; (· rfl); (· ((repeat (first | with_reducible apply List.mem_cons_self | with_reducible apply List.mem_cons_of_mem)); try with_reducible assumption)); (· (repeat (first | with_reducible apply LSub.done | with_reducible apply LSub.take | with_reducible apply LSub.drop))))))) ⟨?_, rfl⟩
  rw [decide_eq_true (by omega)]; rfl
theorem wones_any (n : Nat) (h1 : 1 ≤ n) (h2 : n ≤ 63) (l : List Chunk) : Fn Try.prog 31 [.int .i64 (n : Nat)] l fun v l' => v = .int .u64 ((2 ^ n - 1 : Nat) : Int) ∧ l' = l := by
  refine fn_of_body Try.func31 rfl rfl fun E => ?_
  simp only [argF, Try.ntmps31]
  have hp : 2 ^ n ≤ 2 ^ 63 := Nat.pow_le_pow_right (by omega) h2
  have hp0 : 0 < 2 ^ n := Nat.two_pow_pos _
  have hw : IntKind.u64.wrap (1 * 2 ^ n) = ((2 ^ n : Nat) : Int) := by
    rw [Int.one_mul, show (2 : Int) ^ n = ((2 ^ n : Nat) : Int) by simp, wrapN (by omega)]
  repeat (first | (show OpsS _ _ _ _ _ _ (_ :: _) _ _ _; first | refine ozq ?_) | refine c_seq ?_ | refine p_then ?_ | refine c_region ?_ | refine s_nil ?_ | refine c_cond_t rfl ?_ | refine c_cond_f rfl ?_ | refine c_block ?_ | refine c_skip ?_ | refine p_block ?_ | refine p_block_here ?_ | refine p_block_on rfl ?_ | refine c_ret ?_ | refine p_then_ret ?_ | refine p_block_ret ?_ | refine p_end ?_ | refine c_if_t rfl (by omega) ?_ | refine c_if_f rfl (by omega) ?_)
  refine t_q (q_shl (n := n) (i := 1) rfl rfl (by show n ≤ 64; omega)) rfl rfl rfl ?_
  rw [hw]
  obtain ⟨q, hq⟩ : ∃ q, 2 ^ n = q := ⟨_, rfl⟩
  rw [hq] at hp hp0 ⊢
  refine t_q (q_sub (i := ((q : Nat) : Int)) (j := 1) rfl rfl ⟨by omega, by omega⟩) rfl rfl rfl ?_
  repeat (first | (show OpsS _ _ _ _ _ _ (_ :: _) _ _ _; first | refine ozq ?_) | refine c_seq ?_ | refine p_then ?_ | refine c_region ?_ | refine s_nil ?_ | refine c_cond_t rfl ?_ | refine c_cond_f rfl ?_ | refine c_block ?_ | refine c_skip ?_ | refine p_block ?_ | refine p_block_here ?_ | refine p_block_on rfl ?_ | refine c_ret ?_ | refine p_then_ret ?_ | refine p_block_ret ?_ | refine p_end ?_ | refine c_if_t rfl (by omega) ?_ | refine c_if_f rfl (by omega) ?_)
  refine k_ret [] rfl .refl (by (repeat (first | apply ResS.nil | (apply rs_tmp; (· rfl)) | (apply rs_cell1; (· rfl); (· ((repeat (first | with_reducible apply List.mem_cons_self | with_reducible apply List.mem_cons_of_mem)); try with_reducible assumption)); (· rfl)) | (apply rs_cellA; (· rfl); (· ((repeat (first | with_reducible apply List.mem_cons_self | with_reducible apply List.mem_cons_of_mem)); try with_reducible assumption)); (· (repeat (first | with_reducible apply LSub.done | with_reducible apply LSub.take | with_reducible apply LSub.drop))))))) ⟨?_, rfl⟩
  rw [show ((q : Nat) : Int) - 1 = ((q - 1 : Nat) : Int) by omega]; rfl
theorem with_any (w a n v : Nat) (hw : w < 18446744073709551616) (h1 : 1 ≤ n) (h2 : n ≤ 63) (h3 : a + n ≤ 64) (hv : v < 2 ^ n) (l : List Chunk) :
    Fn Try.prog 21 [.int .u64 (w : Nat), .int .i64 (a : Nat), .int .i64 (n : Nat), .int .u64 (v : Nat)] l fun r l' => r = .tuple #[.int .u64 (withN w a n v : Nat), .int .i64 0] ∧ l' = l := by
  have hv64 : v < 18446744073709551616 := Nat.lt_of_lt_of_le hv (Nat.pow_le_pow_right (n := 2) (by omega) (show n ≤ 64 by omega))
  have hf : fitsB v ((n : Nat) : Int) = true := by rw [fits_pow hv64 (by omega)]; exact decide_eq_true hv
  have e1 : IntKind.u64.wrap (((2 ^ n - 1 : Nat) : Int) * 2 ^ a) = (((2 ^ n - 1) * 2 ^ a : Nat) : Int) := by
    rw [show (2 : Int) ^ a = ((2 ^ a : Nat) : Int) by simp, ← Int.natCast_mul, wrapN (ones_shl h3)]
  have e2 : IntKind.u64.wrap (((v : Nat) : Int) * 2 ^ a) = ((v * 2 ^ a : Nat) : Int) := by
    rw [show (2 : Int) ^ a = ((2 ^ a : Nat) : Int) by simp, ← Int.natCast_mul, wrapN (val_shl h3 hv)]
  refine fn_of_body Try.func21 rfl rfl fun E => ?_
  simp only [argF, Try.ntmps21]
  repeat (first | (show OpsS _ _ _ _ _ _ (_ :: _) _ _ _; first | refine ozq ?_) | refine c_seq ?_ | refine p_then ?_ | refine c_region ?_ | refine s_nil ?_ | refine c_cond_t rfl ?_ | refine c_cond_f rfl ?_ | refine c_skip ?_ | refine c_ret ?_ | refine p_then_ret ?_ | refine p_end ?_ | refine c_if_t rfl (by omega) ?_ | refine c_if_f rfl (by omega) ?_)
  refine t_q (q_call rfl rfl fun l2 _ => wmay_any a n h1 h3 l2) rfl rfl rfl ?_
  repeat (first | (show OpsS _ _ _ _ _ _ (_ :: _) _ _ _; first | refine ozq ?_) | refine c_seq ?_ | refine p_then ?_ | refine c_region ?_ | refine s_nil ?_ | refine c_cond_t rfl ?_ | refine c_cond_f rfl ?_ | refine c_skip ?_ | refine c_ret ?_ | refine p_then_ret ?_ | refine p_end ?_ | refine c_if_t rfl (by omega) ?_ | refine c_if_f rfl (by omega) ?_)
  refine t_q (q_call rfl rfl fun l2 _ => fits_any v hv64 n l2) rfl rfl rfl ?_
  rw [hf]
  repeat (first | (show OpsS _ _ _ _ _ _ (_ :: _) _ _ _; first | refine ozq ?_) | refine c_seq ?_ | refine p_then ?_ | refine c_region ?_ | refine s_nil ?_ | refine c_cond_t rfl ?_ | refine c_cond_f rfl ?_ | refine c_skip ?_ | refine c_ret ?_ | refine p_then_ret ?_ | refine p_end ?_ | refine c_if_t rfl (by omega) ?_ | refine c_if_f rfl (by omega) ?_)
  refine t_q (q_call rfl rfl fun l2 _ => wones_any n h1 h2 l2) rfl rfl rfl ?_
  repeat (first | (show OpsS _ _ _ _ _ _ (_ :: _) _ _ _; first | refine ozq ?_) | refine c_seq ?_ | refine p_then ?_ | refine c_region ?_ | refine s_nil ?_ | refine c_cond_t rfl ?_ | refine c_cond_f rfl ?_ | refine c_skip ?_ | refine c_ret ?_ | refine p_then_ret ?_ | refine p_end ?_ | refine c_if_t rfl (by omega) ?_ | refine c_if_f rfl (by omega) ?_)
  refine t_q (q_shl (n := a) (i := ((2 ^ n - 1 : Nat) : Int)) rfl rfl (by show a ≤ 64; omega)) rfl rfl rfl ?_
  rw [e1]
  refine t_q (q_andNot rfl rfl hw (ones_shl h3)) rfl rfl rfl ?_
  repeat (first | (show OpsS _ _ _ _ _ _ (_ :: _) _ _ _; first | refine ozq ?_) | refine c_seq ?_ | refine p_then ?_ | refine c_region ?_ | refine s_nil ?_ | refine c_cond_t rfl ?_ | refine c_cond_f rfl ?_ | refine c_skip ?_ | refine c_ret ?_ | refine p_then_ret ?_ | refine p_end ?_ | refine c_if_t rfl (by omega) ?_ | refine c_if_f rfl (by omega) ?_)
  refine t_q (q_shl (n := a) (i := ((v : Nat) : Int)) rfl rfl (by show a ≤ 64; omega)) rfl rfl rfl ?_
  rw [e2]
  refine t_q (q_or rfl rfl (Nat.lt_of_le_of_lt Nat.and_le_left hw) (val_shl h3 hv)) rfl rfl rfl ?_
  rw [with_eq hw h3 hv]
  repeat (first | (show OpsS _ _ _ _ _ _ (_ :: _) _ _ _; first | refine ozq ?_) | refine c_seq ?_ | refine p_then ?_ | refine c_region ?_ | refine s_nil ?_ | refine c_cond_t rfl ?_ | refine c_cond_f rfl ?_ | refine c_skip ?_ | refine c_ret ?_ | refine p_then_ret ?_ | refine p_end ?_ | refine c_if_t rfl (by omega) ?_ | refine c_if_f rfl (by omega) ?_)
  exact k_ret [] rfl .refl (by (repeat (first | apply ResS.nil | (apply rs_tmp; (· rfl)) | (apply rs_cell1; (· rfl); (· ((repeat (first | with_reducible apply List.mem_cons_self | with_reducible apply List.mem_cons_of_mem)); try with_reducible assumption)); (· rfl)) | (apply rs_cellA; (· rfl); (· ((repeat (first | with_reducible apply List.mem_cons_self | with_reducible apply List.mem_cons_of_mem)); try with_reducible assumption)); (· (repeat (first | with_reducible apply LSub.done | with_reducible apply LSub.take | with_reducible apply LSub.drop))))))) ⟨rfl, rfl⟩
theorem field_any (w a n : Nat) (hw : w < 18446744073709551616) (h1 : 1 ≤ n) (h2 : n ≤ 63) (h3 : a + n ≤ 64) (l : List Chunk) :
    Fn Try.prog 29 [.int .u64 (w : Nat), .int .i64 (a : Nat), .int .i64 (n : Nat)] l fun r l' => r = .tuple #[.int .u64 (fieldN w a n : Nat), .int .i64 0] ∧ l' = l := by
  have hp : 2 ^ n - 1 < 18446744073709551616 := by have : 2 ^ n ≤ 2 ^ 63 := Nat.pow_le_pow_right (by omega) h2; omega
  refine fn_of_body Try.func29 rfl rfl fun E => ?_
  simp only [argF, Try.ntmps29]
  repeat (first | (show OpsS _ _ _ _ _ _ (_ :: _) _ _ _; first | refine ozq ?_) | refine c_seq ?_ | refine p_then ?_ | refine c_region ?_ | refine s_nil ?_ | refine c_cond_t rfl ?_ | refine c_cond_f rfl ?_ | refine c_skip ?_ | refine c_ret ?_ | refine p_then_ret ?_ | refine p_end ?_ | refine c_if_t rfl (by omega) ?_ | refine c_if_f rfl (by omega) ?_)
  refine t_q (q_call rfl rfl fun l2 _ => wmay_any a n h1 h3 l2) rfl rfl rfl ?_
  repeat (first | (show OpsS _ _ _ _ _ _ (_ :: _) _ _ _; first | refine ozq ?_) | refine c_seq ?_ | refine p_then ?_ | refine c_region ?_ | refine s_nil ?_ | refine c_cond_t rfl ?_ | refine c_cond_f rfl ?_ | refine c_skip ?_ | refine c_ret ?_ | refine p_then_ret ?_ | refine p_end ?_ | refine c_if_t rfl (by omega) ?_ | refine c_if_f rfl (by omega) ?_)
  refine t_q (q_shr (n := a) rfl rfl (by show a ≤ 64; omega)) rfl rfl rfl ?_
  rw [show ((w : Nat) : Int) / 2 ^ a = ((w / 2 ^ a : Nat) : Int) by norm_cast]
  repeat (first | (show OpsS _ _ _ _ _ _ (_ :: _) _ _ _; first | refine ozq ?_) | refine c_seq ?_ | refine p_then ?_ | refine c_region ?_ | refine s_nil ?_ | refine c_cond_t rfl ?_ | refine c_cond_f rfl ?_ | refine c_skip ?_ | refine c_ret ?_ | refine p_then_ret ?_ | refine p_end ?_ | refine c_if_t rfl (by omega) ?_ | refine c_if_f rfl (by omega) ?_)
  refine t_q (q_call rfl rfl fun l2 _ => wones_any n h1 h2 l2) rfl rfl rfl ?_
  refine t_q (q_and rfl rfl (Nat.lt_of_le_of_lt (Nat.div_le_self _ _) hw) hp) rfl rfl rfl ?_
  rw [field_eq]
  repeat (first | (show OpsS _ _ _ _ _ _ (_ :: _) _ _ _; first | refine ozq ?_) | refine c_seq ?_ | refine p_then ?_ | refine c_region ?_ | refine s_nil ?_ | refine c_cond_t rfl ?_ | refine c_cond_f rfl ?_ | refine c_skip ?_ | refine c_ret ?_ | refine p_then_ret ?_ | refine p_end ?_ | refine c_if_t rfl (by omega) ?_ | refine c_if_f rfl (by omega) ?_)
  exact k_ret [] rfl .refl (by (repeat (first | apply ResS.nil | (apply rs_tmp; (· rfl)) | (apply rs_cell1; (· rfl); (· ((repeat (first | with_reducible apply List.mem_cons_self | with_reducible apply List.mem_cons_of_mem)); try with_reducible assumption)); (· rfl)) | (apply rs_cellA; (· rfl); (· ((repeat (first | with_reducible apply List.mem_cons_self | with_reducible apply List.mem_cons_of_mem)); try with_reducible assumption)); (· (repeat (first | with_reducible apply LSub.done | with_reducible apply LSub.take | with_reducible apply LSub.drop))))))) ⟨rfl, rfl⟩
end Go.Proofs.Ytkefdpgmelndaaa
