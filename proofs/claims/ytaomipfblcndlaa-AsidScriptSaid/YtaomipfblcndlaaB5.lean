import Derived.Test.YtaomipfblcndlaaB4
set_option linter.unusedVariables false
set_option linter.unusedSimpArgs false
namespace Go.Proofs.Ytaomipfblcndlaa
open Go.RowKit

theorem wrap_u64 (x : Int) : IntKind.u64.wrap x = x % 18446744073709551616 := by
  simp [IntKind.wrap, IntKind.signed, IntKind.bits]
def lowV (x n : Int) : Nat := ((x % 18446744073709551616) % n).toNat
theorem lowV_lt (x : Int) (n : Nat) (h : 0 < n) : lowV x n < n := by
  have h1 := Int.emod_nonneg (x % 18446744073709551616) (b := (n : Int)) (by omega)
  have h2 := Int.emod_lt_of_pos (x % 18446744073709551616) (b := (n : Int)) (by omega)
  unfold lowV; omega
theorem lowV_cast (x : Int) (n : Nat) (h : 0 < n) : ((lowV x n : Nat) : Int) = (x % 18446744073709551616) % n := by
  have h1 := Int.emod_nonneg (x % 18446744073709551616) (b := (n : Int)) (by omega)
  unfold lowV; omega
theorem low_any (x : Int) (n : Nat) (h0 : 0 < n) (hm : n ≤ 1000000) (l : List Chunk) : Fn Try.prog 11 [.int .i64 x, .int .i64 n] l fun v l' => v = .int .i64 (lowV x n : Nat) ∧ l' = l := by
  have hx0 := Int.emod_nonneg x (b := (18446744073709551616 : Int)) (by omega)
  have hlt := lowV_lt x n h0
  have hc := lowV_cast x n h0
  refine fn_of_body Try.func11 rfl rfl fun E => ?_
  simp only [argF, Try.ntmps11]
  repeat (first | (show OpsS _ _ _ _ _ _ (_ :: _) _ _ _; first | (apply t_h; (· first | (show OpQ _ _ _ _ _ ⟨_, .move _, _, _, _, _⟩ _; exact q_move rfl) | (show OpQ _ _ _ _ _ ⟨_, .assign _, _, _, _, _⟩ _; exact q_assign rfl) | (show OpQ _ _ _ _ _ ⟨_, .convert _ _ _, _, _, _, _⟩ _; exact q_conv rfl (by exact ⟨by omega, by omega⟩)) | (show OpQ _ _ _ _ _ ⟨_, .binOp .rem _ _ _ _, _, _, _, _⟩ _; exact q_rem rfl rfl (by omega) (by omega))); (· rfl); (· rfl); (· rfl))) | refine c_seq ?_ | refine p_then ?_ | refine c_region ?_ | refine s_nil ?_ | refine c_ret ?_ | refine p_then_ret ?_ | refine p_end ?_)
  refine t_q (q_conv_w rfl) rfl rfl rfl ?_
  rw [wrap_u64]
  obtain ⟨y, hy⟩ : ∃ y, x % 18446744073709551616 = y := ⟨_, rfl⟩
  rw [hy] at hx0 hc ⊢
  repeat (first | (show OpsS _ _ _ _ _ _ (_ :: _) _ _ _; first | (apply t_h; (· first | (show OpQ _ _ _ _ _ ⟨_, .move _, _, _, _, _⟩ _; exact q_move rfl) | (show OpQ _ _ _ _ _ ⟨_, .assign _, _, _, _, _⟩ _; exact q_assign rfl) | (show OpQ _ _ _ _ _ ⟨_, .convert _ _ _, _, _, _, _⟩ _; exact q_conv rfl (by exact ⟨by omega, by omega⟩)) | (show OpQ _ _ _ _ _ ⟨_, .binOp .rem _ _ _ _, _, _, _, _⟩ _; exact q_rem rfl rfl (by omega) (by omega))); (· rfl); (· rfl); (· rfl))) | refine c_seq ?_ | refine p_then ?_ | refine c_region ?_ | refine s_nil ?_ | refine c_ret ?_ | refine p_then_ret ?_ | refine p_end ?_)
  rw [← hc]
  exact k_ret [] rfl .refl (by (repeat (first | apply ResS.nil | (apply rs_tmp; (· rfl)) | (apply rs_cell1; (· rfl); (· ((repeat (first | with_reducible apply List.mem_cons_self | with_reducible apply List.mem_cons_of_mem)); try with_reducible assumption)); (· rfl)) | (apply rs_cellA; (· rfl); (· ((repeat (first | with_reducible apply List.mem_cons_self | with_reducible apply List.mem_cons_of_mem)); try with_reducible assumption)); (· (repeat (first | with_reducible apply LSub.done | with_reducible apply LSub.take | with_reducible apply LSub.drop))))))) ⟨rfl, rfl⟩

/-- awake -/
theorem awake_any (l : List Chunk) : Fn Try.prog 8 [] l fun v l' => v = .bool true ∧ ∃ c, l' = c :: l := by
  have hp : addP ASt.zero 5 = (0, 0, { ASt.zero with obj := upd ASt.zero.obj 0 5 }) := by rfl
  obtain ⟨s1, hs1⟩ : ∃ s1 : ASt, { ASt.zero with obj := upd ASt.zero.obj 0 5 } = s1 := ⟨_, rfl⟩
  have ha : assignP s1 5 9 = (1, 1, 0, s1.give 1 9) := by rw [← hs1]; rfl
  have hr : rootP (s1.give 1 9) 1 = (9, 1, true) := by rw [← hs1]; rfl
  have hg : ∀ n, n < 32 → 0 ≤ s1.given n ∧ s1.given n ≤ 600000 := by intro n _; rw [← hs1]; exact ⟨Int.le_refl _, by show (0 : Int) ≤ 600000; omega⟩
  rw [hs1] at hp
  refine fn_of_body Try.func8 rfl rfl fun E => ?_
  simp only [argF, Try.ntmps8]
  repeat (first | (show OpsS _ _ _ _ _ _ (_ :: _) _ _ _; first | (apply t_h; (· first | (show OpQ _ _ _ _ _ ⟨_, .move _, _, _, _, _⟩ _; exact q_move rfl) | (show OpQ _ _ _ _ _ ⟨_, .assign _, _, _, _, _⟩ _; exact q_assign rfl) | (show OpQ _ _ _ _ _ ⟨_, .binOp .eql _ _ _ _, _, _, _, _⟩ _; first | exact q_eql rfl rfl | exact q_eqnil rfl rfl | exact q_eqb rfl rfl Try.underlying4) | (show OpQ _ _ _ _ _ ⟨_, .pick _ _ _, _, _, _, _⟩ _; first | exact q_pick_t rfl rfl | exact q_pick_f rfl rfl) | (show OpQ _ _ _ _ _ ⟨_, .extract _ _, _, _, _, _⟩ _; exact q_extract rfl rfl)); (· rfl); (· rfl); (· rfl)) | (refine t_hs rfl rfl rfl ?_) | (refine t_hs0 rfl rfl ?_) | (refine s_gif_t rfl rfl rfl rfl (by omega) ?_) | (refine s_gif_f rfl rfl rfl rfl (by omega) ?_)) | refine c_seq ?_ | refine p_then ?_ | refine c_region ?_ | refine s_nil ?_ | refine c_cond_t rfl ?_ | refine c_cond_f rfl ?_ | refine c_skip ?_ | refine c_ret ?_ | refine p_then_ret ?_ | refine p_end ?_ | refine c_if_t rfl (by omega) ?_ | refine c_if_f rfl (by omega) ?_)
  refine t_e (e_call0 rfl rfl (new_any _)) rfl rfl rfl ?_
  rintro v l' ⟨b, hb, rfl, rfl⟩
  repeat (first | (show OpsS _ _ _ _ _ _ (_ :: _) _ _ _; first | (apply t_h; (· first | (show OpQ _ _ _ _ _ ⟨_, .move _, _, _, _, _⟩ _; exact q_move rfl) | (show OpQ _ _ _ _ _ ⟨_, .assign _, _, _, _, _⟩ _; exact q_assign rfl) | (show OpQ _ _ _ _ _ ⟨_, .binOp .eql _ _ _ _, _, _, _, _⟩ _; first | exact q_eql rfl rfl | exact q_eqnil rfl rfl | exact q_eqb rfl rfl Try.underlying4) | (show OpQ _ _ _ _ _ ⟨_, .pick _ _ _, _, _, _, _⟩ _; first | exact q_pick_t rfl rfl | exact q_pick_f rfl rfl) | (show OpQ _ _ _ _ _ ⟨_, .extract _ _, _, _, _, _⟩ _; exact q_extract rfl rfl)); (· rfl); (· rfl); (· rfl)) | (refine t_hs rfl rfl rfl ?_) | (refine t_hs0 rfl rfl ?_) | (refine s_gif_t rfl rfl rfl rfl (by omega) ?_) | (refine s_gif_f rfl rfl rfl rfl (by omega) ?_)) | refine c_seq ?_ | refine p_then ?_ | refine c_region ?_ | refine s_nil ?_ | refine c_cond_t rfl ?_ | refine c_cond_f rfl ?_ | refine c_skip ?_ | refine c_ret ?_ | refine p_then_ret ?_ | refine p_end ?_ | refine c_if_t rfl (by omega) ?_ | refine c_if_f rfl (by omega) ?_)
  have H1 := addPool_any b ASt.zero 5
  rw [hp] at H1
  refine t_e (e_call rfl rfl (H1 _)) rfl rfl rfl ?_
  rintro v l' ⟨rfl, rfl⟩
  repeat (first | (show OpsS _ _ _ _ _ _ (_ :: _) _ _ _; first | (apply t_h; (· first | (show OpQ _ _ _ _ _ ⟨_, .move _, _, _, _, _⟩ _; exact q_move rfl) | (show OpQ _ _ _ _ _ ⟨_, .assign _, _, _, _, _⟩ _; exact q_assign rfl) | (show OpQ _ _ _ _ _ ⟨_, .binOp .eql _ _ _ _, _, _, _, _⟩ _; first | exact q_eql rfl rfl | exact q_eqnil rfl rfl | exact q_eqb rfl rfl Try.underlying4) | (show OpQ _ _ _ _ _ ⟨_, .pick _ _ _, _, _, _, _⟩ _; first | exact q_pick_t rfl rfl | exact q_pick_f rfl rfl) | (show OpQ _ _ _ _ _ ⟨_, .extract _ _, _, _, _, _⟩ _; exact q_extract rfl rfl)); (· rfl); (· rfl); (· rfl)) | (refine t_hs rfl rfl rfl ?_) | (refine t_hs0 rfl rfl ?_) | (refine s_gif_t rfl rfl rfl rfl (by omega) ?_) | (refine s_gif_f rfl rfl rfl rfl (by omega) ?_)) | refine c_seq ?_ | refine p_then ?_ | refine c_region ?_ | refine s_nil ?_ | refine c_cond_t rfl ?_ | refine c_cond_f rfl ?_ | refine c_skip ?_ | refine c_ret ?_ | refine p_then_ret ?_ | refine p_end ?_ | refine c_if_t rfl (by omega) ?_ | refine c_if_f rfl (by omega) ?_)
  have H2 := fun F => assign_any b s1 5 9 F hg
  rw [ha] at H2
  refine t_e (e_call rfl rfl (H2 _)) rfl rfl rfl ?_
  rintro v l' ⟨rfl, rfl⟩
  repeat (first | (show OpsS _ _ _ _ _ _ (_ :: _) _ _ _; first | (apply t_h; (· first | (show OpQ _ _ _ _ _ ⟨_, .move _, _, _, _, _⟩ _; exact q_move rfl) | (show OpQ _ _ _ _ _ ⟨_, .assign _, _, _, _, _⟩ _; exact q_assign rfl) | (show OpQ _ _ _ _ _ ⟨_, .binOp .eql _ _ _ _, _, _, _, _⟩ _; first | exact q_eql rfl rfl | exact q_eqnil rfl rfl | exact q_eqb rfl rfl Try.underlying4) | (show OpQ _ _ _ _ _ ⟨_, .pick _ _ _, _, _, _, _⟩ _; first | exact q_pick_t rfl rfl | exact q_pick_f rfl rfl) | (show OpQ _ _ _ _ _ ⟨_, .extract _ _, _, _, _, _⟩ _; exact q_extract rfl rfl)); (· rfl); (· rfl); (· rfl)) | (refine t_hs rfl rfl rfl ?_) | (refine t_hs0 rfl rfl ?_) | (refine s_gif_t rfl rfl rfl rfl (by omega) ?_) | (refine s_gif_f rfl rfl rfl rfl (by omega) ?_)) | refine c_seq ?_ | refine p_then ?_ | refine c_region ?_ | refine s_nil ?_ | refine c_cond_t rfl ?_ | refine c_cond_f rfl ?_ | refine c_skip ?_ | refine c_ret ?_ | refine p_then_ret ?_ | refine p_end ?_ | refine c_if_t rfl (by omega) ?_ | refine c_if_f rfl (by omega) ?_)
  have H3 := root_any b (s1.give 1 9) 1
  rw [hr] at H3
  refine t_q (q_call rfl rfl (fun l hl => H3 l (hl _ (by ((repeat (first | with_reducible apply List.mem_cons_self | with_reducible apply List.mem_cons_of_mem)); try with_reducible assumption))))) rfl rfl rfl ?_
  repeat (first | (show OpsS _ _ _ _ _ _ (_ :: _) _ _ _; first | (apply t_h; (· first | (show OpQ _ _ _ _ _ ⟨_, .move _, _, _, _, _⟩ _; exact q_move rfl) | (show OpQ _ _ _ _ _ ⟨_, .assign _, _, _, _, _⟩ _; exact q_assign rfl) | (show OpQ _ _ _ _ _ ⟨_, .binOp .eql _ _ _ _, _, _, _, _⟩ _; first | exact q_eql rfl rfl | exact q_eqnil rfl rfl | exact q_eqb rfl rfl Try.underlying4) | (show OpQ _ _ _ _ _ ⟨_, .pick _ _ _, _, _, _, _⟩ _; first | exact q_pick_t rfl rfl | exact q_pick_f rfl rfl) | (show OpQ _ _ _ _ _ ⟨_, .extract _ _, _, _, _, _⟩ _; exact q_extract rfl rfl)); (· rfl); (· rfl); (· rfl)) | (refine t_hs rfl rfl rfl ?_) | (refine t_hs0 rfl rfl ?_) | (refine s_gif_t rfl rfl rfl rfl (by omega) ?_) | (refine s_gif_f rfl rfl rfl rfl (by omega) ?_)) | refine c_seq ?_ | refine p_then ?_ | refine c_region ?_ | refine s_nil ?_ | refine c_cond_t rfl ?_ | refine c_cond_f rfl ?_ | refine c_skip ?_ | refine c_ret ?_ | refine p_then_ret ?_ | refine p_end ?_ | refine c_if_t rfl (by omega) ?_ | refine c_if_f rfl (by omega) ?_)
  exact k_ret [] rfl .refl (by (repeat (first | apply ResS.nil | (apply rs_tmp; (· rfl)) | (apply rs_cell1; (· rfl); (· ((repeat (first | with_reducible apply List.mem_cons_self | with_reducible apply List.mem_cons_of_mem)); try with_reducible assumption)); (· rfl)) | (apply rs_cellA; (· rfl); (· ((repeat (first | with_reducible apply List.mem_cons_self | with_reducible apply List.mem_cons_of_mem)); try with_reducible assumption)); (· (repeat (first | with_reducible apply LSub.done | with_reducible apply LSub.take | with_reducible apply LSub.drop))))))) ⟨rfl, _, rfl⟩
end Go.Proofs.Ytaomipfblcndlaa
