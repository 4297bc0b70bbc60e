/- awake. -/
import Derived.Test.YtegnnombkjmolaaW5
import Derived.Test.YtegnnombkjmolaaX0
set_option linter.unusedVariables false
set_option linter.unusedSimpArgs false
namespace Go.Proofs.Ytegnnombkjmolaa
open Go.RowKit

theorem len_upd {X : Nat → List Int} {N : Nat} (h : ∀ p, p < 8 → (X p).length ≤ N) (k : Nat) (v : List Int) (hv : v.length ≤ N) : ∀ p, p < 8 → (upd X k v p).length ≤ N := fun p hp => by
  unfold upd; split
  · exact hv
  · exact h p hp
theorem len_noX (N : Nat) : ∀ p, p < 8 → (noX p).length ≤ N := fun p _ => Nat.zero_le _
set_option pp.deepTerms false
set_option pp.deepTerms.threshold 4
set_option maxHeartbeats 400000
theorem awake_any (l : List Chunk) : Fn Try.prog 7 [] l fun v l' => v = .bool true ∧ ∃ c, l' = c ++ l := by
  have e1 : addQ noX 1 2 = (0, upd noX 2 [1]) := by rfl
  have e2 : addQ (upd noX 2 [1]) 2 5 = (0, upd (upd noX 2 [1]) 5 [2]) := by rfl
  have e3 : addQ (upd (upd noX 2 [1]) 5 [2]) 3 5 = (0, upd (upd (upd noX 2 [1]) 5 [2]) 5 [2, 3]) := by rfl
  rw [upd_upd] at e3
  have e4 : firstQ (upd (upd noX 2 [1]) 5 [2, 3]) = (2, true) := by rfl
  have e5 : backQ (upd (upd noX 2 [1]) 5 [2, 3]) 2 = (true, upd (upd (upd noX 2 [1]) 5 [2, 3]) 5 [3, 2]) := by rfl
  rw [upd_upd] at e5
  have e6 : allX (upd (upd noX 2 [1]) 5 [3, 2]) (fallT (neX (upd (upd noX 2 [1]) 5 [3, 2])) 0) = [3, 2, 1] := by rfl
  have l1 := len_upd (len_noX 1000000) 2 [1] (by simp)
  have l2 := len_upd l1 5 [2] (by simp)
  have l3 := len_upd l1 5 [2, 3] (by simp)
  have l4 := len_upd l1 5 [3, 2] (by simp)
  refine fn_of_body Try.func7 rfl rfl fun E => ?_
  simp only [argF, Try.ntmps7]
  repeat (first | (show OpsS _ _ _ _ _ _ (_ :: _) _ _ _; first | (apply t_h; (· first | (show OpQ _ _ _ _ _ ⟨_, .move _, _, _, _, _⟩ _; exact q_move rfl) | (show OpQ _ _ _ _ _ ⟨_, .assign _, _, _, _, _⟩ _; exact q_assign rfl) | (show OpQ _ _ _ _ _ ⟨_, .binOp .eql _ _ _ _, _, _, _, _⟩ _; first | exact q_eql rfl rfl | exact q_eqnil rfl rfl | exact q_eqb rfl rfl Try.underlying4) | (show OpQ _ _ _ _ _ ⟨_, .pick _ _ _, _, _, _, _⟩ _; first | exact q_pick_t rfl rfl | exact q_pick_f rfl rfl) | (show OpQ _ _ _ _ _ ⟨_, .extract _ _, _, _, _, _⟩ _; exact q_extract rfl rfl) | (show OpQ _ _ _ _ _ ⟨_, .binOp .neq _ _ _ _, _, _, _, _⟩ _; first | exact q_neq rfl rfl | exact q_nenil rfl rfl | exact q_neb rfl rfl Try.underlying4)); (· rfl); (· rfl); (· rfl)) | (refine t_hs rfl rfl rfl ?_) | (refine t_hs0 rfl rfl ?_) | (refine s_gif_t rfl rfl rfl rfl (by omega) ?_) | (refine s_gif_f rfl rfl rfl rfl (by omega) ?_)) | refine c_seq ?_ | refine p_then ?_ | refine c_region ?_ | refine s_nil ?_ | refine c_cond_t rfl ?_ | refine c_cond_f rfl ?_ | refine c_skip ?_ | refine c_ret ?_ | refine p_then_ret ?_ | refine p_end ?_ | refine c_if_t rfl (by omega) ?_ | refine c_if_f rfl (by omega) ?_)
  refine t_e (e_call0 rfl rfl (new_any _)) rfl rfl rfl ?_
  rintro _ _ ⟨b, rfl, lq, hq, rfl⟩
  repeat (first | (show OpsS _ _ _ _ _ _ (_ :: _) _ _ _; first | (apply t_h; (· first | (show OpQ _ _ _ _ _ ⟨_, .move _, _, _, _, _⟩ _; exact q_move rfl) | (show OpQ _ _ _ _ _ ⟨_, .assign _, _, _, _, _⟩ _; exact q_assign rfl) | (show OpQ _ _ _ _ _ ⟨_, .binOp .eql _ _ _ _, _, _, _, _⟩ _; first | exact q_eql rfl rfl | exact q_eqnil rfl rfl | exact q_eqb rfl rfl Try.underlying4) | (show OpQ _ _ _ _ _ ⟨_, .pick _ _ _, _, _, _, _⟩ _; first | exact q_pick_t rfl rfl | exact q_pick_f rfl rfl) | (show OpQ _ _ _ _ _ ⟨_, .extract _ _, _, _, _, _⟩ _; exact q_extract rfl rfl) | (show OpQ _ _ _ _ _ ⟨_, .binOp .neq _ _ _ _, _, _, _, _⟩ _; first | exact q_neq rfl rfl | exact q_nenil rfl rfl | exact q_neb rfl rfl Try.underlying4)); (· rfl); (· rfl); (· rfl)) | (refine t_hs rfl rfl rfl ?_) | (refine t_hs0 rfl rfl ?_) | (refine s_gif_t rfl rfl rfl rfl (by omega) ?_) | (refine s_gif_f rfl rfl rfl rfl (by omega) ?_)) | refine c_seq ?_ | refine p_then ?_ | refine c_region ?_ | refine s_nil ?_ | refine c_cond_t rfl ?_ | refine c_cond_f rfl ?_ | refine c_skip ?_ | refine c_ret ?_ | refine p_then_ret ?_ | refine p_end ?_ | refine c_if_t rfl (by omega) ?_ | refine c_if_f rfl (by omega) ?_)
  have H1 := add_any b noX lq 1 2 hq (len_noX _) l
  rw [e1] at H1
  refine t_eh (e_call rfl rfl H1) rfl rfl rfl ?_
  rintro _ _ ⟨rfl, lq1, hq1, rfl⟩
  clear hq H1
  repeat (first | (show OpsS _ _ _ _ _ _ (_ :: _) _ _ _; first | (apply t_h; (· first | (show OpQ _ _ _ _ _ ⟨_, .move _, _, _, _, _⟩ _; exact q_move rfl) | (show OpQ _ _ _ _ _ ⟨_, .assign _, _, _, _, _⟩ _; exact q_assign rfl) | (show OpQ _ _ _ _ _ ⟨_, .binOp .eql _ _ _ _, _, _, _, _⟩ _; first | exact q_eql rfl rfl | exact q_eqnil rfl rfl | exact q_eqb rfl rfl Try.underlying4) | (show OpQ _ _ _ _ _ ⟨_, .pick _ _ _, _, _, _, _⟩ _; first | exact q_pick_t rfl rfl | exact q_pick_f rfl rfl) | (show OpQ _ _ _ _ _ ⟨_, .extract _ _, _, _, _, _⟩ _; exact q_extract rfl rfl) | (show OpQ _ _ _ _ _ ⟨_, .binOp .neq _ _ _ _, _, _, _, _⟩ _; first | exact q_neq rfl rfl | exact q_nenil rfl rfl | exact q_neb rfl rfl Try.underlying4)); (· rfl); (· rfl); (· rfl)) | (refine t_hs rfl rfl rfl ?_) | (refine t_hs0 rfl rfl ?_) | (refine s_gif_t rfl rfl rfl rfl (by omega) ?_) | (refine s_gif_f rfl rfl rfl rfl (by omega) ?_)) | refine c_seq ?_ | refine p_then ?_ | refine c_region ?_ | refine s_nil ?_ | refine c_cond_t rfl ?_ | refine c_cond_f rfl ?_ | refine c_skip ?_ | refine c_ret ?_ | refine p_then_ret ?_ | refine p_end ?_ | refine c_if_t rfl (by omega) ?_ | refine c_if_f rfl (by omega) ?_)
  have H1 := add_any b _ lq1 2 5 hq1 l1 l
  dsimp only at H1
  rw [e2] at H1
  refine t_eh (e_call rfl rfl H1) rfl rfl rfl ?_
  rintro _ _ ⟨rfl, lq2, hq2, rfl⟩
  clear hq1 H1
  repeat (first | (show OpsS _ _ _ _ _ _ (_ :: _) _ _ _; first | (apply t_h; (· first | (show OpQ _ _ _ _ _ ⟨_, .move _, _, _, _, _⟩ _; exact q_move rfl) | (show OpQ _ _ _ _ _ ⟨_, .assign _, _, _, _, _⟩ _; exact q_assign rfl) | (show OpQ _ _ _ _ _ ⟨_, .binOp .eql _ _ _ _, _, _, _, _⟩ _; first | exact q_eql rfl rfl | exact q_eqnil rfl rfl | exact q_eqb rfl rfl Try.underlying4) | (show OpQ _ _ _ _ _ ⟨_, .pick _ _ _, _, _, _, _⟩ _; first | exact q_pick_t rfl rfl | exact q_pick_f rfl rfl) | (show OpQ _ _ _ _ _ ⟨_, .extract _ _, _, _, _, _⟩ _; exact q_extract rfl rfl) | (show OpQ _ _ _ _ _ ⟨_, .binOp .neq _ _ _ _, _, _, _, _⟩ _; first | exact q_neq rfl rfl | exact q_nenil rfl rfl | exact q_neb rfl rfl Try.underlying4)); (· rfl); (· rfl); (· rfl)) | (refine t_hs rfl rfl rfl ?_) | (refine t_hs0 rfl rfl ?_) | (refine s_gif_t rfl rfl rfl rfl (by omega) ?_) | (refine s_gif_f rfl rfl rfl rfl (by omega) ?_)) | refine c_seq ?_ | refine p_then ?_ | refine c_region ?_ | refine s_nil ?_ | refine c_cond_t rfl ?_ | refine c_cond_f rfl ?_ | refine c_skip ?_ | refine c_ret ?_ | refine p_then_ret ?_ | refine p_end ?_ | refine c_if_t rfl (by omega) ?_ | refine c_if_f rfl (by omega) ?_)
  have H1 := add_any b _ lq2 3 5 hq2 l2 l
  dsimp only at H1
  rw [e3] at H1
  refine t_eh (e_call rfl rfl H1) rfl rfl rfl ?_
  rintro _ _ ⟨rfl, lq3, hq3, rfl⟩
  clear hq2 H1
  repeat (first | (show OpsS _ _ _ _ _ _ (_ :: _) _ _ _; first | (apply t_h; (· first | (show OpQ _ _ _ _ _ ⟨_, .move _, _, _, _, _⟩ _; exact q_move rfl) | (show OpQ _ _ _ _ _ ⟨_, .assign _, _, _, _, _⟩ _; exact q_assign rfl) | (show OpQ _ _ _ _ _ ⟨_, .binOp .eql _ _ _ _, _, _, _, _⟩ _; first | exact q_eql rfl rfl | exact q_eqnil rfl rfl | exact q_eqb rfl rfl Try.underlying4) | (show OpQ _ _ _ _ _ ⟨_, .pick _ _ _, _, _, _, _⟩ _; first | exact q_pick_t rfl rfl | exact q_pick_f rfl rfl) | (show OpQ _ _ _ _ _ ⟨_, .extract _ _, _, _, _, _⟩ _; exact q_extract rfl rfl) | (show OpQ _ _ _ _ _ ⟨_, .binOp .neq _ _ _ _, _, _, _, _⟩ _; first | exact q_neq rfl rfl | exact q_nenil rfl rfl | exact q_neb rfl rfl Try.underlying4)); (· rfl); (· rfl); (· rfl)) | (refine t_hs rfl rfl rfl ?_) | (refine t_hs0 rfl rfl ?_) | (refine s_gif_t rfl rfl rfl rfl (by omega) ?_) | (refine s_gif_f rfl rfl rfl rfl (by omega) ?_)) | refine c_seq ?_ | refine p_then ?_ | refine c_region ?_ | refine s_nil ?_ | refine c_cond_t rfl ?_ | refine c_cond_f rfl ?_ | refine c_skip ?_ | refine c_ret ?_ | refine p_then_ret ?_ | refine p_end ?_ | refine c_if_t rfl (by omega) ?_ | refine c_if_f rfl (by omega) ?_)
  have H1 := first_any b _ lq3 hq3
  dsimp only at H1
  rw [e4] at H1
  refine t_q (q_call rfl rfl (fun l2 hl => H1 l2 fun c hc => hl c (List.mem_append_left _ hc))) rfl rfl rfl ?_
  clear H1
  repeat (first | (show OpsS _ _ _ _ _ _ (_ :: _) _ _ _; first | (apply t_h; (· first | (show OpQ _ _ _ _ _ ⟨_, .move _, _, _, _, _⟩ _; exact q_move rfl) | (show OpQ _ _ _ _ _ ⟨_, .assign _, _, _, _, _⟩ _; exact q_assign rfl) | (show OpQ _ _ _ _ _ ⟨_, .binOp .eql _ _ _ _, _, _, _, _⟩ _; first | exact q_eql rfl rfl | exact q_eqnil rfl rfl | exact q_eqb rfl rfl Try.underlying4) | (show OpQ _ _ _ _ _ ⟨_, .pick _ _ _, _, _, _, _⟩ _; first | exact q_pick_t rfl rfl | exact q_pick_f rfl rfl) | (show OpQ _ _ _ _ _ ⟨_, .extract _ _, _, _, _, _⟩ _; exact q_extract rfl rfl) | (show OpQ _ _ _ _ _ ⟨_, .binOp .neq _ _ _ _, _, _, _, _⟩ _; first | exact q_neq rfl rfl | exact q_nenil rfl rfl | exact q_neb rfl rfl Try.underlying4)); (· rfl); (· rfl); (· rfl)) | (refine t_hs rfl rfl rfl ?_) | (refine t_hs0 rfl rfl ?_) | (refine s_gif_t rfl rfl rfl rfl (by omega) ?_) | (refine s_gif_f rfl rfl rfl rfl (by omega) ?_)) | refine c_seq ?_ | refine p_then ?_ | refine c_region ?_ | refine s_nil ?_ | refine c_cond_t rfl ?_ | refine c_cond_f rfl ?_ | refine c_skip ?_ | refine c_ret ?_ | refine p_then_ret ?_ | refine p_end ?_ | refine c_if_t rfl (by omega) ?_ | refine c_if_f rfl (by omega) ?_)
  have H1 := back_any b _ lq3 2 hq3 l3 l
  dsimp only at H1
  rw [e5] at H1
  refine t_eh (e_call rfl rfl H1) rfl rfl rfl ?_
  rintro _ _ ⟨rfl, lq4, hq4, rfl⟩
  clear hq3 H1
  repeat (first | (show OpsS _ _ _ _ _ _ (_ :: _) _ _ _; first | (apply t_h; (· first | (show OpQ _ _ _ _ _ ⟨_, .move _, _, _, _, _⟩ _; exact q_move rfl) | (show OpQ _ _ _ _ _ ⟨_, .assign _, _, _, _, _⟩ _; exact q_assign rfl) | (show OpQ _ _ _ _ _ ⟨_, .binOp .eql _ _ _ _, _, _, _, _⟩ _; first | exact q_eql rfl rfl | exact q_eqnil rfl rfl | exact q_eqb rfl rfl Try.underlying4) | (show OpQ _ _ _ _ _ ⟨_, .pick _ _ _, _, _, _, _⟩ _; first | exact q_pick_t rfl rfl | exact q_pick_f rfl rfl) | (show OpQ _ _ _ _ _ ⟨_, .extract _ _, _, _, _, _⟩ _; exact q_extract rfl rfl) | (show OpQ _ _ _ _ _ ⟨_, .binOp .neq _ _ _ _, _, _, _, _⟩ _; first | exact q_neq rfl rfl | exact q_nenil rfl rfl | exact q_neb rfl rfl Try.underlying4)); (· rfl); (· rfl); (· rfl)) | (refine t_hs rfl rfl rfl ?_) | (refine t_hs0 rfl rfl ?_) | (refine s_gif_t rfl rfl rfl rfl (by omega) ?_) | (refine s_gif_f rfl rfl rfl rfl (by omega) ?_)) | refine c_seq ?_ | refine p_then ?_ | refine c_region ?_ | refine s_nil ?_ | refine c_cond_t rfl ?_ | refine c_cond_f rfl ?_ | refine c_skip ?_ | refine c_ret ?_ | refine p_then_ret ?_ | refine p_end ?_ | refine c_if_t rfl (by omega) ?_ | refine c_if_f rfl (by omega) ?_)
  have H1 := all_any b _ lq4 hq4 l4 (lq4 ++ l) fun c hc => List.mem_append_left _ hc
  dsimp only at H1
  rw [e6] at H1
  refine t_eh (e_call rfl rfl H1) rfl rfl rfl ?_
  rintro v _ ⟨cs, ho, rfl⟩
  clear hq4 H1
  repeat (first | (show OpsS _ _ _ _ _ _ (_ :: _) _ _ _; first | (apply t_h; (· first | (show OpQ _ _ _ _ _ ⟨_, .move _, _, _, _, _⟩ _; exact q_move rfl) | (show OpQ _ _ _ _ _ ⟨_, .assign _, _, _, _, _⟩ _; exact q_assign rfl) | (show OpQ _ _ _ _ _ ⟨_, .binOp .eql _ _ _ _, _, _, _, _⟩ _; first | exact q_eql rfl rfl | exact q_eqnil rfl rfl | exact q_eqb rfl rfl Try.underlying4) | (show OpQ _ _ _ _ _ ⟨_, .pick _ _ _, _, _, _, _⟩ _; first | exact q_pick_t rfl rfl | exact q_pick_f rfl rfl) | (show OpQ _ _ _ _ _ ⟨_, .extract _ _, _, _, _, _⟩ _; exact q_extract rfl rfl) | (show OpQ _ _ _ _ _ ⟨_, .binOp .neq _ _ _ _, _, _, _, _⟩ _; first | exact q_neq rfl rfl | exact q_nenil rfl rfl | exact q_neb rfl rfl Try.underlying4)); (· rfl); (· rfl); (· rfl)) | (refine t_hs rfl rfl rfl ?_) | (refine t_hs0 rfl rfl ?_) | (refine s_gif_t rfl rfl rfl rfl (by omega) ?_) | (refine s_gif_f rfl rfl rfl rfl (by omega) ?_)) | refine c_seq ?_ | refine p_then ?_ | refine c_region ?_ | refine s_nil ?_ | refine c_cond_t rfl ?_ | refine c_cond_f rfl ?_ | refine c_skip ?_ | refine c_ret ?_ | refine p_then_ret ?_ | refine p_end ?_ | refine c_if_t rfl (by omega) ?_ | refine c_if_f rfl (by omega) ?_)
  apply t_eh
  · apply e_litN (z0 := .int .i64 0) (cs := [.int .i64 3, .int .i64 2, .int .i64 1])
    · rfl
    · decide
    · decide
    · rfl
  · rfl
  · rfl
  · rfl
  rintro _ _ ⟨bl, hbl, rfl, rfl⟩
  have hL : OwnSl 3 1 (.slice (some ⟨bl, 0, none⟩) 3 3) ([3, 2, 1] : List Int).length (([3, 2, 1] : List Int).map intV) [(bl, .cells (List.toArray (([3, 2, 1] : List Int).map intV)) 3 (0, 0))] := OwnSl.lit (by decide) rfl (by decide)
  refine t_h (q_call rfl rfl (fun l2 hl => sameInts_any _ _ [3, 2, 1] [3, 2, 1] l2 (ho.ints fun c hc => hl c (List.mem_cons_of_mem _ (List.mem_append_left _ hc))) (hL.ints fun c hc => hl c (List.mem_cons.2 (.inl (List.mem_singleton.1 hc)))) (by decide))) rfl rfl rfl ?_
  rw [decide_eq_true (rfl : ([3, 2, 1] : List Int) = [3, 2, 1])]
  repeat (first | (show OpsS _ _ _ _ _ _ (_ :: _) _ _ _; first | (apply t_h; (· first | (show OpQ _ _ _ _ _ ⟨_, .move _, _, _, _, _⟩ _; exact q_move rfl) | (show OpQ _ _ _ _ _ ⟨_, .assign _, _, _, _, _⟩ _; exact q_assign rfl) | (show OpQ _ _ _ _ _ ⟨_, .binOp .eql _ _ _ _, _, _, _, _⟩ _; first | exact q_eql rfl rfl | exact q_eqnil rfl rfl | exact q_eqb rfl rfl Try.underlying4) | (show OpQ _ _ _ _ _ ⟨_, .pick _ _ _, _, _, _, _⟩ _; first | exact q_pick_t rfl rfl | exact q_pick_f rfl rfl) | (show OpQ _ _ _ _ _ ⟨_, .extract _ _, _, _, _, _⟩ _; exact q_extract rfl rfl) | (show OpQ _ _ _ _ _ ⟨_, .binOp .neq _ _ _ _, _, _, _, _⟩ _; first | exact q_neq rfl rfl | exact q_nenil rfl rfl | exact q_neb rfl rfl Try.underlying4)); (· rfl); (· rfl); (· rfl)) | (refine t_hs rfl rfl rfl ?_) | (refine t_hs0 rfl rfl ?_) | (refine s_gif_t rfl rfl rfl rfl (by omega) ?_) | (refine s_gif_f rfl rfl rfl rfl (by omega) ?_)) | refine c_seq ?_ | refine p_then ?_ | refine c_region ?_ | refine s_nil ?_ | refine c_cond_t rfl ?_ | refine c_cond_f rfl ?_ | refine c_skip ?_ | refine c_ret ?_ | refine p_then_ret ?_ | refine p_end ?_ | refine c_if_t rfl (by omega) ?_ | refine c_if_f rfl (by omega) ?_)
  exact k_ret [] rfl .refl (by (repeat (first | apply ResS.nil | (apply rs_tmp; (· rfl)) | (apply rs_cell1; (· rfl); (· ((repeat (first | with_reducible apply List.mem_cons_self | with_reducible apply List.mem_cons_of_mem)); try with_reducible assumption)); (· rfl)) | (apply rs_cellA; (· rfl); (· ((repeat (first | with_reducible apply List.mem_cons_self | with_reducible apply List.mem_cons_of_mem)); try with_reducible assumption)); (· (repeat (first | with_reducible apply LSub.done | with_reducible apply LSub.take | with_reducible apply LSub.drop))))))) ⟨rfl, _ :: (cs ++ lq4), by rw [List.cons_append, List.append_assoc]⟩
end Go.Proofs.Ytegnnombkjmolaa
