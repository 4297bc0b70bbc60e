/- The tree: a tree behind acts. -/
import Derived.Test.YtidkpfkkljcnaaaU0
import Derived.Test.YtidkpfkkljcnaaaJ11
import Derived.Test.YtidkpfkkljcnaaaJ12
import Derived.Test.YtidkpfkkljcnaaaX2
set_option linter.unusedVariables false
set_option linter.unusedSimpArgs false
namespace Go.Proofs.Ytidkpfkkljcnaaa
open Go.RowKit

theorem acts_rows {W : World} {a : Option Addr} {n cap : Nat} {rows : List (List Value)} (h : IsRows [some .i64, some .i64, some .i64, some .i64, some .i64] W a n cap rows) : ∃ acts : List ActT, acts.length = n ∧ InRows (allOf W) a n 5 (acts.map encA) := by
  obtain ⟨acts, hx⟩ := acts_of (rows := rows) fun r hr => by
    obtain ⟨_, _, rfl, ⟨d, rfl, _⟩, _, _, rfl, ⟨a1, rfl, _⟩, _, _, rfl, ⟨a2, rfl, _⟩, _, _, rfl, ⟨b1, rfl, _⟩, _, _, rfl, ⟨b2, rfl, _⟩, rfl⟩ := h.all r hr
    exact ⟨(d, (a1, a2), (b1, b2)), rfl⟩
  refine ⟨acts, ?_, ?_⟩
  · have := h.size; rw [hx] at this; simpa using this
  · rw [← hx]; exact rows_in h (by decide)
abbrev acC (B : Nat) (x : ActT) : Chunk := (B, .cells (List.toArray (encA x)) 51 (0, 0))
set_option pp.deepTerms false
set_option pp.deepTerms.threshold 4
set_option maxHeartbeats 400000
theorem played_any (a : Option Addr) (n cap : Nat) (acts : List ActT) (l : List Chunk) (hin : InRows l a n 5 (acts.map encA)) (hsz : acts.length = n) (hn : n ≤ 1000) :
    Fn Try.prog 11 [.slice a n cap] l fun v l' => ∃ b, v = .pointer (some ⟨b, 0, none⟩) ∧ ∃ lq, IsT b (playD acts) lq ∧ l' = lq ++ l := by
  refine fn_of_body Try.func11 rfl rfl fun E => ?_
  simp only [argF, Try.ntmps11]
  repeat (first | (show OpsS _ _ _ _ _ _ (_ :: _) _ _ _; first | refine ozq ?_ | refine ozs ?_ | refine ozs0 ?_ | refine ozt ?_ | refine ozf ?_ | refine ozn ?_) | refine c_seq ?_ | refine p_then ?_ | refine c_region ?_ | refine s_nil ?_ | refine c_cond_t rfl ?_ | refine c_cond_f rfl ?_ | refine c_block ?_ | refine c_skip ?_ | refine c_exit ?_ | refine p_block ?_ | refine p_then_exit ?_ | refine p_block_here ?_ | refine p_block_on rfl ?_ | refine c_ret ?_ | refine p_then_ret ?_ | refine p_block_ret ?_ | refine p_end ?_ | refine c_if_t rfl (by omega) ?_ | refine c_if_f rfl (by omega) ?_)
  refine t_e (e_call0 rfl rfl (new_any _)) rfl rfl rfl ?_
  rintro _ _ ⟨b, rfl, lq, hq, rfl⟩
  repeat (first | (show OpsS _ _ _ _ _ _ (_ :: _) _ _ _; first | refine ozq ?_ | refine ozs ?_ | refine ozs0 ?_ | refine ozt ?_ | refine ozf ?_ | refine ozn ?_) | refine c_seq ?_ | refine p_then ?_ | refine c_region ?_ | refine s_nil ?_ | refine c_cond_t rfl ?_ | refine c_cond_f rfl ?_ | refine c_block ?_ | refine c_skip ?_ | refine c_exit ?_ | refine p_block ?_ | refine p_then_exit ?_ | refine p_block_here ?_ | refine p_block_on rfl ?_ | refine c_ret ?_ | refine p_then_ret ?_ | refine p_block_ret ?_ | refine p_end ?_ | refine c_if_t rfl (by omega) ?_ | refine c_if_f rfl (by omega) ?_)
  refine k_loop (α := Nat × List Chunk) (fun x => [(0, .slice a n cap), (3, .pointer (some ⟨b, 0, none⟩)), (4, .int .i64 x.1)]) (fun x => x.2 ++ l) (fun x => x.1 ≤ n ∧ IsT b (playD (acts.take x.1)) x.2) (fun x => n - x.1) (0, lq) ⟨Nat.zero_le _, hq⟩ ⟨rfl, rfl, rfl, trivial⟩ .refl ?_
  clear hq
  rintro ⟨i, lq⟩ ⟨hi, hq⟩
  simp only at hi hq ⊢
  by_cases hlt : i < n
  · obtain ⟨bB, off, xs, t, fz, rfl, hm, hxs⟩ := hin (by omega)
    obtain ⟨x, hx⟩ : ∃ x, acts[i]? = some x := ⟨_, List.getElem?_eq_getElem (by omega)⟩
    have ht : playD (acts.take (i + 1)) = actD (playD (acts.take i)) x := by
      rw [List.take_add_one, hx]; exact playD_snoc _ _
    obtain ⟨hx1, hx2, _⟩ := hxs i (encA x) (by rw [List.getElem?_map, hx]; rfl)
    have hm' : (bB, Obj.cells xs t fz) ∈ lq ++ l := List.mem_append_right _ hm
    have hG := good_play (acts.take i)
    have hSm := hG.small (by simp; omega)
    obtain ⟨D, hD⟩ : ∃ D, D = playD (acts.take i) := ⟨_, rfl⟩
    rw [← hD] at hq ht hSm
    obtain ⟨dd, A, B⟩ := x
    repeat (first | (show OpsS _ _ _ _ _ _ (_ :: _) _ _ _; first | refine ozq ?_ | refine ozs ?_ | refine ozs0 ?_ | refine ozt ?_ | refine ozf ?_ | refine ozn ?_) | refine c_seq ?_ | refine p_then ?_ | refine c_region ?_ | refine s_nil ?_ | refine c_cond_t rfl ?_ | refine c_cond_f rfl ?_ | refine c_block ?_ | refine c_skip ?_ | refine c_exit ?_ | refine p_block ?_ | refine p_then_exit ?_ | refine p_block_here ?_ | refine p_block_on rfl ?_ | refine c_ret ?_ | refine p_then_ret ?_ | refine p_block_ret ?_ | refine p_end ?_ | refine c_if_t rfl (by omega) ?_ | refine c_if_f rfl (by omega) ?_)
    refine t_q (q_loadA rfl hm' hx1 hx2) rfl rfl rfl ?_
    repeat (first | (show OpsS _ _ _ _ _ _ (_ :: _) _ _ _; first | refine ozq ?_ | refine ozs ?_ | refine ozs0 ?_ | refine ozt ?_ | refine ozf ?_ | refine ozn ?_) | refine c_seq ?_ | refine p_then ?_ | refine c_region ?_ | refine s_nil ?_ | refine c_cond_t rfl ?_ | refine c_cond_f rfl ?_ | refine c_block ?_ | refine c_skip ?_ | refine c_exit ?_ | refine p_block ?_ | refine p_then_exit ?_ | refine p_block_here ?_ | refine p_block_on rfl ?_ | refine c_ret ?_ | refine p_then_ret ?_ | refine p_block_ret ?_ | refine p_end ?_ | refine c_if_t rfl (by omega) ?_ | refine c_if_f rfl (by omega) ?_)
    refine t_e e_alloc rfl rfl rfl ?_; rintro _ _ ⟨b6, _, rfl, rfl⟩
    unfold actD at ht
    dsimp only at ht
    iterate 8 (first | (show OpsS _ _ _ _ _ _ (_ :: _) _ _ _; first | refine ozq ?_ | refine ozs ?_ | refine ozs0 ?_ | refine ozt ?_ | refine ozf ?_ | refine ozn ?_) | refine c_seq ?_ | refine p_then ?_ | refine c_region ?_ | refine s_nil ?_ | refine c_cond_t rfl ?_ | refine c_cond_f rfl ?_ | refine c_block ?_ | refine c_skip ?_ | refine c_exit ?_ | refine p_block ?_ | refine p_then_exit ?_ | refine p_block_here ?_ | refine p_block_on rfl ?_ | refine c_ret ?_ | refine p_then_ret ?_ | refine p_block_ret ?_ | refine p_end ?_ | refine c_if_t rfl (by omega) ?_ | refine c_if_f rfl (by omega) ?_)
    by_cases hd0 : dd = 0
    · rw [if_pos hd0] at ht
      repeat (first | (show OpsS _ _ _ _ _ _ (_ :: _) _ _ _; first | refine ozq ?_ | refine ozs ?_ | refine ozs0 ?_ | refine ozt ?_ | refine ozf ?_ | refine ozn ?_) | refine c_seq ?_ | refine p_then ?_ | refine c_region ?_ | refine s_nil ?_ | refine c_cond_t rfl ?_ | refine c_cond_f rfl ?_ | refine c_block ?_ | refine c_skip ?_ | refine c_exit ?_ | refine p_block ?_ | refine p_then_exit ?_ | refine p_block_here ?_ | refine p_block_on rfl ?_ | refine c_ret ?_ | refine p_then_ret ?_ | refine p_block_ret ?_ | refine p_end ?_ | refine c_if_t rfl (by omega) ?_ | refine c_if_f rfl (by omega) ?_)
      refine t_e (e_call0 rfl rfl (Fn.mv (root_any b D lq hq A (acC b6 (dd, A, B) :: l)))) rfl rfl rfl ?_
      rintro _ _ ⟨rfl, lq1, hq1, rfl⟩
      repeat (first | (show OpsS _ _ _ _ _ _ (_ :: _) _ _ _; first | refine ozq ?_ | refine ozs ?_ | refine ozs0 ?_ | refine ozt ?_ | refine ozf ?_ | refine ozn ?_) | refine c_seq ?_ | refine p_then ?_ | refine c_region ?_ | refine s_nil ?_ | refine c_cond_t rfl ?_ | refine c_cond_f rfl ?_ | refine c_block ?_ | refine c_skip ?_ | refine c_exit ?_ | refine p_block ?_ | refine p_then_exit ?_ | refine p_block_here ?_ | refine p_block_on rfl ?_ | refine c_ret ?_ | refine p_then_ret ?_ | refine p_block_ret ?_ | refine p_end ?_ | refine c_if_t rfl (by omega) ?_ | refine c_if_f rfl (by omega) ?_)
      exact k_next (i + 1, lq1) ⟨by omega, by rw [ht]; exact hq1⟩ (by simp only; omega) ⟨rfl, rfl, rfl, trivial⟩ (.drop .refl)
    rw [if_neg hd0] at ht
    by_cases hd1 : dd = 1
    · rw [if_pos hd1] at ht
      repeat (first | (show OpsS _ _ _ _ _ _ (_ :: _) _ _ _; first | refine ozq ?_ | refine ozs ?_ | refine ozs0 ?_ | refine ozt ?_ | refine ozf ?_ | refine ozn ?_) | refine c_seq ?_ | refine p_then ?_ | refine c_region ?_ | refine s_nil ?_ | refine c_cond_t rfl ?_ | refine c_cond_f rfl ?_ | refine c_block ?_ | refine c_skip ?_ | refine c_exit ?_ | refine p_block ?_ | refine p_then_exit ?_ | refine p_block_here ?_ | refine p_block_on rfl ?_ | refine c_ret ?_ | refine p_then_ret ?_ | refine p_block_ret ?_ | refine p_end ?_ | refine c_if_t rfl (by omega) ?_ | refine c_if_f rfl (by omega) ?_)
      refine t_e (e_call0 rfl rfl (Fn.mv (child_any b D lq hq hSm A B (acC b6 (dd, A, B) :: l)))) rfl rfl rfl ?_
      rintro _ _ ⟨rfl, lq1, hq1, rfl⟩
      repeat (first | (show OpsS _ _ _ _ _ _ (_ :: _) _ _ _; first | refine ozq ?_ | refine ozs ?_ | refine ozs0 ?_ | refine ozt ?_ | refine ozf ?_ | refine ozn ?_) | refine c_seq ?_ | refine p_then ?_ | refine c_region ?_ | refine s_nil ?_ | refine c_cond_t rfl ?_ | refine c_cond_f rfl ?_ | refine c_block ?_ | refine c_skip ?_ | refine c_exit ?_ | refine p_block ?_ | refine p_then_exit ?_ | refine p_block_here ?_ | refine p_block_on rfl ?_ | refine c_ret ?_ | refine p_then_ret ?_ | refine p_block_ret ?_ | refine p_end ?_ | refine c_if_t rfl (by omega) ?_ | refine c_if_f rfl (by omega) ?_)
      exact k_next (i + 1, lq1) ⟨by omega, by rw [ht]; exact hq1⟩ (by simp only; omega) ⟨rfl, rfl, rfl, trivial⟩ (.drop .refl)
    rw [if_neg hd1] at ht
    by_cases hd2 : dd = 2
    · rw [if_pos hd2] at ht
      repeat (first | (show OpsS _ _ _ _ _ _ (_ :: _) _ _ _; first | refine ozq ?_ | refine ozs ?_ | refine ozs0 ?_ | refine ozt ?_ | refine ozf ?_ | refine ozn ?_) | refine c_seq ?_ | refine p_then ?_ | refine c_region ?_ | refine s_nil ?_ | refine c_cond_t rfl ?_ | refine c_cond_f rfl ?_ | refine c_block ?_ | refine c_skip ?_ | refine c_exit ?_ | refine p_block ?_ | refine p_then_exit ?_ | refine p_block_here ?_ | refine p_block_on rfl ?_ | refine c_ret ?_ | refine p_then_ret ?_ | refine p_block_ret ?_ | refine p_end ?_ | refine c_if_t rfl (by omega) ?_ | refine c_if_f rfl (by omega) ?_)
      refine t_e (e_call0 rfl rfl (Fn.mv (remove_any b D lq hq hSm A (acC b6 (dd, A, B) :: l)))) rfl rfl rfl ?_
      rintro _ _ ⟨rfl, lq1, hq1, rfl⟩
      repeat (first | (show OpsS _ _ _ _ _ _ (_ :: _) _ _ _; first | refine ozq ?_ | refine ozs ?_ | refine ozs0 ?_ | refine ozt ?_ | refine ozf ?_ | refine ozn ?_) | refine c_seq ?_ | refine p_then ?_ | refine c_region ?_ | refine s_nil ?_ | refine c_cond_t rfl ?_ | refine c_cond_f rfl ?_ | refine c_block ?_ | refine c_skip ?_ | refine c_exit ?_ | refine p_block ?_ | refine p_then_exit ?_ | refine p_block_here ?_ | refine p_block_on rfl ?_ | refine c_ret ?_ | refine p_then_ret ?_ | refine p_block_ret ?_ | refine p_end ?_ | refine c_if_t rfl (by omega) ?_ | refine c_if_f rfl (by omega) ?_)
      exact k_next (i + 1, lq1) ⟨by omega, by rw [ht]; exact hq1⟩ (by simp only; omega) ⟨rfl, rfl, rfl, trivial⟩ (.drop .refl)
    rw [if_neg hd2] at ht
    by_cases hd3 : dd = 3
    · rw [if_pos hd3] at ht
      repeat (first | (show OpsS _ _ _ _ _ _ (_ :: _) _ _ _; first | refine ozq ?_ | refine ozs ?_ | refine ozs0 ?_ | refine ozt ?_ | refine ozf ?_ | refine ozn ?_) | refine c_seq ?_ | refine p_then ?_ | refine c_region ?_ | refine s_nil ?_ | refine c_cond_t rfl ?_ | refine c_cond_f rfl ?_ | refine c_block ?_ | refine c_skip ?_ | refine c_exit ?_ | refine p_block ?_ | refine p_then_exit ?_ | refine p_block_here ?_ | refine p_block_on rfl ?_ | refine c_ret ?_ | refine p_then_ret ?_ | refine p_block_ret ?_ | refine p_end ?_ | refine c_if_t rfl (by omega) ?_ | refine c_if_f rfl (by omega) ?_)
      refine t_e (e_call0 rfl rfl (Fn.mv (move_any b D lq hq A B (acC b6 (dd, A, B) :: l)))) rfl rfl rfl ?_
      rintro _ _ ⟨rfl, lq1, hq1, rfl⟩
      repeat (first | (show OpsS _ _ _ _ _ _ (_ :: _) _ _ _; first | refine ozq ?_ | refine ozs ?_ | refine ozs0 ?_ | refine ozt ?_ | refine ozf ?_ | refine ozn ?_) | refine c_seq ?_ | refine p_then ?_ | refine c_region ?_ | refine s_nil ?_ | refine c_cond_t rfl ?_ | refine c_cond_f rfl ?_ | refine c_block ?_ | refine c_skip ?_ | refine c_exit ?_ | refine p_block ?_ | refine p_then_exit ?_ | refine p_block_here ?_ | refine p_block_on rfl ?_ | refine c_ret ?_ | refine p_then_ret ?_ | refine p_block_ret ?_ | refine p_end ?_ | refine c_if_t rfl (by omega) ?_ | refine c_if_f rfl (by omega) ?_)
      exact k_next (i + 1, lq1) ⟨by omega, by rw [ht]; exact hq1⟩ (by simp only; omega) ⟨rfl, rfl, rfl, trivial⟩ (.drop .refl)
    rw [if_neg hd3] at ht
    by_cases hd4 : dd = 4
    · rw [if_pos hd4] at ht
      repeat (first | (show OpsS _ _ _ _ _ _ (_ :: _) _ _ _; first | refine ozq ?_ | refine ozs ?_ | refine ozs0 ?_ | refine ozt ?_ | refine ozf ?_ | refine ozn ?_) | refine c_seq ?_ | refine p_then ?_ | refine c_region ?_ | refine s_nil ?_ | refine c_cond_t rfl ?_ | refine c_cond_f rfl ?_ | refine c_block ?_ | refine c_skip ?_ | refine c_exit ?_ | refine p_block ?_ | refine p_then_exit ?_ | refine p_block_here ?_ | refine p_block_on rfl ?_ | refine c_ret ?_ | refine p_then_ret ?_ | refine p_block_ret ?_ | refine p_end ?_ | refine c_if_t rfl (by omega) ?_ | refine c_if_f rfl (by omega) ?_)
      refine t_e (e_call0 rfl rfl (Fn.mv (swap_any b D lq hq A B (acC b6 (dd, A, B) :: l)))) rfl rfl rfl ?_
      rintro _ _ ⟨rfl, lq1, hq1, rfl⟩
      repeat (first | (show OpsS _ _ _ _ _ _ (_ :: _) _ _ _; first | refine ozq ?_ | refine ozs ?_ | refine ozs0 ?_ | refine ozt ?_ | refine ozf ?_ | refine ozn ?_) | refine c_seq ?_ | refine p_then ?_ | refine c_region ?_ | refine s_nil ?_ | refine c_cond_t rfl ?_ | refine c_cond_f rfl ?_ | refine c_block ?_ | refine c_skip ?_ | refine c_exit ?_ | refine p_block ?_ | refine p_then_exit ?_ | refine p_block_here ?_ | refine p_block_on rfl ?_ | refine c_ret ?_ | refine p_then_ret ?_ | refine p_block_ret ?_ | refine p_end ?_ | refine c_if_t rfl (by omega) ?_ | refine c_if_f rfl (by omega) ?_)
      exact k_next (i + 1, lq1) ⟨by omega, by rw [ht]; exact hq1⟩ (by simp only; omega) ⟨rfl, rfl, rfl, trivial⟩ (.drop .refl)
    rw [if_neg hd4] at ht
    repeat (first | (show OpsS _ _ _ _ _ _ (_ :: _) _ _ _; first | refine ozq ?_ | refine ozs ?_ | refine ozs0 ?_ | refine ozt ?_ | refine ozf ?_ | refine ozn ?_) | refine c_seq ?_ | refine p_then ?_ | refine c_region ?_ | refine s_nil ?_ | refine c_cond_t rfl ?_ | refine c_cond_f rfl ?_ | refine c_block ?_ | refine c_skip ?_ | refine c_exit ?_ | refine p_block ?_ | refine p_then_exit ?_ | refine p_block_here ?_ | refine p_block_on rfl ?_ | refine c_ret ?_ | refine p_then_ret ?_ | refine p_block_ret ?_ | refine p_end ?_ | refine c_if_t rfl (by omega) ?_ | refine c_if_f rfl (by omega) ?_)
    exact k_next (i + 1, lq) ⟨by omega, by rw [ht]; exact hq⟩ (by simp only; omega) ⟨rfl, rfl, rfl, trivial⟩ (.drop .refl)
  · obtain rfl : i = n := by omega
    rw [List.take_of_length_le (by omega)] at hq
    repeat (first | (show OpsS _ _ _ _ _ _ (_ :: _) _ _ _; first | refine ozq ?_ | refine ozs ?_ | refine ozs0 ?_ | refine ozt ?_ | refine ozf ?_ | refine ozn ?_) | refine c_seq ?_ | refine p_then ?_ | refine c_region ?_ | refine s_nil ?_ | refine c_cond_t rfl ?_ | refine c_cond_f rfl ?_ | refine c_block ?_ | refine c_skip ?_ | refine c_exit ?_ | refine p_block ?_ | refine p_then_exit ?_ | refine p_block_here ?_ | refine p_block_on rfl ?_ | refine c_ret ?_ | refine p_then_ret ?_ | refine p_block_ret ?_ | refine p_end ?_ | refine c_if_t rfl (by omega) ?_ | refine c_if_f rfl (by omega) ?_)
    exact k_ret [] rfl .refl (by (repeat (first | apply ResS.nil | (apply rs_tmp; (· rfl)) | (apply rs_cell1; (· rfl); (· ((repeat (first | with_reducible apply List.mem_cons_self | with_reducible apply List.mem_cons_of_mem)); try with_reducible assumption)); (· rfl)) | (apply rs_cellA; (· rfl); (· ((repeat (first | with_reducible apply List.mem_cons_self | with_reducible apply List.mem_cons_of_mem)); try with_reducible assumption)); (· (repeat (first | with_reducible apply LSub.done | with_reducible apply LSub.take | with_reducible apply LSub.drop))))))) ⟨b, rfl, lq, hq, rfl⟩
end Go.Proofs.Ytidkpfkkljcnaaa
