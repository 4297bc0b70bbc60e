/- Chapter 20's own answer: Drop. -/
import Derived.Test.YtbegoggigfinjaaU0
import Derived.Test.YtbegoggigfinjaaT12
set_option linter.unusedVariables false
set_option linter.unusedSimpArgs false
namespace Go.Proofs.Ytbegoggigfinjaa
open Go.RowKit

set_option pp.deepTerms false
set_option pp.deepTerms.threshold 4
set_option maxHeartbeats 400000
theorem rdrop_any (b : Nat) (L : TL) (lr : List Chunk) (hr : IsRX b L lr) (hn : L.length ≤ 900000) (hs : L.Pairwise fun x y => x.id < y.id) (a : Int) (G : List Chunk) :
    Fn Try.prog 16 [.pointer (some ⟨b, 0, none⟩), .int .i64 a] (lr ++ G) fun v l' => v = .int .i64 (dropD L a).1 ∧ ∃ lr', IsRX b (dropD L a).2 lr' ∧ l' = lr' ++ G := by
  have hr0 := hr
  obtain ⟨v, cs, rfl, ho⟩ := hr
  refine fn_of_body Try.func16 rfl rfl fun E => ?_
  simp only [argF, Try.ntmps16]
  repeat (first | (show OpsS _ _ _ _ _ _ (_ :: _) _ _ _; first | refine ozq ?_) | refine c_seq ?_ | refine p_then ?_ | refine c_region ?_ | refine s_nil ?_ | refine c_cond_t rfl ?_ | refine c_cond_f rfl ?_ | refine c_skip ?_ | refine c_ret ?_ | refine p_then_ret ?_ | refine p_end ?_ | refine c_if_t rfl (by omega) ?_ | refine c_if_f rfl (by omega) ?_)
  refine t_q (q_call rfl rfl fun l2 hl => rat_any b L _ hr0 hn a l2 fun c hc => hl c (List.mem_append_left _ hc)) rfl rfl rfl ?_
  cases hf : findH L a with
  | none =>
    rw [idx_neg hf, show dropD L a = (2, L) by unfold dropD; rw [hf]; rfl]
    repeat (first | (show OpsS _ _ _ _ _ _ (_ :: _) _ _ _; first | refine ozq ?_) | refine c_seq ?_ | refine p_then ?_ | refine c_region ?_ | refine s_nil ?_ | refine c_cond_t rfl ?_ | refine c_cond_f rfl ?_ | refine c_skip ?_ | refine c_ret ?_ | refine p_then_ret ?_ | refine p_end ?_ | refine c_if_t rfl (by omega) ?_ | refine c_if_f rfl (by omega) ?_)
    exact k_ret [] rfl .refl (by (repeat (first | apply ResS.nil | (apply rs_tmp; (· rfl)) | (apply rs_cell1; (· rfl); (· ((repeat (first | with_reducible apply List.mem_cons_self | with_reducible apply List.mem_cons_of_mem)); try with_reducible assumption)); (· rfl)) | (apply rs_cellA; (· rfl); (· ((repeat (first | with_reducible apply List.mem_cons_self | with_reducible apply List.mem_cons_of_mem)); try with_reducible assumption)); (· (repeat (first | with_reducible apply LSub.done | with_reducible apply LSub.take | with_reducible apply LSub.drop))))))) ⟨rfl, _, hr0, rfl⟩
  | some x =>
    obtain ⟨A, B, hL, hi, hx, hA, hAt⟩ := idx_of hf
    rw [hi, show dropD L a = (0, A ++ B) by unfold dropD; rw [hf]; simp only [Option.isSome_some, if_true]; rw [hL, drop_split (by rw [← hL]; exact hs) hx]]
    have hlL : L.length = A.length + 1 + B.length := by rw [hL]; simp; omega
    rcases ho.2 with ⟨_, h0, _⟩ | ⟨gb, cap, sp, rfl, rfl, hnc, hcm, hcl⟩
    · omega
    have hn1 : ∀ j u, (thcs A)[j]? = some u → (List.toArray (thcs L ++ sp))[0 + j]? = some u := fun j u h => by rw [hL]; exact thcs_fst h
    have hn2 : ∀ j u, (thcs B)[j]? = some u → (List.toArray (thcs L ++ sp))[(A.length + 1) * 24 + j]? = some u := fun j u h => by
      rw [hL, show A ++ x :: B = (A ++ [x]) ++ B by simp, show A.length + 1 = (A ++ [x]).length by simp]; exact thcs_snd h
    obtain ⟨off', hoff⟩ : ∃ o, (if cap = A.length + 1 then 0 else 0 + (A.length + 1) * 24) = o := ⟨_, rfl⟩
    have hn3 : ∀ j u, (thcs B)[j]? = some u → (List.toArray (thcs L ++ sp))[off' + j]? = some u := fun j u h => by
      have := (List.getElem?_eq_some_iff.1 h).1
      rw [thcs_l] at this
      rw [← hoff, if_neg (by omega), Nat.zero_add]; exact hn2 j u h
    obtain ⟨l0, hl0⟩ : ∃ l0, l0 = rxC b (.slice (some ⟨gb, 0, none⟩) L.length cap) :: ([(gb, Obj.cells (List.toArray (thcs L ++ sp)) 33 (0, 0))] ++ G) := ⟨_, rfl⟩
    have hm1 : rxC b (.slice (some ⟨gb, 0, none⟩) L.length cap) ∈ l0 := by rw [hl0]; exact .head _
    have hm2 : (gb, Obj.cells (List.toArray (thcs L ++ sp)) 33 (0, 0)) ∈ l0 := by rw [hl0]; exact .tail _ (.head _)
    refine s_keep (Keep.of_perm (l' := l0) (.of_eq hl0.symm)) ?_
    repeat (first | (show OpsS _ _ _ _ _ _ (_ :: _) _ _ _; first | refine ozq ?_) | refine c_seq ?_ | refine p_then ?_ | refine c_region ?_ | refine s_nil ?_ | refine c_cond_t rfl ?_ | refine c_cond_f rfl ?_ | refine c_skip ?_ | refine c_ret ?_ | refine p_then_ret ?_ | refine p_end ?_ | refine c_if_t rfl (by omega) ?_ | refine c_if_f rfl (by omega) ?_)
    refine c_draw [(0, true), (1, true), (2, true), (3, true), (4, true), (5, true), (6, true), (8, true), (9, true), (10, true), (11, true), (12, true), (13, true), (14, true), (7, false), (15, false), (16, true), (17, true), (18, false)] [[], [], [1], [1, 2], [1, 2, 3], [], [1, 2, 3, 4, 5], [1, 2, 3, 4, 5, 6], [], [8], [8, 9], [8, 9, 10], [], [12], [8, 9, 10, 11, 12, 13], [1, 2, 3, 4, 5, 6, 7, 8, 9, 10, 11, 12, 13, 14], [0, 1, 2, 3, 4, 5, 6, 7, 8, 9, 10, 11, 12, 13, 14, 15], [0, 1, 2, 3, 4, 5, 6, 7, 8, 9, 10, 11, 12, 13, 14, 15, 16], [0, 1, 2, 3, 4, 5, 6, 7, 8, 9, 10, 11, 12, 13, 14, 15, 16, 17]] ([]) (by kernel_rfl) (by kernel_rfl) (by (repeat (first | apply Attach.nil | (apply Attach.cons; · rfl)))) (fun c hc => by cases hc) ?_
    repeat (first | refine pl_nil ?_ | (show PlanS _ _ _ _ _ _ _ _ _ _ ((_, true, _) :: _) _ _ _; first | refine pzq ?_) | (show PlanS _ _ _ _ _ _ _ _ none [] ((_, false, _) :: _) _ _ _; first | refine pzn ?_ | refine pze ?_))
    apply pl_s (S := [rxC b (.slice (some ⟨gb, 0, none⟩) L.length cap)]); (· first | exact q_load rfl (.head _) (by (first | with_reducible assumption | ((with_reducible apply cell_get); (repeat (first | with_reducible apply LGet.zero | with_reducible apply LGet.succ))))) | exact q_loadL rfl (.head _) (by (repeat (first | with_reducible apply LSub.done | with_reducible apply LSub.take | with_reducible apply LSub.drop)))); (· exact sing_mem (hm1)); (· rfl); (· rfl); (· rfl)
    repeat (first | refine pl_nil ?_ | (show PlanS _ _ _ _ _ _ _ _ _ _ ((_, true, _) :: _) _ _ _; first | refine pzq ?_) | (show PlanS _ _ _ _ _ _ _ _ none [] ((_, false, _) :: _) _ _ _; first | refine pzn ?_ | refine pze ?_))
    apply pl_q
    · exact q_slice (l0 := 0) (h0 := A.length) (m0 := cap) (off' := 0) (n' := A.length) (c' := cap) rfl .none (.some rfl (by omega) rfl) .none (by simp) (by omega) (by omega) (by omega) (by simp) (by omega) (by omega)
    · rfl
    · rfl
    · rfl
    repeat (first | refine pl_nil ?_ | (show PlanS _ _ _ _ _ _ _ _ _ _ ((_, true, _) :: _) _ _ _; first | refine pzq ?_) | (show PlanS _ _ _ _ _ _ _ _ none [] ((_, false, _) :: _) _ _ _; first | refine pzn ?_ | refine pze ?_))
    apply pl_s (S := [rxC b (.slice (some ⟨gb, 0, none⟩) L.length cap)]); (· first | exact q_load rfl (.head _) (by (first | with_reducible assumption | ((with_reducible apply cell_get); (repeat (first | with_reducible apply LGet.zero | with_reducible apply LGet.succ))))) | exact q_loadL rfl (.head _) (by (repeat (first | with_reducible apply LSub.done | with_reducible apply LSub.take | with_reducible apply LSub.drop)))); (· exact sing_mem (hm1)); (· rfl); (· rfl); (· rfl)
    repeat (first | refine pl_nil ?_ | (show PlanS _ _ _ _ _ _ _ _ _ _ ((_, true, _) :: _) _ _ _; first | refine pzq ?_) | (show PlanS _ _ _ _ _ _ _ _ none [] ((_, false, _) :: _) _ _ _; first | refine pzn ?_ | refine pze ?_))
    apply pl_q
    · exact q_slice (l0 := A.length + 1) (h0 := L.length) (m0 := cap) (off' := off') (n' := B.length) rfl (.some rfl (by omega) (by omega)) .none .none (by simp) (by omega) (by omega) (by omega) hoff (by omega) rfl
    · rfl
    · rfl
    · rfl
    repeat (first | refine pl_nil ?_ | (show PlanS _ _ _ _ _ _ _ _ _ _ ((_, true, _) :: _) _ _ _; first | refine pzq ?_) | (show PlanS _ _ _ _ _ _ _ _ none [] ((_, false, _) :: _) _ _ _; first | refine pzn ?_ | refine pze ?_))
    apply pl_eS
    · exact ce_append (k := 24) (e := 33) (m := A.length) (xs := []) (cs := []) (F := l0) (news := thcs A) (cl := List.toArray (thcs L ++ sp)) rfl rfl rfl (OwnSl.nil _ _) hm2 hn1 (thcs_l A) thcs_ones (by unfold maxLen; omega) (by omega)
    · rfl
    · rfl
    · rfl
    · intro _ _ _ c hc; cases hc
    · rintro _ _ ⟨c1, _, rfl⟩ x hx _ c hc
      refine List.mem_append_right _ ?_
      cases hx with
      | head => rw [List.mem_singleton.1 hc]; exact hm1
      | tail _ hx => rw [List.mem_singleton.1 hx] at hc; rw [List.mem_singleton.1 hc]; exact hm1
    rintro v1 _ ⟨c1, ho1, rfl⟩
    rw [List.nil_append, Nat.zero_add] at ho1
    repeat (first | refine pl_nil ?_ | (show PlanS _ _ _ _ _ _ _ _ _ _ ((_, true, _) :: _) _ _ _; first | refine pzq ?_) | (show PlanS _ _ _ _ _ _ _ _ none [] ((_, false, _) :: _) _ _ _; first | refine pzn ?_ | refine pze ?_))
    apply pl_eS
    · exact ce_append (k := 24) (e := 33) (m := B.length) (xs := thcs A) (cs := c1) (F := l0) (news := thcs B) (cl := List.toArray (thcs L ++ sp)) rfl rfl rfl ho1 (List.mem_append_right _ hm2) hn3 (thcs_l B) thcs_ones (by unfold maxLen; omega) (by omega)
    (· rfl); (· rfl); (· rfl); (· intro _ _ _ c hc; cases hc); (· exact fun _ _ _ x hx ha => anc_all (by kernel_rfl) hx ha)
    rintro v2 _ ⟨c2, ho2, rfl⟩
    have hv2 : v2.oneCell' = true := ho2.one
    repeat (first | refine pl_nil ?_ | (show PlanS _ _ _ _ _ _ _ _ _ _ ((_, true, _) :: _) _ _ _; first | refine pzq ?_) | (show PlanS _ _ _ _ _ _ _ _ none [] ((_, false, _) :: _) _ _ _; first | refine pzn ?_ | refine pze ?_))
    rw [hl0]
    apply pl_nS
    · exact e_store (b := b) (off := 0) (l' := c2 ++ (rxC b v2 :: ([(gb, Obj.cells (List.toArray (thcs L ++ sp)) 33 (0, 0))] ++ G))) rfl rfl hv2 (upd_pre .here c2) (by simp)
    (· rfl); (· rfl); (· intro _ _ _ c hc; cases hc); (· exact fun _ _ _ x hx ha => anc_all (by kernel_rfl) hx ha)
    rintro _ _ ⟨rfl, rfl⟩
    repeat (first | refine pl_nil ?_ | (show PlanS _ _ _ _ _ _ _ _ _ _ ((_, true, _) :: _) _ _ _; first | refine pzq ?_) | (show PlanS _ _ _ _ _ _ _ _ none [] ((_, false, _) :: _) _ _ _; first | refine pzn ?_ | refine pze ?_))
    repeat (first | (show OpsS _ _ _ _ _ _ (_ :: _) _ _ _; first | refine ozq ?_) | refine c_seq ?_ | refine p_then ?_ | refine c_region ?_ | refine s_nil ?_ | refine c_cond_t rfl ?_ | refine c_cond_f rfl ?_ | refine c_skip ?_ | refine c_ret ?_ | refine p_then_ret ?_ | refine p_end ?_ | refine c_if_t rfl (by omega) ?_ | refine c_if_f rfl (by omega) ?_)
    refine k_ret [] rfl (l' := rxC b v2 :: c2 ++ G) (keep_new _ c2 _ G) (by (repeat (first | apply ResS.nil | (apply rs_tmp; (· rfl)) | (apply rs_cell1; (· rfl); (· ((repeat (first | with_reducible apply List.mem_cons_self | with_reducible apply List.mem_cons_of_mem)); try with_reducible assumption)); (· rfl)) | (apply rs_cellA; (· rfl); (· ((repeat (first | with_reducible apply List.mem_cons_self | with_reducible apply List.mem_cons_of_mem)); try with_reducible assumption)); (· (repeat (first | with_reducible apply LSub.done | with_reducible apply LSub.take | with_reducible apply LSub.drop))))))) ⟨rfl, _, ⟨_, _, rfl, ?_⟩, rfl⟩
    rw [← thcs_app] at ho2
    rw [List.length_append]; exact ho2
end Go.Proofs.Ytbegoggigfinjaa
