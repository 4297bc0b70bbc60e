/- Chapter 17's own answer: Swap, Remove. -/
import Derived.Test.YtidkpfkkljcnaaaU0
import Derived.Test.YtidkpfkkljcnaaaJ24
set_option linter.unusedVariables false
set_option linter.unusedSimpArgs false
namespace Go.Proofs.Ytidkpfkkljcnaaa
open Go.RowKit

set_option pp.deepTerms false
set_option pp.deepTerms.threshold 4
set_option maxHeartbeats 400000
theorem rswap_any (b : Nat) (D : DT) (lr : List Chunk) (hr : IsR b D lr) (hn : D.length ≤ 900000) (hnd : (D.map Prod.fst).Nodup) (a c : SlotT) (G : List Chunk) :
    Fn Try.prog 42 [.pointer (some ⟨b, 0, none⟩), .agg (List.toArray (encT a)), .agg (List.toArray (encT c))] (lr ++ G) fun v l' => v = .tuple #[] ∧ ∃ lr', IsR b (swapD D a c) lr' ∧ l' = lr' ++ G := by
  have hr0 := hr
  obtain ⟨v, cs, rfl, ho⟩ := hr
  have hv1 : v.oneCell' = true := ho.one
  refine fn_of_body Try.func42 rfl rfl fun E => ?_
  simp only [argF, Try.ntmps42]
  repeat (first | (show OpsS _ _ _ _ _ _ (_ :: _) _ _ _; first | refine ozq ?_ | refine ozn ?_) | refine c_seq ?_ | refine p_then ?_ | refine c_region ?_ | refine s_nil ?_ | refine c_cond_t rfl ?_ | refine c_cond_f rfl ?_ | refine c_skip ?_ | refine c_ret ?_ | refine p_then_ret ?_ | refine p_end ?_ | refine c_if_t rfl (by omega) ?_ | refine c_if_f rfl (by omega) ?_)
  (first | refine t_e (e_box1 rfl rfl) rfl rfl rfl ?_ | refine t_e (e_boxA rfl) rfl rfl rfl ?_); rintro _ _ ⟨b4, _, rfl, rfl⟩
  repeat (first | (show OpsS _ _ _ _ _ _ (_ :: _) _ _ _; first | refine ozq ?_ | refine ozn ?_) | refine c_seq ?_ | refine p_then ?_ | refine c_region ?_ | refine s_nil ?_ | refine c_cond_t rfl ?_ | refine c_cond_f rfl ?_ | refine c_skip ?_ | refine c_ret ?_ | refine p_then_ret ?_ | refine p_end ?_ | refine c_if_t rfl (by omega) ?_ | refine c_if_f rfl (by omega) ?_)
  (first | refine t_e (e_box1 rfl rfl) rfl rfl rfl ?_ | refine t_e (e_boxA rfl) rfl rfl rfl ?_); rintro _ _ ⟨b5, _, rfl, rfl⟩
  repeat (first | (show OpsS _ _ _ _ _ _ (_ :: _) _ _ _; first | refine ozq ?_ | refine ozn ?_) | refine c_seq ?_ | refine p_then ?_ | refine c_region ?_ | refine s_nil ?_ | refine c_cond_t rfl ?_ | refine c_cond_f rfl ?_ | refine c_skip ?_ | refine c_ret ?_ | refine p_then_ret ?_ | refine p_end ?_ | refine c_if_t rfl (by omega) ?_ | refine c_if_f rfl (by omega) ?_)
  refine c_draw [(0, true), (1, true), (2, true), (3, true), (4, true), (5, true), (6, true), (7, true)] [[], [], [0, 1], [], [], [0, 1, 2, 3, 4], [0, 1, 2, 3, 4, 5], [0, 1, 2, 3, 4, 5, 6]] _ (by kernel_rfl) (by kernel_rfl) (by (repeat (first | apply Attach.nil | (apply Attach.cons; · rfl)))) (fun _ h => h) ?_
  repeat (first | refine pl_nil ?_ | (show PlanS _ _ _ _ _ _ _ _ _ _ ((_, true, _) :: _) _ _ _; first | refine pzq ?_) | (show PlanS _ _ _ _ _ _ _ _ none [] ((_, false, _) :: _) _ _ _; first | refine pzn ?_ | refine pze ?_))
  apply pl_q
  · exact q_call rfl rfl fun l2 hl => rat_any b D _ hr0 (by omega) a l2 fun c hc => hl c (.tail _ (.tail _ (List.mem_append_left _ hc)))
  · rfl
  · rfl
  · rfl
  repeat (first | refine pl_nil ?_ | (show PlanS _ _ _ _ _ _ _ _ _ _ ((_, true, _) :: _) _ _ _; first | refine pzq ?_) | (show PlanS _ _ _ _ _ _ _ _ none [] ((_, false, _) :: _) _ _ _; first | refine pzn ?_ | refine pze ?_))
  apply pl_q
  · exact q_call rfl rfl fun l2 hl => rat_any b D _ hr0 (by omega) c l2 fun c hc => hl c (.tail _ (.tail _ (List.mem_append_left _ hc)))
  · rfl
  · rfl
  · rfl
  repeat (first | refine pl_nil ?_ | (show PlanS _ _ _ _ _ _ _ _ _ _ ((_, true, _) :: _) _ _ _; first | refine pzq ?_) | (show PlanS _ _ _ _ _ _ _ _ none [] ((_, false, _) :: _) _ _ _; first | refine pzn ?_ | refine pze ?_))
  simp only [List.cons_append]
  repeat (first | (show OpsS _ _ _ _ _ _ (_ :: _) _ _ _; first | refine ozq ?_ | refine ozn ?_) | refine c_seq ?_ | refine p_then ?_ | refine c_region ?_ | refine s_nil ?_ | refine c_cond_t rfl ?_ | refine c_cond_f rfl ?_ | refine c_skip ?_ | refine c_ret ?_ | refine p_then_ret ?_ | refine p_end ?_ | refine c_if_t rfl (by omega) ?_ | refine c_if_f rfl (by omega) ?_)
  refine t_e (e_copy (k := 3) (e := 31) (n := D.length) (xs := ncs D) (cs := cs) (zs := [.int .i64 0, .int .i64 0, .int .i64 0]) rfl rfl rfl ho (fun c hc => .tail _ (.tail _ (.tail _ (List.mem_append_left _ hc)))) ncs_ones (by omega) (by decide)) rfl rfl rfl ?_
  rintro v1 _ ⟨c1, ho1, rfl⟩
  have hv2 : v1.oneCell' = true := ho1.one
  repeat (first | (show OpsS _ _ _ _ _ _ (_ :: _) _ _ _; first | refine ozq ?_ | refine ozn ?_) | refine c_seq ?_ | refine p_then ?_ | refine c_region ?_ | refine s_nil ?_ | refine c_cond_t rfl ?_ | refine c_cond_f rfl ?_ | refine c_skip ?_ | refine c_ret ?_ | refine p_then_ret ?_ | refine p_end ?_ | refine c_if_t rfl (by omega) ?_ | refine c_if_f rfl (by omega) ?_)
  refine t_n (e_store (b := b) (off := 0) (l' := c1 ++ (slC b5 c :: slC b4 a :: rcC b v1 :: (cs ++ G))) rfl rfl hv2 (upd_pre (.there (.there .here)) c1) (by simp)) rfl rfl ?_
  rintro _ _ ⟨rfl, rfl⟩
  rcases ho1.2 with ⟨rfl, h0, rfl⟩ | ⟨gb, cap, sp, rfl, rfl, hnc, hcm, hcl⟩
  · obtain rfl : D = [] := List.eq_nil_of_length_eq_zero h0
    rw [show idxD [] a = -1 from idx_none (by simp), show idxD [] c = -1 from idx_none (by simp)]
    repeat (first | (show OpsS _ _ _ _ _ _ (_ :: _) _ _ _; first | refine ozq ?_ | refine ozn ?_) | refine c_seq ?_ | refine p_then ?_ | refine c_region ?_ | refine s_nil ?_ | refine c_cond_t rfl ?_ | refine c_cond_f rfl ?_ | refine c_skip ?_ | refine c_ret ?_ | refine p_then_ret ?_ | refine p_end ?_ | refine c_if_t rfl (by omega) ?_ | refine c_if_f rfl (by omega) ?_)
    exact k_ret [] rfl (l' := [rcC b (.slice none 0 0)] ++ G) (keep_new3 _ _ _ [] cs G) (by (repeat (first | apply ResS.nil | (apply rs_tmp; (· rfl)) | (apply rs_cell1; (· rfl); (· ((repeat (first | with_reducible apply List.mem_cons_self | with_reducible apply List.mem_cons_of_mem)); try with_reducible assumption)); (· rfl)) | (apply rs_cellA; (· rfl); (· ((repeat (first | with_reducible apply List.mem_cons_self | with_reducible apply List.mem_cons_of_mem)); try with_reducible assumption)); (· (repeat (first | with_reducible apply LSub.done | with_reducible apply LSub.take | with_reducible apply LSub.drop))))))) ⟨rfl, _, ⟨_, _, rfl, OwnSl.nil _ _⟩, rfl⟩
  simp only [List.cons_append, List.nil_append]
  have hfin : ∀ D' : DT, D'.length = D.length → D' = swapD D a c → ∃ lr', IsR b (swapD D a c) lr' ∧ rcC b (.slice (some ⟨gb, 0, none⟩) D.length cap) :: [(gb, Obj.cells (List.toArray (ncs D' ++ sp)) 31 (0, 0))] ++ G = lr' ++ G := fun D' h1 h2 => by
    refine ⟨_, ⟨_, _, rfl, ?_⟩, rfl⟩
    rw [← h2, h1]
    refine ⟨by rw [ncs_l, h1], .inr ⟨gb, cap, sp, rfl, rfl, hnc, hcm, ?_⟩⟩
    rw [List.length_append, ncs_l, h1, ← hcl, List.length_append, ncs_l]
  have ha : (∃ A d B, splitD a D = some (A, d, B) ∧ idxD D a = (A.length : Nat) ∧ A.length < D.length) ∨ (splitD a D = none ∧ idxD D a = -1) := by
    cases h : splitD a D with
    | none => exact .inr ⟨rfl, idx_neg h⟩
    | some z => obtain ⟨A, d, B⟩ := z; obtain ⟨h1, h2, _⟩ := idx_of h; exact .inl ⟨A, d, B, rfl, h1, by rw [h2]; simp⟩
  have hc : (∃ A d B, splitD c D = some (A, d, B) ∧ idxD D c = (A.length : Nat) ∧ A.length < D.length) ∨ (splitD c D = none ∧ idxD D c = -1) := by
    cases h : splitD c D with
    | none => exact .inr ⟨rfl, idx_neg h⟩
    | some z => obtain ⟨A, d, B⟩ := z; obtain ⟨h1, h2, _⟩ := idx_of h; exact .inl ⟨A, d, B, rfl, h1, by rw [h2]; simp⟩
  rcases ha with ⟨A, d, B, hsa, hia, hla⟩ | ⟨hsa, hia⟩
  · rw [hia]
    repeat (first | (show OpsS _ _ _ _ _ _ (_ :: _) _ _ _; first | refine ozq ?_ | refine ozn ?_) | refine c_seq ?_ | refine p_then ?_ | refine c_region ?_ | refine s_nil ?_ | refine c_cond_t rfl ?_ | refine c_cond_f rfl ?_ | refine c_skip ?_ | refine c_ret ?_ | refine p_then_ret ?_ | refine p_end ?_ | refine c_if_t rfl (by omega) ?_ | refine c_if_f rfl (by omega) ?_)
    refine c_draw [(0, true), (1, true), (2, true), (3, true), (4, true), (5, true), (6, true), (7, true), (8, false)] [[], [0], [0, 1], [0, 1, 2], [], [], [0, 1, 2, 3, 4, 5], [0, 1, 2, 3, 4, 5, 6], [0, 1, 2, 3, 4, 5, 6, 7]] _ (by kernel_rfl) (by kernel_rfl) (by (repeat (first | apply Attach.nil | (apply Attach.cons; · rfl)))) (fun c hc => List.Mem.tail _ hc) ?_
    repeat (first | refine pl_nil ?_ | (show PlanS _ _ _ _ _ _ _ _ _ _ ((_, true, _) :: _) _ _ _; first | refine pzq ?_) | (show PlanS _ _ _ _ _ _ _ _ none [] ((_, false, _) :: _) _ _ _; first | refine pzn ?_ | refine pze ?_))
    apply pl_n
    · exact e_storeA (b := gb) (off := A.length * 3) (cs := List.toArray (ncs D ++ sp)) (n := 2) rfl rfl rfl (by simp [Value.oneCell']) .here (by rw [List.size_toArray, List.length_append, ncs_l]; omega)
    · rfl
    · rfl
    · rintro _ _ ⟨rfl, rfl⟩ c hc
      exact .tail _ hc
    rintro _ _ ⟨rfl, rfl⟩
    rw [set_ncs D A.length c sp hla]
    repeat (first | refine pl_nil ?_ | (show PlanS _ _ _ _ _ _ _ _ _ _ ((_, true, _) :: _) _ _ _; first | refine pzq ?_) | (show PlanS _ _ _ _ _ _ _ _ none [] ((_, false, _) :: _) _ _ _; first | refine pzn ?_ | refine pze ?_))
    rcases hc with ⟨A2, d2, B2, hsc, hic, hlc⟩ | ⟨hsc, hic⟩
    · rw [hic]
      repeat (first | (show OpsS _ _ _ _ _ _ (_ :: _) _ _ _; first | refine ozq ?_ | refine ozn ?_) | refine c_seq ?_ | refine p_then ?_ | refine c_region ?_ | refine s_nil ?_ | refine c_cond_t rfl ?_ | refine c_cond_f rfl ?_ | refine c_skip ?_ | refine c_ret ?_ | refine p_then_ret ?_ | refine p_end ?_ | refine c_if_t rfl (by omega) ?_ | refine c_if_f rfl (by omega) ?_)
      refine c_draw [(0, true), (1, true), (2, true), (3, true), (4, true), (5, true), (6, true), (7, true), (8, false)] [[], [0], [0, 1], [0, 1, 2], [], [], [0, 1, 2, 3, 4, 5], [0, 1, 2, 3, 4, 5, 6], [0, 1, 2, 3, 4, 5, 6, 7]] _ (by kernel_rfl) (by kernel_rfl) (by (repeat (first | apply Attach.nil | (apply Attach.cons; · rfl)))) (fun c hc => List.Mem.tail _ hc) ?_
      repeat (first | refine pl_nil ?_ | (show PlanS _ _ _ _ _ _ _ _ _ _ ((_, true, _) :: _) _ _ _; first | refine pzq ?_) | (show PlanS _ _ _ _ _ _ _ _ none [] ((_, false, _) :: _) _ _ _; first | refine pzn ?_ | refine pze ?_))
      apply pl_n
      · exact e_storeA (b := gb) (off := A2.length * 3) (cs := List.toArray (ncs (setD D A.length c) ++ sp)) (n := 2) rfl rfl rfl (by simp [Value.oneCell']) .here (by rw [List.size_toArray, List.length_append, ncs_l, setD_len]; omega)
      · rfl
      · rfl
      · rintro _ _ ⟨rfl, rfl⟩ c hc
        exact .tail _ hc
      rintro _ _ ⟨rfl, rfl⟩
      rw [set_ncs _ A2.length a sp (by rw [setD_len]; exact hlc)]
      repeat (first | refine pl_nil ?_ | (show PlanS _ _ _ _ _ _ _ _ _ _ ((_, true, _) :: _) _ _ _; first | refine pzq ?_) | (show PlanS _ _ _ _ _ _ _ _ none [] ((_, false, _) :: _) _ _ _; first | refine pzn ?_ | refine pze ?_))
      repeat (first | (show OpsS _ _ _ _ _ _ (_ :: _) _ _ _; first | refine ozq ?_ | refine ozn ?_) | refine c_seq ?_ | refine p_then ?_ | refine c_region ?_ | refine s_nil ?_ | refine c_cond_t rfl ?_ | refine c_cond_f rfl ?_ | refine c_skip ?_ | refine c_ret ?_ | refine p_then_ret ?_ | refine p_end ?_ | refine c_if_t rfl (by omega) ?_ | refine c_if_f rfl (by omega) ?_)
      exact k_ret [] rfl (keep_new3 _ _ _ [_] cs G) (by (repeat (first | apply ResS.nil | (apply rs_tmp; (· rfl)) | (apply rs_cell1; (· rfl); (· ((repeat (first | with_reducible apply List.mem_cons_self | with_reducible apply List.mem_cons_of_mem)); try with_reducible assumption)); (· rfl)) | (apply rs_cellA; (· rfl); (· ((repeat (first | with_reducible apply List.mem_cons_self | with_reducible apply List.mem_cons_of_mem)); try with_reducible assumption)); (· (repeat (first | with_reducible apply LSub.done | with_reducible apply LSub.take | with_reducible apply LSub.drop))))))) ⟨rfl, hfin _ (by rw [setD_len, setD_len]) (swap_at hnd (.inl ⟨A, d, B, hsa, rfl⟩) (.inl ⟨A2, d2, B2, hsc, rfl⟩))⟩
    · rw [hic]
      repeat (first | (show OpsS _ _ _ _ _ _ (_ :: _) _ _ _; first | refine ozq ?_ | refine ozn ?_) | refine c_seq ?_ | refine p_then ?_ | refine c_region ?_ | refine s_nil ?_ | refine c_cond_t rfl ?_ | refine c_cond_f rfl ?_ | refine c_skip ?_ | refine c_ret ?_ | refine p_then_ret ?_ | refine p_end ?_ | refine c_if_t rfl (by omega) ?_ | refine c_if_f rfl (by omega) ?_)
      exact k_ret [] rfl (keep_new3 _ _ _ [_] cs G) (by (repeat (first | apply ResS.nil | (apply rs_tmp; (· rfl)) | (apply rs_cell1; (· rfl); (· ((repeat (first | with_reducible apply List.mem_cons_self | with_reducible apply List.mem_cons_of_mem)); try with_reducible assumption)); (· rfl)) | (apply rs_cellA; (· rfl); (· ((repeat (first | with_reducible apply List.mem_cons_self | with_reducible apply List.mem_cons_of_mem)); try with_reducible assumption)); (· (repeat (first | with_reducible apply LSub.done | with_reducible apply LSub.take | with_reducible apply LSub.drop))))))) ⟨rfl, hfin _ (by rw [setD_len]) (swap_at hnd (.inl ⟨A, d, B, hsa, rfl⟩) (.inr ⟨hsc, rfl⟩))⟩
  · rw [hia]
    rcases hc with ⟨A2, d2, B2, hsc, hic, hlc⟩ | ⟨hsc, hic⟩
    · rw [hic]
      repeat (first | (show OpsS _ _ _ _ _ _ (_ :: _) _ _ _; first | refine ozq ?_ | refine ozn ?_) | refine c_seq ?_ | refine p_then ?_ | refine c_region ?_ | refine s_nil ?_ | refine c_cond_t rfl ?_ | refine c_cond_f rfl ?_ | refine c_skip ?_ | refine c_ret ?_ | refine p_then_ret ?_ | refine p_end ?_ | refine c_if_t rfl (by omega) ?_ | refine c_if_f rfl (by omega) ?_)
      refine c_draw [(0, true), (1, true), (2, true), (3, true), (4, true), (5, true), (6, true), (7, true), (8, false)] [[], [0], [0, 1], [0, 1, 2], [], [], [0, 1, 2, 3, 4, 5], [0, 1, 2, 3, 4, 5, 6], [0, 1, 2, 3, 4, 5, 6, 7]] _ (by kernel_rfl) (by kernel_rfl) (by (repeat (first | apply Attach.nil | (apply Attach.cons; · rfl)))) (fun c hc => List.Mem.tail _ hc) ?_
      repeat (first | refine pl_nil ?_ | (show PlanS _ _ _ _ _ _ _ _ _ _ ((_, true, _) :: _) _ _ _; first | refine pzq ?_) | (show PlanS _ _ _ _ _ _ _ _ none [] ((_, false, _) :: _) _ _ _; first | refine pzn ?_ | refine pze ?_))
      apply pl_n
      · exact e_storeA (b := gb) (off := A2.length * 3) (cs := List.toArray (ncs D ++ sp)) (n := 2) rfl rfl rfl (by simp [Value.oneCell']) .here (by rw [List.size_toArray, List.length_append, ncs_l]; omega)
      · rfl
      · rfl
      · rintro _ _ ⟨rfl, rfl⟩ c hc
        exact .tail _ hc
      rintro _ _ ⟨rfl, rfl⟩
      rw [set_ncs _ A2.length a sp hlc]
      repeat (first | refine pl_nil ?_ | (show PlanS _ _ _ _ _ _ _ _ _ _ ((_, true, _) :: _) _ _ _; first | refine pzq ?_) | (show PlanS _ _ _ _ _ _ _ _ none [] ((_, false, _) :: _) _ _ _; first | refine pzn ?_ | refine pze ?_))
      repeat (first | (show OpsS _ _ _ _ _ _ (_ :: _) _ _ _; first | refine ozq ?_ | refine ozn ?_) | refine c_seq ?_ | refine p_then ?_ | refine c_region ?_ | refine s_nil ?_ | refine c_cond_t rfl ?_ | refine c_cond_f rfl ?_ | refine c_skip ?_ | refine c_ret ?_ | refine p_then_ret ?_ | refine p_end ?_ | refine c_if_t rfl (by omega) ?_ | refine c_if_f rfl (by omega) ?_)
      exact k_ret [] rfl (keep_new3 _ _ _ [_] cs G) (by (repeat (first | apply ResS.nil | (apply rs_tmp; (· rfl)) | (apply rs_cell1; (· rfl); (· ((repeat (first | with_reducible apply List.mem_cons_self | with_reducible apply List.mem_cons_of_mem)); try with_reducible assumption)); (· rfl)) | (apply rs_cellA; (· rfl); (· ((repeat (first | with_reducible apply List.mem_cons_self | with_reducible apply List.mem_cons_of_mem)); try with_reducible assumption)); (· (repeat (first | with_reducible apply LSub.done | with_reducible apply LSub.take | with_reducible apply LSub.drop))))))) ⟨rfl, hfin _ (by rw [setD_len]) (swap_at hnd (.inr ⟨hsa, rfl⟩) (.inl ⟨A2, d2, B2, hsc, rfl⟩))⟩
    · rw [hic]
      repeat (first | (show OpsS _ _ _ _ _ _ (_ :: _) _ _ _; first | refine ozq ?_ | refine ozn ?_) | refine c_seq ?_ | refine p_then ?_ | refine c_region ?_ | refine s_nil ?_ | refine c_cond_t rfl ?_ | refine c_cond_f rfl ?_ | refine c_skip ?_ | refine c_ret ?_ | refine p_then_ret ?_ | refine p_end ?_ | refine c_if_t rfl (by omega) ?_ | refine c_if_f rfl (by omega) ?_)
      exact k_ret [] rfl (keep_new3 _ _ _ [_] cs G) (by (repeat (first | apply ResS.nil | (apply rs_tmp; (· rfl)) | (apply rs_cell1; (· rfl); (· ((repeat (first | with_reducible apply List.mem_cons_self | with_reducible apply List.mem_cons_of_mem)); try with_reducible assumption)); (· rfl)) | (apply rs_cellA; (· rfl); (· ((repeat (first | with_reducible apply List.mem_cons_self | with_reducible apply List.mem_cons_of_mem)); try with_reducible assumption)); (· (repeat (first | with_reducible apply LSub.done | with_reducible apply LSub.take | with_reducible apply LSub.drop))))))) ⟨rfl, hfin _ rfl (swap_at hnd (.inr ⟨hsa, rfl⟩) (.inr ⟨hsc, rfl⟩))⟩
theorem decW_at {d : Int} {B : DT} {k : Nat} {x : SlotT × Int} (h : B[k]? = some x) : (decW d B)[k]? = some (if k < (twD d B).length then (x.1, x.2 - 1) else x) := by
  have e : B = twD d B ++ B.dropWhile fun x => decide (d < x.2) := (List.takeWhile_append_dropWhile ..).symm
  unfold decW
  by_cases hk : k < (twD d B).length
  · rw [if_pos hk, List.getElem?_append_left (by rw [List.length_map]; exact hk), List.getElem?_map]
    rw [e, List.getElem?_append_left hk] at h
    show Option.map _ (twD d B)[k]? = _
    rw [h]; rfl
  · rw [if_neg hk, List.getElem?_append_right (by rw [List.length_map]; exact Nat.le_of_not_lt hk), List.length_map]
    rw [e, List.getElem?_append_right (Nat.le_of_not_lt hk)] at h
    exact h
theorem rremove_any (b : Nat) (D : DT) (lr : List Chunk) (hr : IsR b D lr) (hn : D.length ≤ 900000) (hd : SmallD D) (s : SlotT) (G : List Chunk) :
    Fn Try.prog 40 [.pointer (some ⟨b, 0, none⟩), .agg (List.toArray (encT s))] (lr ++ G) fun v l' => v = .int .i64 (removeD D s).1 ∧ ∃ lr', IsR b (removeD D s).2 lr' ∧ l' = lr' ++ G := by
  have hr0 := hr
  obtain ⟨v, cs, rfl, ho⟩ := hr
  have hv1 : v.oneCell' = true := ho.one
  refine fn_of_body Try.func40 rfl rfl fun E => ?_
  simp only [argF, Try.ntmps40]
  repeat (first | (show OpsS _ _ _ _ _ _ (_ :: _) _ _ _; first | refine ozq ?_ | refine ozs ?_ | refine ozs0 ?_ | refine ozt ?_ | refine ozf ?_ | refine ozn ?_) | refine c_seq ?_ | refine p_then ?_ | refine c_region ?_ | refine s_nil ?_ | refine c_cond_t rfl ?_ | refine c_cond_f rfl ?_ | refine c_block ?_ | refine c_skip ?_ | refine c_exit ?_ | refine p_block ?_ | refine p_then_exit ?_ | refine p_block_here ?_ | refine p_block_on rfl ?_ | refine c_ret ?_ | refine p_then_ret ?_ | refine p_block_ret ?_ | refine p_end ?_ | refine c_if_t rfl (by omega) ?_ | refine c_if_f rfl (by omega) ?_)
  (first | refine t_e (e_box1 rfl rfl) rfl rfl rfl ?_ | refine t_e (e_boxA rfl) rfl rfl rfl ?_); rintro _ _ ⟨b3, _, rfl, rfl⟩
  repeat (first | (show OpsS _ _ _ _ _ _ (_ :: _) _ _ _; first | refine ozq ?_ | refine ozs ?_ | refine ozs0 ?_ | refine ozt ?_ | refine ozf ?_ | refine ozn ?_) | refine c_seq ?_ | refine p_then ?_ | refine c_region ?_ | refine s_nil ?_ | refine c_cond_t rfl ?_ | refine c_cond_f rfl ?_ | refine c_block ?_ | refine c_skip ?_ | refine c_exit ?_ | refine p_block ?_ | refine p_then_exit ?_ | refine p_block_here ?_ | refine p_block_on rfl ?_ | refine c_ret ?_ | refine p_then_ret ?_ | refine p_block_ret ?_ | refine p_end ?_ | refine c_if_t rfl (by omega) ?_ | refine c_if_f rfl (by omega) ?_)
  refine t_q (q_call rfl rfl fun l2 hl => rat_any b D _ hr0 (by omega) s l2 fun c hc => hl c (.tail _ (List.mem_append_left _ hc))) rfl rfl rfl ?_
  cases hsp : splitD s D with
  | none =>
    rw [idx_neg hsp, show removeD D s = (10, D) by unfold removeD; rw [hsp]]
    repeat (first | (show OpsS _ _ _ _ _ _ (_ :: _) _ _ _; first | refine ozq ?_ | refine ozs ?_ | refine ozs0 ?_ | refine ozt ?_ | refine ozf ?_ | refine ozn ?_) | refine c_seq ?_ | refine p_then ?_ | refine c_region ?_ | refine s_nil ?_ | refine c_cond_t rfl ?_ | refine c_cond_f rfl ?_ | refine c_block ?_ | refine c_skip ?_ | refine c_exit ?_ | refine p_block ?_ | refine p_then_exit ?_ | refine p_block_here ?_ | refine p_block_on rfl ?_ | refine c_ret ?_ | refine p_then_ret ?_ | refine p_block_ret ?_ | refine p_end ?_ | refine c_if_t rfl (by omega) ?_ | refine c_if_f rfl (by omega) ?_)
    exact k_ret [] rfl (.drop .refl) (by (repeat (first | apply ResS.nil | (apply rs_tmp; (· rfl)) | (apply rs_cell1; (· rfl); (· ((repeat (first | with_reducible apply List.mem_cons_self | with_reducible apply List.mem_cons_of_mem)); try with_reducible assumption)); (· rfl)) | (apply rs_cellA; (· rfl); (· ((repeat (first | with_reducible apply List.mem_cons_self | with_reducible apply List.mem_cons_of_mem)); try with_reducible assumption)); (· (repeat (first | with_reducible apply LSub.done | with_reducible apply LSub.take | with_reducible apply LSub.drop))))))) ⟨rfl, _, hr0, rfl⟩
  | some z =>
    obtain ⟨A, d, B⟩ := z
    obtain ⟨e1, e2, e3⟩ := idx_of hsp
    have hlD : D.length = A.length + 1 + B.length := by rw [e2]; simp; omega
    rw [e1, show removeD D s = (0, A ++ decW d B) by unfold removeD; rw [hsp]]
    repeat (first | (show OpsS _ _ _ _ _ _ (_ :: _) _ _ _; first | refine ozq ?_ | refine ozs ?_ | refine ozs0 ?_ | refine ozt ?_ | refine ozf ?_ | refine ozn ?_) | refine c_seq ?_ | refine p_then ?_ | refine c_region ?_ | refine s_nil ?_ | refine c_cond_t rfl ?_ | refine c_cond_f rfl ?_ | refine c_block ?_ | refine c_skip ?_ | refine c_exit ?_ | refine p_block ?_ | refine p_then_exit ?_ | refine p_block_here ?_ | refine p_block_on rfl ?_ | refine c_ret ?_ | refine p_then_ret ?_ | refine p_block_ret ?_ | refine p_end ?_ | refine c_if_t rfl (by omega) ?_ | refine c_if_f rfl (by omega) ?_)
    refine t_q (q_call rfl rfl fun l2 hl => rend_any b D _ hr0 (by omega) A B (s, d) e2 l2 fun c hc => hl c (.tail _ (List.mem_append_left _ hc))) rfl rfl rfl ?_
    simp only
    have htl : (twD d B).length ≤ B.length := (List.takeWhile_prefix _).length_le
    have hRS := ho.nodes (l := slC b3 s :: (rcC b v :: cs ++ G)) fun c hc => .tail _ (.tail _ (List.mem_append_left _ hc))
    obtain ⟨p, cap, rfl, hR⟩ := hRS
    obtain ⟨bB, off, xs, t, fz, rfl, hmr, hc⟩ := hR (by omega)
    have hm : rcC b (.slice (some ⟨bB, off, none⟩) D.length cap) ∈ slC b3 s :: (rcC b (.slice (some ⟨bB, off, none⟩) D.length cap) :: cs ++ G) := .tail _ (.head _)
    generalize hF : slC b3 s :: (rcC b (.slice (some ⟨bB, off, none⟩) D.length cap) :: cs ++ G) = F at hm hmr
    obtain ⟨R, hRd⟩ : ∃ R, R = A ++ decW d B := ⟨_, rfl⟩
    have hlR : R.length = A.length + B.length := by rw [hRd, List.length_append, decW_len]
    obtain ⟨cnt, hcnt⟩ : ∃ cnt : Nat → Nat, cnt = fun i => if i ≤ A.length then i else i - 1 := ⟨_, rfl⟩
    rw [← hRd]
    repeat (first | (show OpsS _ _ _ _ _ _ (_ :: _) _ _ _; first | refine ozq ?_ | refine ozs ?_ | refine ozs0 ?_ | refine ozt ?_ | refine ozf ?_ | refine ozn ?_) | refine c_seq ?_ | refine p_then ?_ | refine c_region ?_ | refine s_nil ?_ | refine c_cond_t rfl ?_ | refine c_cond_f rfl ?_ | refine c_block ?_ | refine c_skip ?_ | refine c_exit ?_ | refine p_block ?_ | refine p_then_exit ?_ | refine p_block_here ?_ | refine p_block_on rfl ?_ | refine c_ret ?_ | refine p_then_ret ?_ | refine p_block_ret ?_ | refine p_end ?_ | refine c_if_t rfl (by omega) ?_ | refine c_if_f rfl (by omega) ?_)
    refine k_loop (α := Nat × Value × List Chunk) (fun x => [(0, .pointer (some ⟨b, 0, none⟩)), (5, .int .i64 (A.length : Nat)), (6, .int .i64 ((A.length + 1 + (twD d B).length : Nat) : Int)), (7, x.2.1), (8, .int .i64 x.1)]) (fun x => x.2.2 ++ F) (fun x => x.1 ≤ D.length ∧ OwnSl 31 3 x.2.1 (R.take (cnt x.1)).length (ncs (R.take (cnt x.1))) x.2.2) (fun x => D.length - x.1) (0, .slice none 0 0, []) ⟨Nat.zero_le _, by rw [hcnt]; exact OwnSl.nil _ _⟩ ⟨rfl, rfl, rfl, rfl, rfl, trivial⟩ .refl ?_
    rintro ⟨i, w, cv⟩ ⟨hi, hw⟩
    dsimp only at hi hw ⊢
    have hm2 : rcC b (.slice (some ⟨bB, off, none⟩) D.length cap) ∈ cv ++ F := List.mem_append_right _ hm
    by_cases hlt : i < D.length
    · obtain ⟨x, hx⟩ : ∃ x, D[i]? = some x := ⟨_, List.getElem?_eq_getElem hlt⟩
      obtain ⟨g1, g2⟩ := hc i x hx
      have hdx := hd x (List.mem_of_getElem? hx)
      repeat (first | (show OpsS _ _ _ _ _ _ (_ :: _) _ _ _; first | refine ozq ?_ | refine ozs ?_ | refine ozs0 ?_ | refine ozt ?_ | refine ozf ?_ | refine ozn ?_) | refine c_seq ?_ | refine p_then ?_ | refine c_region ?_ | refine s_nil ?_ | refine c_cond_t rfl ?_ | refine c_cond_f rfl ?_ | refine c_block ?_ | refine c_skip ?_ | refine c_exit ?_ | refine p_block ?_ | refine p_then_exit ?_ | refine p_block_here ?_ | refine p_block_on rfl ?_ | refine c_ret ?_ | refine p_then_ret ?_ | refine p_block_ret ?_ | refine p_end ?_ | refine c_if_t rfl (by omega) ?_ | refine c_if_f rfl (by omega) ?_)
      refine t_q (q_loadA rfl (List.mem_append_right _ hmr) g1 g2) rfl rfl rfl ?_
      refine t_e e_alloc rfl rfl rfl ?_; rintro _ _ ⟨b9, _, rfl, rfl⟩
      repeat (first | (show OpsS _ _ _ _ _ _ (_ :: _) _ _ _; first | refine ozq ?_ | refine ozs ?_ | refine ozs0 ?_ | refine ozt ?_ | refine ozf ?_ | refine ozn ?_) | refine c_seq ?_ | refine p_then ?_ | refine c_region ?_ | refine s_nil ?_ | refine c_cond_t rfl ?_ | refine c_cond_f rfl ?_ | refine c_block ?_ | refine c_skip ?_ | refine c_exit ?_ | refine p_block ?_ | refine p_then_exit ?_ | refine p_block_here ?_ | refine p_block_on rfl ?_ | refine c_ret ?_ | refine p_then_ret ?_ | refine p_block_ret ?_ | refine p_end ?_ | refine c_if_t rfl (by omega) ?_ | refine c_if_f rfl (by omega) ?_)
      rcases Nat.lt_trichotomy i A.length with h1 | h1 | h1
      · have hc1 : cnt (i + 1) = cnt i + 1 := by rw [hcnt]; simp only; rw [if_pos (by omega), if_pos (by omega)]
        have hRi : R[cnt i]? = some x := by
          rw [hcnt, hRd]; simp only; rw [if_pos (by omega), List.getElem?_append_left h1]
          rw [e2, List.getElem?_append_left h1] at hx; exact hx
        repeat (first | (show OpsS _ _ _ _ _ _ (_ :: _) _ _ _; first | refine ozq ?_ | refine ozs ?_ | refine ozs0 ?_ | refine ozt ?_ | refine ozf ?_ | refine ozn ?_) | refine c_seq ?_ | refine p_then ?_ | refine c_region ?_ | refine s_nil ?_ | refine c_cond_t rfl ?_ | refine c_cond_f rfl ?_ | refine c_block ?_ | refine c_skip ?_ | refine c_exit ?_ | refine p_block ?_ | refine p_then_exit ?_ | refine p_block_here ?_ | refine p_block_on rfl ?_ | refine c_ret ?_ | refine p_then_ret ?_ | refine p_block_ret ?_ | refine p_end ?_ | refine c_if_t rfl (by omega) ?_ | refine c_if_f rfl (by omega) ?_)
        refine t_e (e_litA (k := 3) (e := 31) (ws := nV x) (zs := [.int .i64 0, .int .i64 0, .int .i64 0]) rfl rfl rfl (by decide) (by decide)) rfl rfl rfl ?_
        rintro _ _ ⟨bl, _, rfl, rfl⟩
        refine t_e (e_appX (k := 3) (X := [(b9, .cells (List.toArray (nV x)) 31 (0, 0))]) (cs := cv) (F := F) (xs := ncs (R.take (cnt i))) (n := (R.take (cnt i)).length) (zs := [.int .i64 0, .int .i64 0, .int .i64 0]) (ws := nV x) rfl rfl rfl hw rfl (nV_ones _) (by rw [List.length_take]; omega) (by decide)) rfl rfl rfl ?_
        rintro w2 _ ⟨cv2, hw2, rfl⟩
        have hw1 : w2.oneCell' = true := hw2.one
        repeat (first | (show OpsS _ _ _ _ _ _ (_ :: _) _ _ _; first | refine ozq ?_ | refine ozs ?_ | refine ozs0 ?_ | refine ozt ?_ | refine ozf ?_ | refine ozn ?_) | refine c_seq ?_ | refine p_then ?_ | refine c_region ?_ | refine s_nil ?_ | refine c_cond_t rfl ?_ | refine c_cond_f rfl ?_ | refine c_block ?_ | refine c_skip ?_ | refine c_exit ?_ | refine p_block ?_ | refine p_then_exit ?_ | refine p_block_here ?_ | refine p_block_on rfl ?_ | refine c_ret ?_ | refine p_then_ret ?_ | refine p_block_ret ?_ | refine p_end ?_ | refine c_if_t rfl (by omega) ?_ | refine c_if_f rfl (by omega) ?_)
        refine k_next (i + 1, w2, cv2) ⟨by simp only; omega, ?_⟩ (by simp only; omega) ⟨rfl, rfl, rfl, rfl, rfl, trivial⟩ (.drop .refl)
        simp only
        rw [hc1, List.take_add_one, hRi, Option.toList_some, ncs_snoc, List.length_append]; exact hw2
      · have hc1 : cnt (i + 1) = cnt i := by rw [hcnt]; simp only; rw [if_neg (by omega), if_pos (by omega)]; rfl
        repeat (first | (show OpsS _ _ _ _ _ _ (_ :: _) _ _ _; first | refine ozq ?_ | refine ozs ?_ | refine ozs0 ?_ | refine ozt ?_ | refine ozf ?_ | refine ozn ?_) | refine c_seq ?_ | refine p_then ?_ | refine c_region ?_ | refine s_nil ?_ | refine c_cond_t rfl ?_ | refine c_cond_f rfl ?_ | refine c_block ?_ | refine c_skip ?_ | refine c_exit ?_ | refine p_block ?_ | refine p_then_exit ?_ | refine p_block_here ?_ | refine p_block_on rfl ?_ | refine c_ret ?_ | refine p_then_ret ?_ | refine p_block_ret ?_ | refine p_end ?_ | refine c_if_t rfl (by omega) ?_ | refine c_if_f rfl (by omega) ?_)
        refine k_next (i + 1, w, cv) ⟨by simp only; omega, ?_⟩ (by simp only; omega) ⟨rfl, rfl, rfl, rfl, rfl, trivial⟩ (.drop .refl)
        simp only
        rw [hc1]; exact hw
      · have hc1 : cnt (i + 1) = cnt i + 1 := by rw [hcnt]; simp only; rw [if_neg (by omega), if_neg (by omega)]; omega
        have hBx : B[i - 1 - A.length]? = some x := by
          rw [e2, List.getElem?_append_right (by omega), show i - A.length = (i - 1 - A.length) + 1 by omega, List.getElem?_cons_succ] at hx; exact hx
        have hRi0 : R[cnt i]? = some (if i - 1 - A.length < (twD d B).length then (x.1, x.2 - 1) else x) := by
          rw [hcnt, hRd]; simp only; rw [if_neg (by omega), List.getElem?_append_right (by omega)]; exact decW_at hBx
        by_cases h2 : i < A.length + 1 + (twD d B).length
        · have hRi : R[cnt i]? = some (x.1, x.2 - 1) := by rw [hRi0, if_pos (by omega)]
          repeat (first | (show OpsS _ _ _ _ _ _ (_ :: _) _ _ _; first | refine ozq ?_ | refine ozs ?_ | refine ozs0 ?_ | refine ozt ?_ | refine ozf ?_ | refine ozn ?_) | refine c_seq ?_ | refine p_then ?_ | refine c_region ?_ | refine s_nil ?_ | refine c_cond_t rfl ?_ | refine c_cond_f rfl ?_ | refine c_block ?_ | refine c_skip ?_ | refine c_exit ?_ | refine p_block ?_ | refine p_then_exit ?_ | refine p_block_here ?_ | refine p_block_on rfl ?_ | refine c_ret ?_ | refine p_then_ret ?_ | refine p_block_ret ?_ | refine p_end ?_ | refine c_if_t rfl (by omega) ?_ | refine c_if_f rfl (by omega) ?_)
          refine t_e (e_litA (k := 3) (e := 31) (ws := nV (x.1, x.2 - 1)) (zs := [.int .i64 0, .int .i64 0, .int .i64 0]) rfl rfl rfl (by decide) (by decide)) rfl rfl rfl ?_
          rintro _ _ ⟨bl, _, rfl, rfl⟩
          refine t_e (e_appX (k := 3) (X := [(b9, .cells (List.toArray (nV (x.1, x.2 - 1))) 31 (0, 0))]) (cs := cv) (F := F) (xs := ncs (R.take (cnt i))) (n := (R.take (cnt i)).length) (zs := [.int .i64 0, .int .i64 0, .int .i64 0]) (ws := nV (x.1, x.2 - 1)) rfl rfl rfl hw rfl (nV_ones _) (by rw [List.length_take]; omega) (by decide)) rfl rfl rfl ?_
          rintro w2 _ ⟨cv2, hw2, rfl⟩
          have hw1 : w2.oneCell' = true := hw2.one
          repeat (first | (show OpsS _ _ _ _ _ _ (_ :: _) _ _ _; first | refine ozq ?_ | refine ozs ?_ | refine ozs0 ?_ | refine ozt ?_ | refine ozf ?_ | refine ozn ?_) | refine c_seq ?_ | refine p_then ?_ | refine c_region ?_ | refine s_nil ?_ | refine c_cond_t rfl ?_ | refine c_cond_f rfl ?_ | refine c_block ?_ | refine c_skip ?_ | refine c_exit ?_ | refine p_block ?_ | refine p_then_exit ?_ | refine p_block_here ?_ | refine p_block_on rfl ?_ | refine c_ret ?_ | refine p_then_ret ?_ | refine p_block_ret ?_ | refine p_end ?_ | refine c_if_t rfl (by omega) ?_ | refine c_if_f rfl (by omega) ?_)
          refine k_next (i + 1, w2, cv2) ⟨by simp only; omega, ?_⟩ (by simp only; omega) ⟨rfl, rfl, rfl, rfl, rfl, trivial⟩ (.drop .refl)
          simp only
          rw [hc1, List.take_add_one, hRi, Option.toList_some, ncs_snoc, List.length_append]; exact hw2
        · have hRi : R[cnt i]? = some x := by rw [hRi0, if_neg (by omega)]
          repeat (first | (show OpsS _ _ _ _ _ _ (_ :: _) _ _ _; first | refine ozq ?_ | refine ozs ?_ | refine ozs0 ?_ | refine ozt ?_ | refine ozf ?_ | refine ozn ?_) | refine c_seq ?_ | refine p_then ?_ | refine c_region ?_ | refine s_nil ?_ | refine c_cond_t rfl ?_ | refine c_cond_f rfl ?_ | refine c_block ?_ | refine c_skip ?_ | refine c_exit ?_ | refine p_block ?_ | refine p_then_exit ?_ | refine p_block_here ?_ | refine p_block_on rfl ?_ | refine c_ret ?_ | refine p_then_ret ?_ | refine p_block_ret ?_ | refine p_end ?_ | refine c_if_t rfl (by omega) ?_ | refine c_if_f rfl (by omega) ?_)
          refine t_e (e_litA (k := 3) (e := 31) (ws := nV x) (zs := [.int .i64 0, .int .i64 0, .int .i64 0]) rfl rfl rfl (by decide) (by decide)) rfl rfl rfl ?_
          rintro _ _ ⟨bl, _, rfl, rfl⟩
          refine t_e (e_appX (k := 3) (X := [(b9, .cells (List.toArray (nV x)) 31 (0, 0))]) (cs := cv) (F := F) (xs := ncs (R.take (cnt i))) (n := (R.take (cnt i)).length) (zs := [.int .i64 0, .int .i64 0, .int .i64 0]) (ws := nV x) rfl rfl rfl hw rfl (nV_ones _) (by rw [List.length_take]; omega) (by decide)) rfl rfl rfl ?_
          rintro w2 _ ⟨cv2, hw2, rfl⟩
          have hw1 : w2.oneCell' = true := hw2.one
          repeat (first | (show OpsS _ _ _ _ _ _ (_ :: _) _ _ _; first | refine ozq ?_ | refine ozs ?_ | refine ozs0 ?_ | refine ozt ?_ | refine ozf ?_ | refine ozn ?_) | refine c_seq ?_ | refine p_then ?_ | refine c_region ?_ | refine s_nil ?_ | refine c_cond_t rfl ?_ | refine c_cond_f rfl ?_ | refine c_block ?_ | refine c_skip ?_ | refine c_exit ?_ | refine p_block ?_ | refine p_then_exit ?_ | refine p_block_here ?_ | refine p_block_on rfl ?_ | refine c_ret ?_ | refine p_then_ret ?_ | refine p_block_ret ?_ | refine p_end ?_ | refine c_if_t rfl (by omega) ?_ | refine c_if_f rfl (by omega) ?_)
          refine k_next (i + 1, w2, cv2) ⟨by simp only; omega, ?_⟩ (by simp only; omega) ⟨rfl, rfl, rfl, rfl, rfl, trivial⟩ (.drop .refl)
          simp only
          rw [hc1, List.take_add_one, hRi, Option.toList_some, ncs_snoc, List.length_append]; exact hw2
    · obtain rfl : i = D.length := by omega
      have hcl : cnt D.length = R.length := by rw [hcnt]; simp only; rw [if_neg (by omega)]; omega
      rw [hcl, List.take_length] at hw
      have hw1 : w.oneCell' = true := hw.one
      repeat (first | (show OpsS _ _ _ _ _ _ (_ :: _) _ _ _; first | refine ozq ?_ | refine ozs ?_ | refine ozs0 ?_ | refine ozt ?_ | refine ozf ?_ | refine ozn ?_) | refine c_seq ?_ | refine p_then ?_ | refine c_region ?_ | refine s_nil ?_ | refine c_cond_t rfl ?_ | refine c_cond_f rfl ?_ | refine c_block ?_ | refine c_skip ?_ | refine c_exit ?_ | refine p_block ?_ | refine p_then_exit ?_ | refine p_block_here ?_ | refine p_block_on rfl ?_ | refine c_ret ?_ | refine p_then_ret ?_ | refine p_block_ret ?_ | refine p_end ?_ | refine c_if_t rfl (by omega) ?_ | refine c_if_f rfl (by omega) ?_)
      rw [← hF]
      refine t_n (e_store (b := b) (off := 0) (l' := cv ++ (slC b3 s :: (rcC b w :: cs ++ G))) rfl rfl hw1 (upd_pre (.there .here) cv) (by simp)) rfl rfl ?_
      rintro _ _ ⟨rfl, rfl⟩
      repeat (first | (show OpsS _ _ _ _ _ _ (_ :: _) _ _ _; first | refine ozq ?_ | refine ozs ?_ | refine ozs0 ?_ | refine ozt ?_ | refine ozf ?_ | refine ozn ?_) | refine c_seq ?_ | refine p_then ?_ | refine c_region ?_ | refine s_nil ?_ | refine c_cond_t rfl ?_ | refine c_cond_f rfl ?_ | refine c_block ?_ | refine c_skip ?_ | refine c_exit ?_ | refine p_block ?_ | refine p_then_exit ?_ | refine p_block_here ?_ | refine p_block_on rfl ?_ | refine c_ret ?_ | refine p_then_ret ?_ | refine p_block_ret ?_ | refine p_end ?_ | refine c_if_t rfl (by omega) ?_ | refine c_if_f rfl (by omega) ?_)
      exact k_ret [] rfl (l' := rcC b w :: cv ++ G) (Keep.trans (.of_perm List.perm_middle) (.drop (keep_new _ cv cs G))) (by (repeat (first | apply ResS.nil | (apply rs_tmp; (· rfl)) | (apply rs_cell1; (· rfl); (· ((repeat (first | with_reducible apply List.mem_cons_self | with_reducible apply List.mem_cons_of_mem)); try with_reducible assumption)); (· rfl)) | (apply rs_cellA; (· rfl); (· ((repeat (first | with_reducible apply List.mem_cons_self | with_reducible apply List.mem_cons_of_mem)); try with_reducible assumption)); (· (repeat (first | with_reducible apply LSub.done | with_reducible apply LSub.take | with_reducible apply LSub.drop))))))) ⟨rfl, _, ⟨_, _, rfl, hw⟩, rfl⟩
end Go.Proofs.Ytidkpfkkljcnaaa
