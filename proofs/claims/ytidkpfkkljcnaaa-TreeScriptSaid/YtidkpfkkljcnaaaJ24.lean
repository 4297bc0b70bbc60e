/- Chapter 17's own answer: Move, Swap. -/
import Derived.Test.YtidkpfkkljcnaaaU0
import Derived.Test.YtidkpfkkljcnaaaJ23
set_option linter.unusedVariables false
set_option linter.unusedSimpArgs false
namespace Go.Proofs.Ytidkpfkkljcnaaa
open Go.RowKit

set_option pp.deepTerms false
set_option pp.deepTerms.threshold 4
set_option maxHeartbeats 400000
theorem set_mid (X Y : List Value) (u0 u1 w0 w1 : Value) : setFrom (List.toArray (X ++ u0 :: u1 :: Y)) X.length [w0, w1] = List.toArray (X ++ w0 :: w1 :: Y) := by
  simp only [setFrom]
  apply Array.toList_inj.1
  simp only [Array.toList_setIfInBounds]
  rw [show (X ++ u0 :: u1 :: Y).set X.length w0 = X ++ w0 :: u1 :: Y by simp, List.set_append_right _ _ (by omega), Nat.add_sub_cancel_left]
  rfl
def setD (D : DT) (k : Nat) (s : SlotT) : DT := D.modify k fun x => (s, x.2)
theorem setD_mid (A B : DT) (x : SlotT × Int) (s : SlotT) : setD (A ++ x :: B) A.length s = A ++ (s, x.2) :: B := modify_mid _ _ _ _
theorem setD_len (D : DT) (k : Nat) (s : SlotT) : (setD D k s).length = D.length := List.length_modify ..
theorem setD_at (D : DT) (k j : Nat) (s : SlotT) : (setD D k s)[j]? = if k = j then D[j]?.map (fun x => (s, x.2)) else D[j]? := by
  unfold setD; rw [List.getElem?_modify]
  split
  · rfl
  · cases D[j]? <;> rfl
theorem set_ncs (D : DT) (k : Nat) (s : SlotT) (sp : List Value) (hk : k < D.length) : setFrom (List.toArray (ncs D ++ sp)) (k * 3) (encT s) = List.toArray (ncs (setD D k s) ++ sp) := by
  obtain ⟨x, hx⟩ : ∃ x, D[k]? = some x := ⟨_, List.getElem?_eq_getElem hk⟩
  obtain ⟨h1, h2⟩ := at_split hx
  generalize D.take k = A at h1 h2
  generalize D.drop (k + 1) = B at h1
  subst h1 h2
  rw [setD_mid, ncs_app, ncs_app, ← ncs_l A, List.append_assoc, List.append_assoc]
  exact set_mid (ncs A) _ _ _ _ _
theorem swap_at {D : DT} (hnd : (D.map Prod.fst).Nodup) {a c : SlotT} {D1 D2 : DT} (h1 : (∃ A d B, splitD a D = some (A, d, B) ∧ D1 = setD D A.length c) ∨ (splitD a D = none ∧ D1 = D)) (h2 : (∃ A d B, splitD c D = some (A, d, B) ∧ D2 = setD D1 A.length a) ∨ (splitD c D = none ∧ D2 = D1)) : D2 = swapD D a c := by
  apply List.ext_getElem?
  intro j
  unfold swapD
  rw [List.getElem?_map]
  cases hx : D[j]? with
  | none =>
    have hl : D.length ≤ j := List.getElem?_eq_none_iff.1 hx
    have hl1 : D1.length = D.length := by rcases h1 with ⟨A, d, B, _, rfl⟩ | ⟨_, rfl⟩ <;> simp [setD_len]
    have hl2 : D2.length = D1.length := by rcases h2 with ⟨A, d, B, _, rfl⟩ | ⟨_, rfl⟩ <;> simp [setD_len]
    rw [List.getElem?_eq_none (by omega)]; rfl
  | some x =>
    have k1 : D1[j]? = some (if x.1 = a then (c, x.2) else x) := by
      rcases h1 with ⟨A, d, B, e, rfl⟩ | ⟨e, rfl⟩
      · obtain ⟨_, _, e3⟩ := idx_of e
        rw [setD_at, hx]
        by_cases hj : A.length = j
        · rw [if_pos hj]; rw [hj, hx] at e3; cases e3; simp
        · rw [if_neg hj, if_neg fun h => hj (slot_inj hnd e3 hx h.symm)]
      · rw [hx, if_neg (splitD_none.1 e x (List.mem_of_getElem? hx))]
    rcases h2 with ⟨A, d, B, e, rfl⟩ | ⟨e, rfl⟩
    · obtain ⟨_, _, e3⟩ := idx_of e
      rw [setD_at, k1]
      by_cases hj : A.length = j
      · rw [if_pos hj]; rw [hj, hx] at e3; cases e3
        unfold swpS
        by_cases h : c = a
        · subst h; simp
        · simp [h]
      · rw [if_neg hj]
        have hn : x.1 ≠ c := fun h => hj (slot_inj hnd e3 hx h.symm)
        show some _ = some (swpS a c x)
        rw [show swpS a c x = if x.1 = a then (c, x.2) else x by unfold swpS; rw [if_neg hn]]
    · have hn : x.1 ≠ c := splitD_none.1 e x (List.mem_of_getElem? hx)
      rw [k1]
      show some _ = some (swpS a c x)
      rw [show swpS a c x = if x.1 = a then (c, x.2) else x by unfold swpS; rw [if_neg hn]]
theorem keep_new3 (x1 x2 x : Chunk) (c3 cs G : List Chunk) : Keep (c3 ++ (x1 :: x2 :: x :: (cs ++ G))) ((x :: c3) ++ G) :=
  Keep.trans (.of_perm List.perm_middle) (.drop (Keep.trans (.of_perm List.perm_middle) (.drop (keep_new x c3 cs G))))
theorem rmove_any (b : Nat) (D : DT) (lr : List Chunk) (hr : IsR b D lr) (hn : D.length ≤ 900000) (a c : SlotT) (G : List Chunk) :
    Fn Try.prog 41 [.pointer (some ⟨b, 0, none⟩), .agg (List.toArray (encT a)), .agg (List.toArray (encT c))] (lr ++ G) fun v l' => v = .int .i64 (moveD D a c).1 ∧ ∃ lr', IsR b (moveD D a c).2 lr' ∧ l' = lr' ++ G := by
  have hr0 := hr
  obtain ⟨v, cs, rfl, ho⟩ := hr
  have hv1 : v.oneCell' = true := ho.one
  refine fn_of_body Try.func41 rfl rfl fun E => ?_
  simp only [argF, Try.ntmps41]
  repeat (first | (show OpsS _ _ _ _ _ _ (_ :: _) _ _ _; first | refine ozq ?_ | refine ozn ?_) | refine c_seq ?_ | refine p_then ?_ | refine c_region ?_ | refine s_nil ?_ | refine c_cond_t rfl ?_ | refine c_cond_f rfl ?_ | refine c_skip ?_ | refine c_ret ?_ | refine p_then_ret ?_ | refine p_end ?_ | refine c_if_t rfl (by omega) ?_ | refine c_if_f rfl (by omega) ?_)
  (first | refine t_e (e_box1 rfl rfl) rfl rfl rfl ?_ | refine t_e (e_boxA rfl) rfl rfl rfl ?_); rintro _ _ ⟨b4, _, rfl, rfl⟩
  repeat (first | (show OpsS _ _ _ _ _ _ (_ :: _) _ _ _; first | refine ozq ?_ | refine ozn ?_) | refine c_seq ?_ | refine p_then ?_ | refine c_region ?_ | refine s_nil ?_ | refine c_cond_t rfl ?_ | refine c_cond_f rfl ?_ | refine c_skip ?_ | refine c_ret ?_ | refine p_then_ret ?_ | refine p_end ?_ | refine c_if_t rfl (by omega) ?_ | refine c_if_f rfl (by omega) ?_)
  (first | refine t_e (e_box1 rfl rfl) rfl rfl rfl ?_ | refine t_e (e_boxA rfl) rfl rfl rfl ?_); rintro _ _ ⟨b5, _, rfl, rfl⟩
  repeat (first | (show OpsS _ _ _ _ _ _ (_ :: _) _ _ _; first | refine ozq ?_ | refine ozn ?_) | refine c_seq ?_ | refine p_then ?_ | refine c_region ?_ | refine s_nil ?_ | refine c_cond_t rfl ?_ | refine c_cond_f rfl ?_ | refine c_skip ?_ | refine c_ret ?_ | refine p_then_ret ?_ | refine p_end ?_ | refine c_if_t rfl (by omega) ?_ | refine c_if_f rfl (by omega) ?_)
  refine t_q (q_call rfl rfl fun l2 hl => rat_any b D _ hr0 (by omega) a l2 fun c hc => hl c (.tail _ (.tail _ (List.mem_append_left _ hc)))) rfl rfl rfl ?_
  cases hsp : splitD a D with
  | none =>
    rw [idx_neg hsp, show moveD D a c = (10, D) by unfold moveD; rw [hsp]]
    repeat (first | (show OpsS _ _ _ _ _ _ (_ :: _) _ _ _; first | refine ozq ?_ | refine ozn ?_) | refine c_seq ?_ | refine p_then ?_ | refine c_region ?_ | refine s_nil ?_ | refine c_cond_t rfl ?_ | refine c_cond_f rfl ?_ | refine c_skip ?_ | refine c_ret ?_ | refine p_then_ret ?_ | refine p_end ?_ | refine c_if_t rfl (by omega) ?_ | refine c_if_f rfl (by omega) ?_)
    exact k_ret [] rfl (.drop (.drop .refl)) (by (repeat (first | apply ResS.nil | (apply rs_tmp; (· rfl)) | (apply rs_cell1; (· rfl); (· ((repeat (first | with_reducible apply List.mem_cons_self | with_reducible apply List.mem_cons_of_mem)); try with_reducible assumption)); (· rfl)) | (apply rs_cellA; (· rfl); (· ((repeat (first | with_reducible apply List.mem_cons_self | with_reducible apply List.mem_cons_of_mem)); try with_reducible assumption)); (· (repeat (first | with_reducible apply LSub.done | with_reducible apply LSub.take | with_reducible apply LSub.drop))))))) ⟨rfl, _, hr0, rfl⟩
  | some z =>
    obtain ⟨A, d, B⟩ := z
    obtain ⟨e1, e2, e3⟩ := idx_of hsp
    have hlA : A.length < D.length := by rw [e2]; simp
    rw [e1]
    repeat (first | (show OpsS _ _ _ _ _ _ (_ :: _) _ _ _; first | refine ozq ?_ | refine ozn ?_) | refine c_seq ?_ | refine p_then ?_ | refine c_region ?_ | refine s_nil ?_ | refine c_cond_t rfl ?_ | refine c_cond_f rfl ?_ | refine c_skip ?_ | refine c_ret ?_ | refine p_then_ret ?_ | refine p_end ?_ | refine c_if_t rfl (by omega) ?_ | refine c_if_f rfl (by omega) ?_)
    refine t_q (q_call rfl rfl fun l2 hl => rat_any b D _ hr0 (by omega) c l2 fun c hc => hl c (.tail _ (.tail _ (List.mem_append_left _ hc)))) rfl rfl rfl ?_
    cases hss : splitD c D with
    | some z =>
      obtain ⟨A2, d2, B2⟩ := z
      obtain ⟨f1, f2, f3⟩ := idx_of hss
      rw [f1, show moveD D a c = (11, D) by unfold moveD hasD; rw [hsp, hss]; rfl]
      repeat (first | (show OpsS _ _ _ _ _ _ (_ :: _) _ _ _; first | refine ozq ?_ | refine ozn ?_) | refine c_seq ?_ | refine p_then ?_ | refine c_region ?_ | refine s_nil ?_ | refine c_cond_t rfl ?_ | refine c_cond_f rfl ?_ | refine c_skip ?_ | refine c_ret ?_ | refine p_then_ret ?_ | refine p_end ?_ | refine c_if_t rfl (by omega) ?_ | refine c_if_f rfl (by omega) ?_)
      exact k_ret [] rfl (.drop (.drop .refl)) (by (repeat (first | apply ResS.nil | (apply rs_tmp; (· rfl)) | (apply rs_cell1; (· rfl); (· ((repeat (first | with_reducible apply List.mem_cons_self | with_reducible apply List.mem_cons_of_mem)); try with_reducible assumption)); (· rfl)) | (apply rs_cellA; (· rfl); (· ((repeat (first | with_reducible apply List.mem_cons_self | with_reducible apply List.mem_cons_of_mem)); try with_reducible assumption)); (· (repeat (first | with_reducible apply LSub.done | with_reducible apply LSub.take | with_reducible apply LSub.drop))))))) ⟨rfl, _, hr0, rfl⟩
    | none =>
      rw [idx_neg hss, show moveD D a c = (0, setD D A.length c) by unfold moveD hasD; rw [hsp, hss, e2, setD_mid]; rfl]
      simp only [List.cons_append]
      repeat (first | (show OpsS _ _ _ _ _ _ (_ :: _) _ _ _; first | refine ozq ?_ | refine ozn ?_) | refine c_seq ?_ | refine p_then ?_ | refine c_region ?_ | refine s_nil ?_ | refine c_cond_t rfl ?_ | refine c_cond_f rfl ?_ | refine c_skip ?_ | refine c_ret ?_ | refine p_then_ret ?_ | refine p_end ?_ | refine c_if_t rfl (by omega) ?_ | refine c_if_f rfl (by omega) ?_)
      refine t_e (e_copy (k := 3) (e := 31) (n := D.length) (xs := ncs D) (cs := cs) (zs := [.int .i64 0, .int .i64 0, .int .i64 0]) rfl rfl rfl ho (fun c hc => .tail _ (.tail _ (.tail _ (List.mem_append_left _ hc)))) ncs_ones (by omega) (by decide)) rfl rfl rfl ?_
      rintro v1 _ ⟨c1, ho1, rfl⟩
      have hv2 : v1.oneCell' = true := ho1.one
      repeat (first | (show OpsS _ _ _ _ _ _ (_ :: _) _ _ _; first | refine ozq ?_ | refine ozn ?_) | refine c_seq ?_ | refine p_then ?_ | refine c_region ?_ | refine s_nil ?_ | refine c_cond_t rfl ?_ | refine c_cond_f rfl ?_ | refine c_skip ?_ | refine c_ret ?_ | refine p_then_ret ?_ | refine p_end ?_ | refine c_if_t rfl (by omega) ?_ | refine c_if_f rfl (by omega) ?_)
      refine t_n (e_store (b := b) (off := 0) (l' := c1 ++ (slC b5 c :: slC b4 a :: rcC b v1 :: (cs ++ G))) rfl rfl hv2 (upd_pre (.there (.there .here)) c1) (by simp)) rfl rfl ?_
      rintro _ _ ⟨rfl, rfl⟩
      repeat (first | (show OpsS _ _ _ _ _ _ (_ :: _) _ _ _; first | refine ozq ?_ | refine ozn ?_) | refine c_seq ?_ | refine p_then ?_ | refine c_region ?_ | refine s_nil ?_ | refine c_cond_t rfl ?_ | refine c_cond_f rfl ?_ | refine c_skip ?_ | refine c_ret ?_ | refine p_then_ret ?_ | refine p_end ?_ | refine c_if_t rfl (by omega) ?_ | refine c_if_f rfl (by omega) ?_)
      rcases ho1.2 with ⟨_, h0, _⟩ | ⟨gb, cap, sp, rfl, rfl, hnc, hcm, hcl⟩
      · omega
      refine c_draw [(0, true), (1, true), (2, true), (3, true), (4, true), (5, true), (6, true), (7, true), (8, false)] [[], [0], [0, 1], [0, 1, 2], [], [], [0, 1, 2, 3, 4, 5], [0, 1, 2, 3, 4, 5, 6], [0, 1, 2, 3, 4, 5, 6, 7]] _ (by kernel_rfl) (by kernel_rfl) (by (repeat (first | apply Attach.nil | (apply Attach.cons; · rfl)))) (fun c hc => List.mem_append_right _ hc) ?_
      repeat (first | refine pl_nil ?_ | (show PlanS _ _ _ _ _ _ _ _ _ _ ((_, true, _) :: _) _ _ _; first | refine pzq ?_) | (show PlanS _ _ _ _ _ _ _ _ none [] ((_, false, _) :: _) _ _ _; first | refine pzn ?_ | refine pze ?_))
      apply pl_n
      · exact e_storeA (b := gb) (off := A.length * 3) (cs := List.toArray (ncs D ++ sp)) (n := 2) rfl rfl rfl (by simp [Value.oneCell']) .here (by rw [List.size_toArray, List.length_append, ncs_l]; omega)
      · rfl
      · rfl
      · rintro _ _ ⟨rfl, rfl⟩ c hc
        exact .tail _ hc
      rintro _ _ ⟨rfl, rfl⟩
      rw [set_ncs D A.length c sp hlA]
      repeat (first | refine pl_nil ?_ | (show PlanS _ _ _ _ _ _ _ _ _ _ ((_, true, _) :: _) _ _ _; first | refine pzq ?_) | (show PlanS _ _ _ _ _ _ _ _ none [] ((_, false, _) :: _) _ _ _; first | refine pzn ?_ | refine pze ?_))
      repeat (first | (show OpsS _ _ _ _ _ _ (_ :: _) _ _ _; first | refine ozq ?_ | refine ozn ?_) | refine c_seq ?_ | refine p_then ?_ | refine c_region ?_ | refine s_nil ?_ | refine c_cond_t rfl ?_ | refine c_cond_f rfl ?_ | refine c_skip ?_ | refine c_ret ?_ | refine p_then_ret ?_ | refine p_end ?_ | refine c_if_t rfl (by omega) ?_ | refine c_if_f rfl (by omega) ?_)
      refine k_ret [] rfl (l' := rcC b (.slice (some ⟨gb, 0, none⟩) D.length cap) :: [(gb, .cells (List.toArray (ncs (setD D A.length c) ++ sp)) 31 (0, 0))] ++ G) (keep_new3 _ _ _ [_] cs G) (by (repeat (first | apply ResS.nil | (apply rs_tmp; (· rfl)) | (apply rs_cell1; (· rfl); (· ((repeat (first | with_reducible apply List.mem_cons_self | with_reducible apply List.mem_cons_of_mem)); try with_reducible assumption)); (· rfl)) | (apply rs_cellA; (· rfl); (· ((repeat (first | with_reducible apply List.mem_cons_self | with_reducible apply List.mem_cons_of_mem)); try with_reducible assumption)); (· (repeat (first | with_reducible apply LSub.done | with_reducible apply LSub.take | with_reducible apply LSub.drop))))))) ⟨rfl, _, ⟨_, _, rfl, ?_⟩, rfl⟩
      rw [setD_len]
      refine ⟨by rw [ncs_l, setD_len], .inr ⟨gb, cap, sp, rfl, rfl, hnc, hcm, ?_⟩⟩
      rw [List.length_append, ncs_l, setD_len, ← hcl, List.length_append, ncs_l]
end Go.Proofs.Ytidkpfkkljcnaaa
