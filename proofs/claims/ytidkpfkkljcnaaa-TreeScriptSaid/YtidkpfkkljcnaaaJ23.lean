/- Chapter 17's own answer: Root, Child. -/
import Derived.Test.YtidkpfkkljcnaaaU0
import Derived.Test.YtidkpfkkljcnaaaJ22
set_option linter.unusedVariables false
set_option linter.unusedSimpArgs false
namespace Go.Proofs.Ytidkpfkkljcnaaa
open Go.RowKit

set_option pp.deepTerms false
set_option pp.deepTerms.threshold 4
set_option maxHeartbeats 400000
theorem ncs_ones {D : DT} : ∀ u ∈ ncs D, u.oneCell' = true := fun u hu => by
  obtain ⟨x, _, hx⟩ := List.mem_flatMap.1 hu
  simp only [nV, List.mem_cons, List.not_mem_nil, or_false] at hx
  rcases hx with rfl | rfl | rfl <;> rfl
theorem nV_ones (x : SlotT × Int) : ∀ u ∈ nV x, u.oneCell' = true := fun u hx => by
  simp only [nV, List.mem_cons, List.not_mem_nil, or_false] at hx
  rcases hx with rfl | rfl | rfl <;> rfl
theorem keep_new (x : Chunk) (c2 cs G : List Chunk) : Keep (c2 ++ (x :: (cs ++ G))) ((x :: c2) ++ G) :=
  ⟨cs, by
    have h1 : (c2 ++ (x :: (cs ++ G))).Perm (x :: (c2 ++ (cs ++ G))) := List.perm_middle
    have h2 : (c2 ++ (cs ++ G)).Perm (cs ++ (c2 ++ G)) := List.perm_append_comm_assoc c2 cs G
    exact (h1.trans ((h2.cons x).trans List.perm_middle.symm))⟩
theorem rroot_any (b : Nat) (D : DT) (lr : List Chunk) (hr : IsR b D lr) (hn : D.length ≤ 1000000) (s : SlotT) (G : List Chunk) :
    Fn Try.prog 38 [.pointer (some ⟨b, 0, none⟩), .agg (List.toArray (encT s))] (lr ++ G) fun v l' => v = .int .i64 (rootD D s).1 ∧ ∃ lr', IsR b (rootD D s).2 lr' ∧ l' = lr' ++ G := by
  have hr0 := hr
  obtain ⟨v, cs, rfl, ho⟩ := hr
  have hv1 : v.oneCell' = true := ho.one
  refine fn_of_body Try.func38 rfl rfl fun E => ?_
  simp only [argF, Try.ntmps38]
  repeat (first | (show OpsS _ _ _ _ _ _ (_ :: _) _ _ _; first | refine ozq ?_) | refine c_seq ?_ | refine p_then ?_ | refine c_region ?_ | refine s_nil ?_ | refine c_cond_t rfl ?_ | refine c_cond_f rfl ?_ | refine c_skip ?_ | refine c_ret ?_ | refine p_then_ret ?_ | refine p_end ?_ | refine c_if_t rfl (by omega) ?_ | refine c_if_f rfl (by omega) ?_)
  (first | refine t_e (e_box1 rfl rfl) rfl rfl rfl ?_ | refine t_e (e_boxA rfl) rfl rfl rfl ?_); rintro _ _ ⟨b3, _, rfl, rfl⟩
  repeat (first | (show OpsS _ _ _ _ _ _ (_ :: _) _ _ _; first | refine ozq ?_) | refine c_seq ?_ | refine p_then ?_ | refine c_region ?_ | refine s_nil ?_ | refine c_cond_t rfl ?_ | refine c_cond_f rfl ?_ | refine c_skip ?_ | refine c_ret ?_ | refine p_then_ret ?_ | refine p_end ?_ | refine c_if_t rfl (by omega) ?_ | refine c_if_f rfl (by omega) ?_)
  refine t_q (q_call rfl rfl fun l2 hl => rat_any b D _ hr0 hn s l2 fun c hc => hl c (.tail _ (List.mem_append_left _ hc))) rfl rfl rfl ?_
  cases hsp : splitD s D with
  | some z =>
    obtain ⟨A, d, B⟩ := z
    obtain ⟨e1, e2, e3⟩ := idx_of hsp
    rw [e1, show rootD D s = (11, D) by unfold rootD hasD; rw [hsp]; rfl]
    repeat (first | (show OpsS _ _ _ _ _ _ (_ :: _) _ _ _; first | refine ozq ?_) | refine c_seq ?_ | refine p_then ?_ | refine c_region ?_ | refine s_nil ?_ | refine c_cond_t rfl ?_ | refine c_cond_f rfl ?_ | refine c_skip ?_ | refine c_ret ?_ | refine p_then_ret ?_ | refine p_end ?_ | refine c_if_t rfl (by omega) ?_ | refine c_if_f rfl (by omega) ?_)
    exact k_ret [] rfl (.drop .refl) (by (repeat (first | apply ResS.nil | (apply rs_tmp; (· rfl)) | (apply rs_cell1; (· rfl); (· ((repeat (first | with_reducible apply List.mem_cons_self | with_reducible apply List.mem_cons_of_mem)); try with_reducible assumption)); (· rfl)) | (apply rs_cellA; (· rfl); (· ((repeat (first | with_reducible apply List.mem_cons_self | with_reducible apply List.mem_cons_of_mem)); try with_reducible assumption)); (· (repeat (first | with_reducible apply LSub.done | with_reducible apply LSub.take | with_reducible apply LSub.drop))))))) ⟨rfl, _, hr0, rfl⟩
  | none =>
    rw [idx_neg hsp, show rootD D s = (0, D ++ [(s, 0)]) by unfold rootD hasD; rw [hsp]; rfl]
    simp only [List.cons_append]
    repeat (first | (show OpsS _ _ _ _ _ _ (_ :: _) _ _ _; first | refine ozq ?_) | refine c_seq ?_ | refine p_then ?_ | refine c_region ?_ | refine s_nil ?_ | refine c_cond_t rfl ?_ | refine c_cond_f rfl ?_ | refine c_skip ?_ | refine c_ret ?_ | refine p_then_ret ?_ | refine p_end ?_ | refine c_if_t rfl (by omega) ?_ | refine c_if_f rfl (by omega) ?_)
    refine c_draw2 [(0, true), (1, true), (2, true), (3, true), (4, true), (6, true), (7, true), (5, false), (8, false), (9, false), (10, true), (11, true), (12, false)] [[], [], [1], [1, 2], [1, 2, 3], [1, 2, 3, 4], [], [6], [6, 7], [1, 2, 3, 4, 5, 6, 7, 8], [0, 1, 2, 3, 4, 5, 6, 7, 8, 9], [0, 1, 2, 3, 4, 5, 6, 7, 8, 9, 10], [0, 1, 2, 3, 4, 5, 6, 7, 8, 9, 10, 11]] 5 8 ([slC b3 s]) (by kernel_rfl) (by kernel_rfl) (by (repeat (first | apply Attach.nil | (apply Attach.cons; · rfl)))) (List.Sublist.subset (by (repeat (first | with_reducible apply List.Sublist.refl | with_reducible apply List.nil_sublist | with_reducible apply List.Sublist.cons_cons | with_reducible apply List.Sublist.cons)))) ?_
    repeat (first | refine pl_nil ?_ | (show PlanS _ _ _ _ _ _ _ _ _ _ ((_, true, _) :: _) _ _ _; first | refine pzq ?_) | (show PlanS _ _ _ _ _ _ _ _ none [] ((_, false, _) :: _) _ _ _; first | refine pzn ?_ | refine pze ?_))
    apply pl_s (S := [rcC b v]); (· first | exact q_load rfl (.head _) (by (first | with_reducible assumption | ((with_reducible apply cell_get); (repeat (first | with_reducible apply LGet.zero | with_reducible apply LGet.succ))))) | exact q_loadL rfl (.head _) (by (repeat (first | with_reducible apply LSub.done | with_reducible apply LSub.take | with_reducible apply LSub.drop)))); (· exact sing_mem (.tail _ (.head _))); (· rfl); (· rfl); (· rfl)
    repeat (first | refine pl_nil ?_ | (show PlanS _ _ _ _ _ _ _ _ _ _ ((_, true, _) :: _) _ _ _; first | refine pzq ?_) | (show PlanS _ _ _ _ _ _ _ _ none [] ((_, false, _) :: _) _ _ _; first | refine pzn ?_ | refine pze ?_))
    refine pl_alt [(8, false), (5, false), (9, false), (10, true), (11, true), (12, false)] (by (repeat (first | apply Attach.nil | (apply Attach.cons; · rfl)))) (List.Perm.swap _ _ _) (by kernel_rfl) ?_ ?_
    · skip
      apply pl_eS
      · exact e_copy (k := 3) (e := 31) (n := D.length) (xs := ncs D) (cs := cs) (zs := [.int .i64 0, .int .i64 0, .int .i64 0]) rfl rfl rfl ho (fun c hc => .tail _ (.tail _ (List.mem_append_left _ hc))) ncs_ones hn (by decide)
      · rfl
      · rfl
      · rfl
      · rintro _ _ ⟨c1, _, rfl⟩ c hc
        exact List.mem_append_right _ (by rw [List.mem_singleton.1 hc]; exact .head _)
      · rintro _ _ ⟨c1, _, rfl⟩ x hx _ c hc
        exact List.mem_append_right _ (by rw [List.mem_singleton.1 hx] at hc; rw [List.mem_singleton.1 hc]; exact .tail _ (.head _))
      rintro v1 _ ⟨c1, ho1, rfl⟩
      repeat (first | refine pl_nil ?_ | (show PlanS _ _ _ _ _ _ _ _ _ _ ((_, true, _) :: _) _ _ _; first | refine pzq ?_) | (show PlanS _ _ _ _ _ _ _ _ none [] ((_, false, _) :: _) _ _ _; first | refine pzn ?_ | refine pze ?_))
      apply pl_eS
      · exact e_litA (k := 3) (e := 31) (ws := nV (s, 0)) (zs := [.int .i64 0, .int .i64 0, .int .i64 0]) rfl rfl rfl (by decide) (by decide)
      · rfl
      · rfl
      · rfl
      · rintro _ _ ⟨bl, _, _, rfl⟩ c hc
        exact .tail _ (List.mem_append_right _ (by rw [List.mem_singleton.1 hc]; exact .head _))
      · rintro _ _ ⟨bl, _, rfl, rfl⟩ x hx _ c hc
        exact .tail _ (List.mem_append_right _ (by rw [List.mem_singleton.1 hx] at hc; rw [List.mem_singleton.1 hc]; exact .tail _ (.head _)))
      rintro _ _ ⟨bl, _, rfl, rfl⟩
      repeat (first | refine pl_nil ?_ | (show PlanS _ _ _ _ _ _ _ _ _ _ ((_, true, _) :: _) _ _ _; first | refine pzq ?_) | (show PlanS _ _ _ _ _ _ _ _ none [] ((_, false, _) :: _) _ _ _; first | refine pzn ?_ | refine pze ?_))
      apply pl_eS
      · exact e_appX (k := 3) (X := []) (cs := c1) (F := slC b3 s :: rcC b v :: (cs ++ G)) (xs := ncs D) (n := D.length) (zs := [.int .i64 0, .int .i64 0, .int .i64 0]) (ws := nV (s, 0)) rfl rfl rfl ho1 rfl (nV_ones _) hn (by decide)
      · rfl
      · rfl
      · rfl
      · rintro _ _ ⟨c2, _, rfl⟩ c hc
        exact List.mem_append_right c2 (by rw [List.mem_singleton.1 hc]; exact .head _)
      · exact fun _ _ _ x hx ha => anc_all (by kernel_rfl) hx ha
      rintro v2 _ ⟨c2, ho2, rfl⟩
      have hv2 : v2.oneCell' = true := ho2.one
      repeat (first | refine pl_nil ?_ | (show PlanS _ _ _ _ _ _ _ _ _ _ ((_, true, _) :: _) _ _ _; first | refine pzq ?_) | (show PlanS _ _ _ _ _ _ _ _ none [] ((_, false, _) :: _) _ _ _; first | refine pzn ?_ | refine pze ?_))
      apply pl_nS
      · exact e_store (b := b) (off := 0) rfl rfl hv2 (upd_pre (.there .here) c2) (by simp)
      · rfl
      · rfl
      · rintro _ _ ⟨rfl, rfl⟩ c hc
        exact List.mem_append_right _ (by rw [List.mem_singleton.1 hc]; exact .head _)
      · exact fun _ _ _ x hx ha => anc_all (by kernel_rfl) hx ha
      rintro _ _ ⟨rfl, rfl⟩
      repeat (first | refine pl_nil ?_ | (show PlanS _ _ _ _ _ _ _ _ _ _ ((_, true, _) :: _) _ _ _; first | refine pzq ?_) | (show PlanS _ _ _ _ _ _ _ _ none [] ((_, false, _) :: _) _ _ _; first | refine pzn ?_ | refine pze ?_))
      repeat (first | (show OpsS _ _ _ _ _ _ (_ :: _) _ _ _; first | refine ozq ?_) | refine c_seq ?_ | refine p_then ?_ | refine c_region ?_ | refine s_nil ?_ | refine c_cond_t rfl ?_ | refine c_cond_f rfl ?_ | refine c_skip ?_ | refine c_ret ?_ | refine p_then_ret ?_ | refine p_end ?_ | refine c_if_t rfl (by omega) ?_ | refine c_if_f rfl (by omega) ?_)
      exact k_ret [] rfl (l' := rcC b v2 :: c2 ++ G) (Keep.trans (.of_perm List.perm_middle) (.drop (keep_new _ c2 cs G))) (by (repeat (first | apply ResS.nil | (apply rs_tmp; (· rfl)) | (apply rs_cell1; (· rfl); (· ((repeat (first | with_reducible apply List.mem_cons_self | with_reducible apply List.mem_cons_of_mem)); try with_reducible assumption)); (· rfl)) | (apply rs_cellA; (· rfl); (· ((repeat (first | with_reducible apply List.mem_cons_self | with_reducible apply List.mem_cons_of_mem)); try with_reducible assumption)); (· (repeat (first | with_reducible apply LSub.done | with_reducible apply LSub.take | with_reducible apply LSub.drop))))))) ⟨rfl, _, ⟨_, _, rfl, by rw [List.length_append, ncs_snoc]; exact ho2⟩, rfl⟩
    · skip
      apply pl_eS
      · exact e_litA (k := 3) (e := 31) (ws := nV (s, 0)) (zs := [.int .i64 0, .int .i64 0, .int .i64 0]) rfl rfl rfl (by decide) (by decide)
      · rfl
      · rfl
      · rfl
      · rintro _ _ ⟨bl, _, _, rfl⟩ c hc
        exact .tail _ ((by rw [List.mem_singleton.1 hc]; exact .head _))
      · rintro _ _ ⟨bl, _, rfl, rfl⟩ x hx _ c hc
        exact .tail _ ((by rw [List.mem_singleton.1 hx] at hc; rw [List.mem_singleton.1 hc]; exact .tail _ (.head _)))
      rintro _ _ ⟨bl, _, rfl, rfl⟩
      repeat (first | refine pl_nil ?_ | (show PlanS _ _ _ _ _ _ _ _ _ _ ((_, true, _) :: _) _ _ _; first | refine pzq ?_) | (show PlanS _ _ _ _ _ _ _ _ none [] ((_, false, _) :: _) _ _ _; first | refine pzn ?_ | refine pze ?_))
      apply pl_eS
      · exact e_copy (k := 3) (e := 31) (n := D.length) (xs := ncs D) (cs := cs) (zs := [.int .i64 0, .int .i64 0, .int .i64 0]) rfl rfl rfl ho (fun c hc => .tail _ (.tail _ (.tail _ (List.mem_append_left _ hc)))) ncs_ones hn (by decide)
      · rfl
      · rfl
      · rfl
      · rintro _ _ ⟨c1, _, rfl⟩ c hc
        exact List.mem_append_right _ (by rw [List.mem_singleton.1 hc]; exact .tail _ (.head _))
      · rintro _ _ ⟨c1, _, rfl⟩ x hx _ c hc
        exact List.mem_append_right _ (by rw [List.mem_singleton.1 hx] at hc; rw [List.mem_singleton.1 hc]; exact .tail _ (.tail _ (.head _)))
      rintro v1 _ ⟨c1, ho1, rfl⟩
      repeat (first | refine pl_nil ?_ | (show PlanS _ _ _ _ _ _ _ _ _ _ ((_, true, _) :: _) _ _ _; first | refine pzq ?_) | (show PlanS _ _ _ _ _ _ _ _ none [] ((_, false, _) :: _) _ _ _; first | refine pzn ?_ | refine pze ?_))
      apply pl_eS
      · exact e_appY (k := 3) (cs := c1) (F := slC b3 s :: rcC b v :: (cs ++ G)) (xs := ncs D) (n := D.length) (zs := [.int .i64 0, .int .i64 0, .int .i64 0]) (ws := nV (s, 0)) rfl rfl rfl ho1 rfl (nV_ones _) hn (by decide)
      · rfl
      · rfl
      · rfl
      · rintro _ _ ⟨c2, _, rfl⟩ c hc
        exact List.mem_append_right c2 (by rw [List.mem_singleton.1 hc]; exact .head _)
      · exact fun _ _ _ x hx ha => anc_all (by kernel_rfl) hx ha
      rintro v2 _ ⟨c2, ho2, rfl⟩
      have hv2 : v2.oneCell' = true := ho2.one
      repeat (first | refine pl_nil ?_ | (show PlanS _ _ _ _ _ _ _ _ _ _ ((_, true, _) :: _) _ _ _; first | refine pzq ?_) | (show PlanS _ _ _ _ _ _ _ _ none [] ((_, false, _) :: _) _ _ _; first | refine pzn ?_ | refine pze ?_))
      apply pl_nS
      · exact e_store (b := b) (off := 0) rfl rfl hv2 (upd_pre (.there .here) c2) (by simp)
      · rfl
      · rfl
      · rintro _ _ ⟨rfl, rfl⟩ c hc
        exact List.mem_append_right _ (by rw [List.mem_singleton.1 hc]; exact .head _)
      · exact fun _ _ _ x hx ha => anc_all (by kernel_rfl) hx ha
      rintro _ _ ⟨rfl, rfl⟩
      repeat (first | refine pl_nil ?_ | (show PlanS _ _ _ _ _ _ _ _ _ _ ((_, true, _) :: _) _ _ _; first | refine pzq ?_) | (show PlanS _ _ _ _ _ _ _ _ none [] ((_, false, _) :: _) _ _ _; first | refine pzn ?_ | refine pze ?_))
      repeat (first | (show OpsS _ _ _ _ _ _ (_ :: _) _ _ _; first | refine ozq ?_) | refine c_seq ?_ | refine p_then ?_ | refine c_region ?_ | refine s_nil ?_ | refine c_cond_t rfl ?_ | refine c_cond_f rfl ?_ | refine c_skip ?_ | refine c_ret ?_ | refine p_then_ret ?_ | refine p_end ?_ | refine c_if_t rfl (by omega) ?_ | refine c_if_f rfl (by omega) ?_)
      exact k_ret [] rfl (l' := rcC b v2 :: c2 ++ G) (Keep.trans (.of_perm List.perm_middle) (.drop (keep_new _ c2 cs G))) (by (repeat (first | apply ResS.nil | (apply rs_tmp; (· rfl)) | (apply rs_cell1; (· rfl); (· ((repeat (first | with_reducible apply List.mem_cons_self | with_reducible apply List.mem_cons_of_mem)); try with_reducible assumption)); (· rfl)) | (apply rs_cellA; (· rfl); (· ((repeat (first | with_reducible apply List.mem_cons_self | with_reducible apply List.mem_cons_of_mem)); try with_reducible assumption)); (· (repeat (first | with_reducible apply LSub.done | with_reducible apply LSub.take | with_reducible apply LSub.drop))))))) ⟨rfl, _, ⟨_, _, rfl, by rw [List.length_append, ncs_snoc]; exact ho2⟩, rfl⟩
theorem ncs_app (A B : DT) : ncs (A ++ B) = ncs A ++ ncs B := List.flatMap_append
theorem ncs_l (A : DT) : (ncs A).length = A.length * 3 := by
  induction A with
  | nil => rfl
  | cons x r ih => rw [show x :: r = [x] ++ r from rfl, ncs_app, List.length_append, ih, List.length_append, Nat.add_mul]; rfl
theorem ncs_fst {A B : DT} {sp : List Value} {j : Nat} {u : Value} (h : (ncs A)[j]? = some u) : (List.toArray (ncs (A ++ B) ++ sp))[0 + j]? = some u := by
  have hl := (List.getElem?_eq_some_iff.1 h).1
  rw [Nat.zero_add, List.getElem?_toArray, ncs_app, List.append_assoc, List.getElem?_append_left hl]; exact h
theorem ncs_snd {A B : DT} {sp : List Value} {j : Nat} {u : Value} (h : (ncs B)[j]? = some u) : (List.toArray (ncs (A ++ B) ++ sp))[A.length * 3 + j]? = some u := by
  have hl := (List.getElem?_eq_some_iff.1 h).1
  rw [List.getElem?_toArray, ncs_app, List.append_assoc, List.getElem?_append_right (by rw [ncs_l]; omega), ncs_l, Nat.add_sub_cancel_left, List.getElem?_append_left hl]; exact h
theorem ncs_dep {A B : DT} {x : SlotT × Int} {sp : List Value} : (List.toArray (ncs (A ++ x :: B) ++ sp))[A.length * 3 + 2]? = some (.int .i64 x.2) := ncs_snd (B := x :: B) rfl
theorem rchild_any (b : Nat) (D : DT) (lr : List Chunk) (hr : IsR b D lr) (hn : D.length ≤ 900000) (hd : SmallD D) (par s : SlotT) (G : List Chunk) :
    Fn Try.prog 39 [.pointer (some ⟨b, 0, none⟩), .agg (List.toArray (encT par)), .agg (List.toArray (encT s))] (lr ++ G) fun v l' => v = .int .i64 (childD D par s).1 ∧ ∃ lr', IsR b (childD D par s).2 lr' ∧ l' = lr' ++ G := by
  have hr0 := hr
  obtain ⟨v, cs, rfl, ho⟩ := hr
  have hv1 : v.oneCell' = true := ho.one
  refine fn_of_body Try.func39 rfl rfl fun E => ?_
  simp only [argF, Try.ntmps39]
  repeat (first | (show OpsS _ _ _ _ _ _ (_ :: _) _ _ _; first | refine ozq ?_ | refine ozn ?_) | refine c_seq ?_ | refine p_then ?_ | refine c_region ?_ | refine s_nil ?_ | refine c_cond_t rfl ?_ | refine c_cond_f rfl ?_ | refine c_skip ?_ | refine c_ret ?_ | refine p_then_ret ?_ | refine p_end ?_ | refine c_if_t rfl (by omega) ?_ | refine c_if_f rfl (by omega) ?_)
  (first | refine t_e (e_box1 rfl rfl) rfl rfl rfl ?_ | refine t_e (e_boxA rfl) rfl rfl rfl ?_); rintro _ _ ⟨b4, _, rfl, rfl⟩
  repeat (first | (show OpsS _ _ _ _ _ _ (_ :: _) _ _ _; first | refine ozq ?_ | refine ozn ?_) | refine c_seq ?_ | refine p_then ?_ | refine c_region ?_ | refine s_nil ?_ | refine c_cond_t rfl ?_ | refine c_cond_f rfl ?_ | refine c_skip ?_ | refine c_ret ?_ | refine p_then_ret ?_ | refine p_end ?_ | refine c_if_t rfl (by omega) ?_ | refine c_if_f rfl (by omega) ?_)
  (first | refine t_e (e_box1 rfl rfl) rfl rfl rfl ?_ | refine t_e (e_boxA rfl) rfl rfl rfl ?_); rintro _ _ ⟨b5, _, rfl, rfl⟩
  repeat (first | (show OpsS _ _ _ _ _ _ (_ :: _) _ _ _; first | refine ozq ?_ | refine ozn ?_) | refine c_seq ?_ | refine p_then ?_ | refine c_region ?_ | refine s_nil ?_ | refine c_cond_t rfl ?_ | refine c_cond_f rfl ?_ | refine c_skip ?_ | refine c_ret ?_ | refine p_then_ret ?_ | refine p_end ?_ | refine c_if_t rfl (by omega) ?_ | refine c_if_f rfl (by omega) ?_)
  refine t_q (q_call rfl rfl fun l2 hl => rat_any b D _ hr0 (by omega) par l2 fun c hc => hl c (.tail _ (.tail _ (List.mem_append_left _ hc)))) rfl rfl rfl ?_
  cases hsp : splitD par D with
  | none =>
    rw [idx_neg hsp, show childD D par s = (10, D) by unfold childD; rw [hsp]]
    repeat (first | (show OpsS _ _ _ _ _ _ (_ :: _) _ _ _; first | refine ozq ?_ | refine ozn ?_) | refine c_seq ?_ | refine p_then ?_ | refine c_region ?_ | refine s_nil ?_ | refine c_cond_t rfl ?_ | refine c_cond_f rfl ?_ | refine c_skip ?_ | refine c_ret ?_ | refine p_then_ret ?_ | refine p_end ?_ | refine c_if_t rfl (by omega) ?_ | refine c_if_f rfl (by omega) ?_)
    exact k_ret [] rfl (.drop (.drop .refl)) (by (repeat (first | apply ResS.nil | (apply rs_tmp; (· rfl)) | (apply rs_cell1; (· rfl); (· ((repeat (first | with_reducible apply List.mem_cons_self | with_reducible apply List.mem_cons_of_mem)); try with_reducible assumption)); (· rfl)) | (apply rs_cellA; (· rfl); (· ((repeat (first | with_reducible apply List.mem_cons_self | with_reducible apply List.mem_cons_of_mem)); try with_reducible assumption)); (· (repeat (first | with_reducible apply LSub.done | with_reducible apply LSub.take | with_reducible apply LSub.drop))))))) ⟨rfl, _, hr0, rfl⟩
  | some z =>
    obtain ⟨A, d, B⟩ := z
    obtain ⟨e1, e2, e3⟩ := idx_of hsp
    have hdd := hd (par, d) (List.mem_of_getElem? e3)
    simp only at hdd
    rw [e1]
    repeat (first | (show OpsS _ _ _ _ _ _ (_ :: _) _ _ _; first | refine ozq ?_ | refine ozn ?_) | refine c_seq ?_ | refine p_then ?_ | refine c_region ?_ | refine s_nil ?_ | refine c_cond_t rfl ?_ | refine c_cond_f rfl ?_ | refine c_skip ?_ | refine c_ret ?_ | refine p_then_ret ?_ | refine p_end ?_ | refine c_if_t rfl (by omega) ?_ | refine c_if_f rfl (by omega) ?_)
    refine t_q (q_call rfl rfl fun l2 hl => rat_any b D _ hr0 (by omega) s l2 fun c hc => hl c (.tail _ (.tail _ (List.mem_append_left _ hc)))) rfl rfl rfl ?_
    cases hss : splitD s D with
    | some z =>
      obtain ⟨A2, d2, B2⟩ := z
      obtain ⟨f1, f2, f3⟩ := idx_of hss
      rw [f1, show childD D par s = (11, D) by unfold childD hasD; rw [hsp, hss]; rfl]
      repeat (first | (show OpsS _ _ _ _ _ _ (_ :: _) _ _ _; first | refine ozq ?_ | refine ozn ?_) | refine c_seq ?_ | refine p_then ?_ | refine c_region ?_ | refine s_nil ?_ | refine c_cond_t rfl ?_ | refine c_cond_f rfl ?_ | refine c_skip ?_ | refine c_ret ?_ | refine p_then_ret ?_ | refine p_end ?_ | refine c_if_t rfl (by omega) ?_ | refine c_if_f rfl (by omega) ?_)
      exact k_ret [] rfl (.drop (.drop .refl)) (by (repeat (first | apply ResS.nil | (apply rs_tmp; (· rfl)) | (apply rs_cell1; (· rfl); (· ((repeat (first | with_reducible apply List.mem_cons_self | with_reducible apply List.mem_cons_of_mem)); try with_reducible assumption)); (· rfl)) | (apply rs_cellA; (· rfl); (· ((repeat (first | with_reducible apply List.mem_cons_self | with_reducible apply List.mem_cons_of_mem)); try with_reducible assumption)); (· (repeat (first | with_reducible apply LSub.done | with_reducible apply LSub.take | with_reducible apply LSub.drop))))))) ⟨rfl, _, hr0, rfl⟩
    | none =>
      rw [idx_neg hss, show childD D par s = (0, A ++ (par, d) :: (s, d + 1) :: B) by unfold childD hasD; rw [hsp, hss]; rfl]
      have hlD : D.length = A.length + 1 + B.length := by rw [e2]; simp; omega
      rcases ho.2 with ⟨_, h0, _⟩ | ⟨gb, cap, sp, rfl, rfl, hnc, hcm, hcl⟩
      · omega
      have hg : (List.toArray (ncs D ++ sp))[A.length * 3 + 2]? = some (.int .i64 d) := by rw [e2]; exact ncs_dep
      have hn1 : ∀ j u, (ncs (A ++ [(par, d)]))[j]? = some u → (List.toArray (ncs D ++ sp))[0 + j]? = some u := fun j u h => by
        rw [e2, show A ++ (par, d) :: B = (A ++ [(par, d)]) ++ B by simp]; exact ncs_fst h
      have hn2 : ∀ j u, (ncs B)[j]? = some u → (List.toArray (ncs D ++ sp))[(A.length + 1) * 3 + j]? = some u := fun j u h => by
        rw [e2, show A ++ (par, d) :: B = (A ++ [(par, d)]) ++ B by simp, show A.length + 1 = (A ++ [(par, d)]).length by simp]; exact ncs_snd h
      have hbl : ∀ j u, (ncs B)[j]? = some u → A.length + 1 < cap := fun j u h => by
        have := (List.getElem?_eq_some_iff.1 h).1
        rw [ncs_l] at this
        omega
      obtain ⟨off', hoff⟩ : ∃ o, (if cap = A.length + 1 then 0 else 0 + (A.length + 1) * 3) = o := ⟨_, rfl⟩
      have hn3 : ∀ j u, (ncs B)[j]? = some u → (List.toArray (ncs D ++ sp))[off' + j]? = some u := fun j u h => by
        have := hbl j u h
        rw [← hoff, if_neg (by omega), Nat.zero_add]; exact hn2 j u h
      generalize hL0 : slC b5 s :: slC b4 par :: rcC b (.slice (some ⟨gb, 0, none⟩) D.length cap) :: (gb, .cells (List.toArray (ncs D ++ sp)) 31 (0, 0)) :: G = L0
      simp only [List.cons_append, List.nil_append]
      have hm1 : rcC b (.slice (some ⟨gb, 0, none⟩) D.length cap) ∈ L0 := by rw [← hL0]; exact .tail _ (.tail _ (.head _))
      have hm2 : (gb, Obj.cells (List.toArray (ncs D ++ sp)) 31 (0, 0)) ∈ L0 := by rw [← hL0]; exact .tail _ (.tail _ (.tail _ (.head _)))
      have hm3 : slC b5 s ∈ L0 := by rw [← hL0]; exact .head _
      rw [hL0]
      repeat (first | (show OpsS _ _ _ _ _ _ (_ :: _) _ _ _; first | refine ozq ?_ | refine ozn ?_) | refine c_seq ?_ | refine p_then ?_ | refine c_region ?_ | refine s_nil ?_ | refine c_cond_t rfl ?_ | refine c_cond_f rfl ?_ | refine c_skip ?_ | refine c_ret ?_ | refine p_then_ret ?_ | refine p_end ?_ | refine c_if_t rfl (by omega) ?_ | refine c_if_f rfl (by omega) ?_)
      refine t_q (q_slice (l0 := 0) (h0 := A.length + 1) (m0 := cap) (off' := 0) (n' := A.length + 1) (c' := cap) rfl .none (.some rfl (by omega) (by omega)) .none (by simp) (by omega) (by omega) (by omega) (by simp) (by omega) (by omega)) rfl rfl rfl ?_
      refine t_e (ce_append (k := 3) (e := 31) (xs := []) (cs := []) (F := L0) (news := ncs (A ++ [(par, d)])) (zs := [.int .i64 0, .int .i64 0, .int .i64 0]) (cl := List.toArray (ncs D ++ sp)) rfl rfl rfl (OwnSl.nil _ _) hm2 hn1 (by rw [ncs_l]; simp) ncs_ones (by unfold maxLen; omega) (by omega)) rfl rfl rfl ?_
      rintro v1 _ ⟨c1, ho1, rfl⟩
      rw [List.nil_append, Nat.zero_add] at ho1
      repeat (first | (show OpsS _ _ _ _ _ _ (_ :: _) _ _ _; first | refine ozq ?_ | refine ozn ?_) | refine c_seq ?_ | refine p_then ?_ | refine c_region ?_ | refine s_nil ?_ | refine c_cond_t rfl ?_ | refine c_cond_f rfl ?_ | refine c_skip ?_ | refine c_ret ?_ | refine p_then_ret ?_ | refine p_end ?_ | refine c_if_t rfl (by omega) ?_ | refine c_if_f rfl (by omega) ?_)
      refine c_draw [(0, true), (1, true), (2, true), (3, true), (4, true), (5, true), (6, true), (7, true), (8, true), (9, true), (10, true), (11, true), (12, false), (13, false), (14, true)] [[], [], [], [2], [2, 3], [2, 3, 4], [], [2, 3, 4, 5, 6], [2, 3, 4, 5, 6, 7], [2, 3, 4, 5, 6, 7, 8], [2, 3, 4, 5, 6, 7, 8, 9], [1, 2, 3, 4, 5, 6, 7, 8, 9, 10], [1, 2, 3, 4, 5, 6, 7, 8, 9, 10, 11], [0, 1, 2, 3, 4, 5, 6, 7, 8, 9, 10, 11, 12], [0, 1, 2, 3, 4, 5, 6, 7, 8, 9, 10, 11, 12, 13]] (L0) (by kernel_rfl) (by kernel_rfl) (by (repeat (first | apply Attach.nil | (apply Attach.cons; · rfl)))) (fun c hc => List.mem_append_right c1 hc) ?_
      repeat (first | refine pl_nil ?_ | (show PlanS _ _ _ _ _ _ _ _ _ _ ((_, true, _) :: _) _ _ _; first | refine pzq ?_) | (show PlanS _ _ _ _ _ _ _ _ none [] ((_, false, _) :: _) _ _ _; first | refine pze ?_))
      apply pl_e
      · exact e_litA (k := 3) (e := 31) (ws := nV (s, d + 1)) (zs := [.int .i64 0, .int .i64 0, .int .i64 0]) rfl rfl rfl (by decide) (by decide)
      · rfl
      · rfl
      · rfl
      · rintro _ _ ⟨bl, _, _, rfl⟩ c hc
        exact .tail _ (List.mem_append_right c1 hc)
      rintro _ _ ⟨bl, _, rfl, rfl⟩
      repeat (first | refine pl_nil ?_ | (show PlanS _ _ _ _ _ _ _ _ _ _ ((_, true, _) :: _) _ _ _; first | refine pzq ?_) | (show PlanS _ _ _ _ _ _ _ _ none [] ((_, false, _) :: _) _ _ _; first | refine pze ?_))
      apply pl_e
      · exact e_appX (k := 3) (X := []) (cs := c1) (F := L0) (xs := ncs (A ++ [(par, d)])) (n := A.length + 1) (zs := [.int .i64 0, .int .i64 0, .int .i64 0]) (ws := nV (s, d + 1)) rfl rfl rfl ho1 rfl (nV_ones _) (by omega) (by decide)
      · rfl
      · rfl
      · rfl
      · rintro _ _ ⟨c2, _, rfl⟩ c hc
        exact List.mem_append_right c2 hc
      rintro v2 _ ⟨c2, ho2, rfl⟩
      have hv2 : v2.oneCell' = true := ho2.one
      simp only [List.nil_append]
      have hm4 : rcC b (.slice (some ⟨gb, 0, none⟩) D.length cap) ∈ c2 ++ L0 := List.mem_append_right c2 hm1
      repeat (first | refine pl_nil ?_ | (show PlanS _ _ _ _ _ _ _ _ _ _ ((_, true, _) :: _) _ _ _; first | refine pzq ?_) | (show PlanS _ _ _ _ _ _ _ _ none [] ((_, false, _) :: _) _ _ _; first | refine pze ?_))
      repeat (first | (show OpsS _ _ _ _ _ _ (_ :: _) _ _ _; first | refine ozq ?_ | refine ozn ?_) | refine c_seq ?_ | refine p_then ?_ | refine c_region ?_ | refine s_nil ?_ | refine c_cond_t rfl ?_ | refine c_cond_f rfl ?_ | refine c_skip ?_ | refine c_ret ?_ | refine p_then_ret ?_ | refine p_end ?_ | refine c_if_t rfl (by omega) ?_ | refine c_if_f rfl (by omega) ?_)
      refine t_q (q_slice (l0 := A.length + 1) (h0 := D.length) (m0 := cap) (off' := off') (n' := B.length) rfl (.some rfl (by omega) (by omega)) .none .none (by simp) (by omega) (by omega) (by omega) hoff (by omega) rfl) rfl rfl rfl ?_
      refine t_e (ce_append (k := 3) (e := 31) (m := B.length) (xs := ncs (A ++ [(par, d)]) ++ nV (s, d + 1)) (cs := c2) (F := L0) (news := ncs B) (zs := [.int .i64 0, .int .i64 0, .int .i64 0]) (cl := List.toArray (ncs D ++ sp)) rfl rfl rfl ho2 (List.mem_append_right c2 hm2) hn3 (ncs_l B) ncs_ones (by unfold maxLen; omega) (by omega)) rfl rfl rfl ?_
      rintro v3 _ ⟨c3, ho3, rfl⟩
      have hv3 : v3.oneCell' = true := ho3.one
      rw [← hL0]
      repeat (first | (show OpsS _ _ _ _ _ _ (_ :: _) _ _ _; first | refine ozq ?_ | refine ozn ?_) | refine c_seq ?_ | refine p_then ?_ | refine c_region ?_ | refine s_nil ?_ | refine c_cond_t rfl ?_ | refine c_cond_f rfl ?_ | refine c_skip ?_ | refine c_ret ?_ | refine p_then_ret ?_ | refine p_end ?_ | refine c_if_t rfl (by omega) ?_ | refine c_if_f rfl (by omega) ?_)
      refine t_n (e_store (b := b) (off := 0) rfl rfl hv3 (upd_pre (.there (.there .here)) c3) (by simp)) rfl rfl ?_
      rintro _ _ ⟨rfl, rfl⟩
      repeat (first | (show OpsS _ _ _ _ _ _ (_ :: _) _ _ _; first | refine ozq ?_ | refine ozn ?_) | refine c_seq ?_ | refine p_then ?_ | refine c_region ?_ | refine s_nil ?_ | refine c_cond_t rfl ?_ | refine c_cond_f rfl ?_ | refine c_skip ?_ | refine c_ret ?_ | refine p_then_ret ?_ | refine p_end ?_ | refine c_if_t rfl (by omega) ?_ | refine c_if_f rfl (by omega) ?_)
      refine k_ret [] rfl (l' := rcC b v3 :: c3 ++ G) (Keep.trans (.of_perm List.perm_middle) (.drop (Keep.trans (.of_perm List.perm_middle) (.drop (keep_new _ c3 [(gb, .cells (List.toArray (ncs D ++ sp)) 31 (0, 0))] G))))) (by (repeat (first | apply ResS.nil | (apply rs_tmp; (· rfl)) | (apply rs_cell1; (· rfl); (· ((repeat (first | with_reducible apply List.mem_cons_self | with_reducible apply List.mem_cons_of_mem)); try with_reducible assumption)); (· rfl)) | (apply rs_cellA; (· rfl); (· ((repeat (first | with_reducible apply List.mem_cons_self | with_reducible apply List.mem_cons_of_mem)); try with_reducible assumption)); (· (repeat (first | with_reducible apply LSub.done | with_reducible apply LSub.take | with_reducible apply LSub.drop))))))) ⟨rfl, _, ⟨_, _, rfl, ?_⟩, rfl⟩
      have e5 : ncs (A ++ [(par, d)]) ++ nV (s, d + 1) ++ ncs B = ncs (A ++ (par, d) :: (s, d + 1) :: B) := by
        rw [← ncs_snoc, ← ncs_app]; simp
      rw [e5] at ho3
      have e6 : (A ++ (par, d) :: (s, d + 1) :: B).length = A.length + 1 + 1 + B.length := by simp; omega
      rw [e6]; exact ho3
end Go.Proofs.Ytidkpfkkljcnaaa
