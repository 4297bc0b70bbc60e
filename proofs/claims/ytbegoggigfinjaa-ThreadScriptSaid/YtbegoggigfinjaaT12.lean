/- Chapter 20's own answer: Add, Drop, Set. -/
import Derived.Test.YtbegoggigfinjaaU0
import Derived.Test.YtbegoggigfinjaaT11
set_option linter.unusedVariables false
set_option linter.unusedSimpArgs false
namespace Go.Proofs.Ytbegoggigfinjaa
open Go.RowKit

set_option pp.deepTerms false
set_option pp.deepTerms.threshold 4
set_option maxHeartbeats 400000
theorem encH_ones (t : ThT) : ∀ u ∈ encH t, u.oneCell' = true := by simp [Value.oneCell']
theorem thcs_ones {L : TL} : ∀ u ∈ thcs L, u.oneCell' = true := fun u hu => by
  obtain ⟨t, _, h⟩ := List.mem_flatMap.1 hu
  exact encH_ones t u h
theorem thcs_app (A B : TL) : thcs (A ++ B) = thcs A ++ thcs B := List.flatMap_append
theorem thcs_l (A : TL) : (thcs A).length = A.length * 24 := by
  induction A with
  | nil => rfl
  | cons x r ih => rw [show x :: r = [x] ++ r from rfl, thcs_app, List.length_append, ih, List.length_append, Nat.add_mul]; rfl
theorem thcs_fst {A B : TL} {sp : List Value} {j : Nat} {u : Value} (h : (thcs A)[j]? = some u) : (List.toArray (thcs (A ++ B) ++ sp))[0 + j]? = some u := by
  have hl := (List.getElem?_eq_some_iff.1 h).1
  rw [Nat.zero_add, List.getElem?_toArray, thcs_app, List.append_assoc, List.getElem?_append_left hl]; exact h
theorem thcs_snd {A B : TL} {sp : List Value} {j : Nat} {u : Value} (h : (thcs B)[j]? = some u) : (List.toArray (thcs (A ++ B) ++ sp))[A.length * 24 + j]? = some u := by
  have hl := (List.getElem?_eq_some_iff.1 h).1
  rw [List.getElem?_toArray, thcs_app, List.append_assoc, List.getElem?_append_right (by rw [thcs_l]; omega), thcs_l, Nat.add_sub_cancel_left, List.getElem?_append_left hl]; exact h
theorem setFrom_mid : ∀ (us ws X Y : List Value), us.length = ws.length → setFrom (List.toArray (X ++ (us ++ Y))) X.length ws = List.toArray (X ++ (ws ++ Y))
  | [], [], X, Y, _ => rfl
  | u :: us, w :: ws, X, Y, h => by
    have h1 : (List.toArray (X ++ (u :: us ++ Y))).setIfInBounds X.length w = List.toArray ((X ++ [w]) ++ (us ++ Y)) := by
      apply Array.toList_inj.1
      rw [Array.toList_setIfInBounds]
      show (X ++ (u :: (us ++ Y))).set X.length w = _
      rw [List.set_append_right _ _ (by omega), Nat.sub_self, List.set_cons_zero]
      simp
    unfold setFrom
    rw [h1]
    have h2 := setFrom_mid us ws (X ++ [w]) Y (by simpa using h)
    rw [List.length_append] at h2
    rw [show X.length + 1 = X.length + [w].length from rfl, h2]
    simp
theorem set_thcs {A B : TL} {x t : ThT} {sp : List Value} : setFrom (List.toArray (thcs (A ++ x :: B) ++ sp)) (A.length * 24) (encH t) = List.toArray (thcs (A ++ t :: B) ++ sp) := by
  have e : ∀ y : ThT, thcs (A ++ y :: B) ++ sp = thcs A ++ (encH y ++ (thcs B ++ sp)) := fun y => by
    rw [show A ++ y :: B = A ++ ([y] ++ B) from rfl, thcs_app, thcs_app]
    simp [thcs]
  rw [e x, e t, ← thcs_l A]
  exact setFrom_mid _ _ _ _ rfl
theorem put_split {A B : TL} {x t : ThT} (h : (A ++ x :: B).Pairwise fun x y => x.id < y.id) (hx : x.id = t.id) : putH (A ++ x :: B) t = A ++ t :: B := by
  obtain ⟨_, h2, h3⟩ := List.pairwise_append.1 h
  have h4 := (List.pairwise_cons.1 h2).1
  unfold putH
  rw [List.map_append, List.map_cons, if_pos hx]
  have e1 : A.map (fun x => if x.id = t.id then t else x) = A := by
    conv => rhs; rw [← List.map_id A]
    apply List.map_congr_left
    intro y hy
    have := h3 y hy x List.mem_cons_self
    rw [if_neg (by omega)]; rfl
  have e2 : B.map (fun x => if x.id = t.id then t else x) = B := by
    conv => rhs; rw [← List.map_id B]
    apply List.map_congr_left
    intro y hy
    have := h4 y hy
    rw [if_neg (by omega)]; rfl
  rw [e1, e2]
theorem drop_split {A B : TL} {x : ThT} {a : Int} (h : (A ++ x :: B).Pairwise fun x y => x.id < y.id) (hx : x.id = a) : (A ++ x :: B).filter (fun x => decide (x.id ≠ a)) = A ++ B := by
  obtain ⟨_, h2, h3⟩ := List.pairwise_append.1 h
  have h4 := (List.pairwise_cons.1 h2).1
  rw [List.filter_append, List.filter_cons_of_neg (by simpa using hx)]
  rw [List.filter_eq_self.2 fun y hy => by have := h3 y hy x List.mem_cons_self; simp; omega, List.filter_eq_self.2 fun y hy => by have := h4 y hy; simp; omega]
theorem rset_any (b : Nat) (L : TL) (lr : List Chunk) (hr : IsRX b L lr) (hn : L.length ≤ 900000) (hs : L.Pairwise fun x y => x.id < y.id) (t : ThT) (G : List Chunk) :
    Fn Try.prog 17 [.pointer (some ⟨b, 0, none⟩), thV t] (lr ++ G) fun v l' => v = .int .i64 (setD L t).1 ∧ ∃ lr', IsRX b (setD L t).2 lr' ∧ l' = lr' ++ G := by
  have hr0 := hr
  obtain ⟨v, cs, rfl, ho⟩ := hr
  have hv1 : v.oneCell' = true := ho.one
  refine fn_of_body Try.func17 rfl rfl fun E => ?_
  simp only [argF, Try.ntmps17]
  repeat (first | (show OpsS _ _ _ _ _ _ (_ :: _) _ _ _; first | refine ozq ?_ | refine ozs ?_ | refine ozs0 ?_ | refine ozt ?_ | refine ozf ?_ | refine ozn ?_) | refine c_seq ?_ | refine p_then ?_ | refine c_region ?_ | refine s_nil ?_ | refine c_cond_t rfl ?_ | refine c_cond_f rfl ?_ | refine c_skip ?_ | refine c_ret ?_ | refine p_then_ret ?_ | refine p_end ?_ | refine c_if_t rfl (by omega) ?_ | refine c_if_f rfl (by omega) ?_)
  (first | refine t_e (e_box1 rfl rfl) rfl rfl rfl ?_ | refine t_e (e_boxA rfl) rfl rfl rfl ?_); rintro _ _ ⟨b3, _, rfl, rfl⟩
  repeat (first | (show OpsS _ _ _ _ _ _ (_ :: _) _ _ _; first | refine ozq ?_ | refine ozs ?_ | refine ozs0 ?_ | refine ozt ?_ | refine ozf ?_ | refine ozn ?_) | refine c_seq ?_ | refine p_then ?_ | refine c_region ?_ | refine s_nil ?_ | refine c_cond_t rfl ?_ | refine c_cond_f rfl ?_ | refine c_skip ?_ | refine c_ret ?_ | refine p_then_ret ?_ | refine p_end ?_ | refine c_if_t rfl (by omega) ?_ | refine c_if_f rfl (by omega) ?_)
  refine t_q (q_call rfl rfl fun l2 hl => rat_any b L _ hr0 hn t.id l2 fun c hc => hl c (.tail _ (List.mem_append_left _ hc))) rfl rfl rfl ?_
  repeat (first | (show OpsS _ _ _ _ _ _ (_ :: _) _ _ _; first | refine ozq ?_ | refine ozs ?_ | refine ozs0 ?_ | refine ozt ?_ | refine ozf ?_ | refine ozn ?_) | refine c_seq ?_ | refine p_then ?_ | refine c_region ?_ | refine s_nil ?_ | refine c_cond_t rfl ?_ | refine c_cond_f rfl ?_ | refine c_skip ?_ | refine c_ret ?_ | refine p_then_ret ?_ | refine p_end ?_ | refine c_if_t rfl (by omega) ?_ | refine c_if_f rfl (by omega) ?_)
  refine t_q (q_call rfl rfl fun l2 _ => rmay_any t l2) rfl rfl rfl ?_
  cases hM : mayH t with
  | false =>
    rw [show setD L t = (2, L) by unfold setD; rw [hM]; simp]
    repeat (first | (show OpsS _ _ _ _ _ _ (_ :: _) _ _ _; first | refine ozq ?_ | refine ozs ?_ | refine ozs0 ?_ | refine ozt ?_ | refine ozf ?_ | refine ozn ?_) | refine c_seq ?_ | refine p_then ?_ | refine c_region ?_ | refine s_nil ?_ | refine c_cond_t rfl ?_ | refine c_cond_f rfl ?_ | refine c_skip ?_ | refine c_ret ?_ | refine p_then_ret ?_ | refine p_end ?_ | refine c_if_t rfl (by omega) ?_ | refine c_if_f rfl (by omega) ?_)
    exact k_ret [] rfl (.drop .refl) (by (repeat (first | apply ResS.nil | (apply rs_tmp; (· rfl)) | (apply rs_cell1; (· rfl); (· ((repeat (first | with_reducible apply List.mem_cons_self | with_reducible apply List.mem_cons_of_mem)); try with_reducible assumption)); (· rfl)) | (apply rs_cellA; (· rfl); (· ((repeat (first | with_reducible apply List.mem_cons_self | with_reducible apply List.mem_cons_of_mem)); try with_reducible assumption)); (· (repeat (first | with_reducible apply LSub.done | with_reducible apply LSub.take | with_reducible apply LSub.drop))))))) ⟨rfl, _, hr0, rfl⟩
  | true =>
    cases hf : findH L t.id with
    | none =>
      rw [idx_neg hf, show setD L t = (2, L) by unfold setD; rw [hf]; simp]
      repeat (first | (show OpsS _ _ _ _ _ _ (_ :: _) _ _ _; first | refine ozq ?_ | refine ozs ?_ | refine ozs0 ?_ | refine ozt ?_ | refine ozf ?_ | refine ozn ?_) | refine c_seq ?_ | refine p_then ?_ | refine c_region ?_ | refine s_nil ?_ | refine c_cond_t rfl ?_ | refine c_cond_f rfl ?_ | refine c_skip ?_ | refine c_ret ?_ | refine p_then_ret ?_ | refine p_end ?_ | refine c_if_t rfl (by omega) ?_ | refine c_if_f rfl (by omega) ?_)
      exact k_ret [] rfl (.drop .refl) (by (repeat (first | apply ResS.nil | (apply rs_tmp; (· rfl)) | (apply rs_cell1; (· rfl); (· ((repeat (first | with_reducible apply List.mem_cons_self | with_reducible apply List.mem_cons_of_mem)); try with_reducible assumption)); (· rfl)) | (apply rs_cellA; (· rfl); (· ((repeat (first | with_reducible apply List.mem_cons_self | with_reducible apply List.mem_cons_of_mem)); try with_reducible assumption)); (· (repeat (first | with_reducible apply LSub.done | with_reducible apply LSub.take | with_reducible apply LSub.drop))))))) ⟨rfl, _, hr0, rfl⟩
    | some x =>
      obtain ⟨A, B, hL, hi, hx, hA, hAt⟩ := idx_of hf
      have hlA : A.length < L.length := (List.getElem?_eq_some_iff.1 hAt).1
      rw [hi, show setD L t = (0, A ++ t :: B) by unfold setD; rw [hf, hM]; simp only [Option.isSome_some, and_self, if_true]; rw [hL, put_split (by rw [← hL]; exact hs) hx]]
      simp only [List.cons_append]
      repeat (first | (show OpsS _ _ _ _ _ _ (_ :: _) _ _ _; first | refine ozq ?_ | refine ozs ?_ | refine ozs0 ?_ | refine ozt ?_ | refine ozf ?_ | refine ozn ?_) | refine c_seq ?_ | refine p_then ?_ | refine c_region ?_ | refine s_nil ?_ | refine c_cond_t rfl ?_ | refine c_cond_f rfl ?_ | refine c_skip ?_ | refine c_ret ?_ | refine p_then_ret ?_ | refine p_end ?_ | refine c_if_t rfl (by omega) ?_ | refine c_if_f rfl (by omega) ?_)
      refine t_e (e_copy (k := 24) (e := 33) (n := L.length) (xs := thcs L) (cs := cs) rfl rfl rfl ho (fun c hc => .tail _ (.tail _ (List.mem_append_left _ hc))) thcs_ones (by omega) (by decide)) rfl rfl rfl ?_
      rintro v1 _ ⟨c1, ho1, rfl⟩
      have hv2 : v1.oneCell' = true := ho1.one
      repeat (first | (show OpsS _ _ _ _ _ _ (_ :: _) _ _ _; first | refine ozq ?_ | refine ozs ?_ | refine ozs0 ?_ | refine ozt ?_ | refine ozf ?_ | refine ozn ?_) | refine c_seq ?_ | refine p_then ?_ | refine c_region ?_ | refine s_nil ?_ | refine c_cond_t rfl ?_ | refine c_cond_f rfl ?_ | refine c_skip ?_ | refine c_ret ?_ | refine p_then_ret ?_ | refine p_end ?_ | refine c_if_t rfl (by omega) ?_ | refine c_if_f rfl (by omega) ?_)
      refine t_n (e_store (b := b) (off := 0) (l' := c1 ++ (thC b3 t :: rxC b v1 :: (cs ++ G))) rfl rfl hv2 (upd_pre (.there .here) c1) (by simp)) rfl rfl ?_
      rintro _ _ ⟨rfl, rfl⟩
      rcases ho1.2 with ⟨_, h0, _⟩ | ⟨gb, cap, sp, rfl, rfl, hnc, hcm, hcl⟩
      · omega
      simp only [List.cons_append, List.nil_append]
      repeat (first | (show OpsS _ _ _ _ _ _ (_ :: _) _ _ _; first | refine ozq ?_ | refine ozs ?_ | refine ozs0 ?_ | refine ozt ?_ | refine ozf ?_ | refine ozn ?_) | refine c_seq ?_ | refine p_then ?_ | refine c_region ?_ | refine s_nil ?_ | refine c_cond_t rfl ?_ | refine c_cond_f rfl ?_ | refine c_skip ?_ | refine c_ret ?_ | refine p_then_ret ?_ | refine p_end ?_ | refine c_if_t rfl (by omega) ?_ | refine c_if_f rfl (by omega) ?_)
      refine c_draw [(0, true), (1, true), (2, true), (3, true), (4, true), (5, true), (6, true), (7, false)] [[], [0], [0, 1], [0, 1, 2], [], [], [0, 1, 2, 3, 4, 5], [0, 1, 2, 3, 4, 5, 6]] _ (by kernel_rfl) (by kernel_rfl) (by (repeat (first | apply Attach.nil | (apply Attach.cons; · rfl)))) (fun c hc => List.Mem.tail _ hc) ?_
      repeat (first | refine pl_nil ?_ | (show PlanS _ _ _ _ _ _ _ _ _ _ ((_, true, _) :: _) _ _ _; first | refine pzq ?_) | (show PlanS _ _ _ _ _ _ _ _ none [] ((_, false, _) :: _) _ _ _; first | refine pzn ?_ | refine pze ?_))
      apply pl_n
      · exact e_storeA (b := gb) (off := A.length * 24) (cs := List.toArray (thcs L ++ sp)) (n := 24) rfl rfl rfl (by simp [Value.oneCell']) .here (by rw [List.size_toArray, List.length_append, thcs_l]; omega)
      · rfl
      · rfl
      · rintro _ _ ⟨rfl, rfl⟩ c hc
        exact .tail _ hc
      rintro _ _ ⟨rfl, rfl⟩
      have hS : setFrom (List.toArray (thcs L ++ sp)) (A.length * 24) (encH t) = List.toArray (thcs (A ++ t :: B) ++ sp) := by rw [hL]; exact set_thcs
      rw [hS]
      repeat (first | refine pl_nil ?_ | (show PlanS _ _ _ _ _ _ _ _ _ _ ((_, true, _) :: _) _ _ _; first | refine pzq ?_) | (show PlanS _ _ _ _ _ _ _ _ none [] ((_, false, _) :: _) _ _ _; first | refine pzn ?_ | refine pze ?_))
      repeat (first | (show OpsS _ _ _ _ _ _ (_ :: _) _ _ _; first | refine ozq ?_ | refine ozs ?_ | refine ozs0 ?_ | refine ozt ?_ | refine ozf ?_ | refine ozn ?_) | refine c_seq ?_ | refine p_then ?_ | refine c_region ?_ | refine s_nil ?_ | refine c_cond_t rfl ?_ | refine c_cond_f rfl ?_ | refine c_skip ?_ | refine c_ret ?_ | refine p_then_ret ?_ | refine p_end ?_ | refine c_if_t rfl (by omega) ?_ | refine c_if_f rfl (by omega) ?_)
      have hl2 : (A ++ t :: B).length = L.length := by rw [hL]; simp
      refine k_ret [] rfl (l' := rxC b (.slice (some ⟨gb, 0, none⟩) L.length cap) :: [(gb, .cells (List.toArray (thcs (A ++ t :: B) ++ sp)) 33 (0, 0))] ++ G) (Keep.trans (Keep.of_perm (List.perm_middle (l₁ := [_]))) (.drop (keep_new _ [_] cs G))) (by (repeat (first | apply ResS.nil | (apply rs_tmp; (· rfl)) | (apply rs_cell1; (· rfl); (· ((repeat (first | with_reducible apply List.mem_cons_self | with_reducible apply List.mem_cons_of_mem)); try with_reducible assumption)); (· rfl)) | (apply rs_cellA; (· rfl); (· ((repeat (first | with_reducible apply List.mem_cons_self | with_reducible apply List.mem_cons_of_mem)); try with_reducible assumption)); (· (repeat (first | with_reducible apply LSub.done | with_reducible apply LSub.take | with_reducible apply LSub.drop))))))) ⟨rfl, _, ⟨_, _, rfl, ?_⟩, rfl⟩
      rw [hl2]
      refine ⟨by rw [thcs_l, hl2], .inr ⟨gb, cap, sp, rfl, rfl, hnc, hcm, ?_⟩⟩
      rw [List.length_append, thcs_l, hl2, ← hcl, List.length_append, thcs_l]
theorem radd_any (b : Nat) (L : TL) (lr : List Chunk) (hr : IsRX b L lr) (hn : L.length ≤ 900000) (hs : L.Pairwise fun x y => x.id < y.id) (a : Int) (G : List Chunk) :
    Fn Try.prog 14 [.pointer (some ⟨b, 0, none⟩), .int .i64 a] (lr ++ G) fun v l' => v = .int .i64 (addD L a).1 ∧ ∃ lr', IsRX b (addD L a).2 lr' ∧ l' = lr' ++ G := by
  have hr0 := hr
  refine fn_of_body Try.func14 rfl rfl fun E => ?_
  simp only [argF, Try.ntmps14]
  by_cases h1 : a < 1
  · rw [show addD L a = (2, L) by unfold addD; rw [if_pos h1]]
    repeat (first | (show OpsS _ _ _ _ _ _ (_ :: _) _ _ _; first | refine ozq ?_ | refine ozs ?_ | refine ozs0 ?_ | refine ozt ?_ | refine ozf ?_ | refine ozn ?_) | refine c_seq ?_ | refine p_then ?_ | refine c_region ?_ | refine s_nil ?_ | refine c_cond_t rfl ?_ | refine c_cond_f rfl ?_ | refine c_block ?_ | refine c_skip ?_ | refine c_exit ?_ | refine p_block ?_ | refine p_then_exit ?_ | refine p_block_here ?_ | refine p_block_on rfl ?_ | refine c_ret ?_ | refine p_then_ret ?_ | refine p_block_ret ?_ | refine p_end ?_ | refine c_if_t rfl (by omega) ?_ | refine c_if_f rfl (by omega) ?_)
    exact k_ret [] rfl .refl (by (repeat (first | apply ResS.nil | (apply rs_tmp; (· rfl)) | (apply rs_cell1; (· rfl); (· ((repeat (first | with_reducible apply List.mem_cons_self | with_reducible apply List.mem_cons_of_mem)); try with_reducible assumption)); (· rfl)) | (apply rs_cellA; (· rfl); (· ((repeat (first | with_reducible apply List.mem_cons_self | with_reducible apply List.mem_cons_of_mem)); try with_reducible assumption)); (· (repeat (first | with_reducible apply LSub.done | with_reducible apply LSub.take | with_reducible apply LSub.drop))))))) ⟨rfl, _, hr0, rfl⟩
  repeat (first | (show OpsS _ _ _ _ _ _ (_ :: _) _ _ _; first | refine ozq ?_ | refine ozs ?_ | refine ozs0 ?_ | refine ozt ?_ | refine ozf ?_ | refine ozn ?_) | refine c_seq ?_ | refine p_then ?_ | refine c_region ?_ | refine s_nil ?_ | refine c_cond_t rfl ?_ | refine c_cond_f rfl ?_ | refine c_block ?_ | refine c_skip ?_ | refine c_exit ?_ | refine p_block ?_ | refine p_then_exit ?_ | refine p_block_here ?_ | refine p_block_on rfl ?_ | refine c_ret ?_ | refine p_then_ret ?_ | refine p_block_ret ?_ | refine p_end ?_ | refine c_if_t rfl (by omega) ?_ | refine c_if_f rfl (by omega) ?_)
  refine t_q (q_call rfl rfl fun l2 hl => rat_any b L _ hr0 hn a l2 fun c hc => hl c (List.mem_append_left _ hc)) rfl rfl rfl ?_
  cases hf : findH L a with
  | some x =>
    obtain ⟨A, B, hL, hi, hx, hA, hAt⟩ := idx_of hf
    rw [hi, show addD L a = (11, L) by unfold addD; rw [if_neg h1, hf]; rfl]
    repeat (first | (show OpsS _ _ _ _ _ _ (_ :: _) _ _ _; first | refine ozq ?_ | refine ozs ?_ | refine ozs0 ?_ | refine ozt ?_ | refine ozf ?_ | refine ozn ?_) | refine c_seq ?_ | refine p_then ?_ | refine c_region ?_ | refine s_nil ?_ | refine c_cond_t rfl ?_ | refine c_cond_f rfl ?_ | refine c_block ?_ | refine c_skip ?_ | refine c_exit ?_ | refine p_block ?_ | refine p_then_exit ?_ | refine p_block_here ?_ | refine p_block_on rfl ?_ | refine c_ret ?_ | refine p_then_ret ?_ | refine p_block_ret ?_ | refine p_end ?_ | refine c_if_t rfl (by omega) ?_ | refine c_if_f rfl (by omega) ?_)
    exact k_ret [] rfl .refl (by (repeat (first | apply ResS.nil | (apply rs_tmp; (· rfl)) | (apply rs_cell1; (· rfl); (· ((repeat (first | with_reducible apply List.mem_cons_self | with_reducible apply List.mem_cons_of_mem)); try with_reducible assumption)); (· rfl)) | (apply rs_cellA; (· rfl); (· ((repeat (first | with_reducible apply List.mem_cons_self | with_reducible apply List.mem_cons_of_mem)); try with_reducible assumption)); (· (repeat (first | with_reducible apply LSub.done | with_reducible apply LSub.take | with_reducible apply LSub.drop))))))) ⟨rfl, _, hr0, rfl⟩
  | none =>
    rw [idx_neg hf, show addD L a = (0, insH L (thNew a)) by unfold addD; rw [if_neg h1, hf]; rfl]
    obtain ⟨v, cs, rfl, ho⟩ := hr
    have hv1 : v.oneCell' = true := ho.one
    obtain ⟨W, hW⟩ : ∃ W, W = L.takeWhile (fun x => decide (x.id < a)) := ⟨_, rfl⟩
    obtain ⟨Z, hZ⟩ : ∃ Z, Z = L.dropWhile (fun x => decide (x.id < a)) := ⟨_, rfl⟩
    have hL : L = W ++ Z := by rw [hW, hZ]; exact (List.takeWhile_append_dropWhile ..).symm
    have hWa : ∀ x, x ∈ W → x.id < a := fun x hx => by rw [hW] at hx; simpa using List.all_eq_true.1 (List.all_takeWhile (l := L) (p := fun x => decide (x.id < a))) x hx
    have hne := findH_none.1 hf
    have hZa : ∀ x, x ∈ Z → a < x.id := fun x hx => by
      cases hd : Z with
      | nil => rw [hd] at hx; cases hx
      | cons y r =>
        have hy : ¬ y.id < a := by
          have := List.head?_dropWhile_not (fun x : ThT => decide (x.id < a)) L
          rw [← hZ, hd] at this; simpa using this
        have h3 := hne y (by rw [hL, hd]; simp)
        have h4 := hs
        rw [hL, hd] at h4
        have h5 := (List.pairwise_cons.1 (List.pairwise_append.1 h4).2.1).1
        rw [hd] at hx
        rcases List.mem_cons.1 hx with rfl | hx
        · omega
        · have := h5 x hx; omega
    obtain ⟨R, hR⟩ : ∃ R, R = insH L (thNew a) := ⟨_, rfl⟩
    have hR2 : R = W ++ thNew a :: Z := by rw [hR]; unfold insH; rw [← hW, ← hZ]
    rw [← hR]
    have hlR : R.length = L.length + 1 := by rw [hR2, hL]; simp; omega
    have hlL : L.length = W.length + Z.length := by rw [hL]; simp
    obtain ⟨p, cap, hm, _, hRS⟩ := hr0.view (l := rxC b v :: cs ++ G) fun c hc => List.mem_append_left _ hc
    obtain ⟨cnt, hcnt⟩ : ∃ cnt : Nat → Nat, cnt = fun i => if i ≤ W.length then i else i + 1 := ⟨_, rfl⟩
    repeat (first | (show OpsS _ _ _ _ _ _ (_ :: _) _ _ _; first | refine ozq ?_ | refine ozs ?_ | refine ozs0 ?_ | refine ozt ?_ | refine ozf ?_ | refine ozn ?_) | refine c_seq ?_ | refine p_then ?_ | refine c_region ?_ | refine s_nil ?_ | refine c_cond_t rfl ?_ | refine c_cond_f rfl ?_ | refine c_block ?_ | refine c_skip ?_ | refine c_exit ?_ | refine p_block ?_ | refine p_then_exit ?_ | refine p_block_here ?_ | refine p_block_on rfl ?_ | refine c_ret ?_ | refine p_then_ret ?_ | refine p_block_ret ?_ | refine p_end ?_ | refine c_if_t rfl (by omega) ?_ | refine c_if_f rfl (by omega) ?_)
    refine t_e e_alloc rfl rfl rfl ?_; rintro _ _ ⟨b5, _, rfl, rfl⟩
    repeat (first | (show OpsS _ _ _ _ _ _ (_ :: _) _ _ _; first | refine ozq ?_ | refine ozs ?_ | refine ozs0 ?_ | refine ozt ?_ | refine ozf ?_ | refine ozn ?_) | refine c_seq ?_ | refine p_then ?_ | refine c_region ?_ | refine s_nil ?_ | refine c_cond_t rfl ?_ | refine c_cond_f rfl ?_ | refine c_block ?_ | refine c_skip ?_ | refine c_exit ?_ | refine p_block ?_ | refine p_then_exit ?_ | refine p_block_here ?_ | refine p_block_on rfl ?_ | refine c_ret ?_ | refine p_then_ret ?_ | refine p_block_ret ?_ | refine p_end ?_ | refine c_if_t rfl (by omega) ?_ | refine c_if_f rfl (by omega) ?_)
    obtain ⟨F, hF⟩ : ∃ F, F = thC b5 (thNew a) :: (rxC b v :: cs ++ G) := ⟨_, rfl⟩
    refine c_keep (Keep.of_perm (l' := F) (.of_eq (by rw [hF]))) ?_
    have hmF : thC b5 (thNew a) ∈ F := by rw [hF]; exact .head _
    have hmF2 : rxC b (.slice p L.length cap) ∈ F := by rw [hF]; exact .tail _ hm
    refine k_loop (α := Nat × Value × List Chunk) (fun x => [(0, .pointer (some ⟨b, 0, none⟩)), (1, .int .i64 a), (5, .pointer (some ⟨b5, 0, none⟩)), (6, x.2.1), (7, .bool (decide (W.length < x.1))), (8, .int .i64 x.1)]) (fun x => x.2.2 ++ F) (fun x => x.1 ≤ L.length ∧ OwnSl 33 24 x.2.1 (R.take (cnt x.1)).length (thcs (R.take (cnt x.1))) x.2.2) (fun x => L.length - x.1) (0, .slice none 0 0, []) ⟨Nat.zero_le _, by rw [hcnt]; exact OwnSl.nil _ _⟩ ⟨rfl, rfl, rfl, rfl, by rw [decide_eq_false (show ¬ W.length < 0 by omega)]; rfl, rfl, trivial⟩ .refl ?_
    rintro ⟨i, w, cv⟩ ⟨hi, hw⟩
    dsimp only at hi hw ⊢
    have hm3 : rxC b (.slice p L.length cap) ∈ cv ++ F := List.mem_append_right _ hmF2
    have hm4 : thC b5 (thNew a) ∈ cv ++ F := List.mem_append_right _ hmF
    by_cases hlt : i < L.length
    · obtain ⟨bB, off, xs, ty, fz, rfl, hmr0, hc⟩ := hRS (by omega)
      have hmr : (bB, Obj.cells xs ty fz) ∈ F := by rw [hF]; exact .tail _ hmr0
      have hmr5 : (bB, Obj.cells xs ty fz) ∈ cv ++ F := List.mem_append_right _ hmr
      obtain ⟨x, hx⟩ : ∃ x, L[i]? = some x := ⟨_, List.getElem?_eq_getElem hlt⟩
      obtain ⟨g0, _, g1, g2⟩ := hc i x hx
      rcases Nat.lt_trichotomy i W.length with k1 | k1 | k1
      · have hxa : x.id < a := hWa x (List.mem_of_getElem? (i := i) (by rw [hL, List.getElem?_append_left k1] at hx; exact hx))
        have hc1 : cnt (i + 1) = cnt i + 1 := by rw [hcnt]; simp only; rw [if_pos (by omega), if_pos (by omega)]
        have hRi : R[cnt i]? = some x := by
          rw [hcnt, hR2]; simp only; rw [if_pos (by omega), List.getElem?_append_left k1]
          rw [hL, List.getElem?_append_left k1] at hx; exact hx
        rw [decide_eq_false (show ¬ W.length < i by omega)]
        repeat (first | (show OpsS _ _ _ _ _ _ (_ :: _) _ _ _; first | refine ozq ?_ | refine ozs ?_ | refine ozs0 ?_ | refine ozt ?_ | refine ozf ?_ | refine ozn ?_) | refine c_seq ?_ | refine p_then ?_ | refine c_region ?_ | refine s_nil ?_ | refine c_cond_t rfl ?_ | refine c_cond_f rfl ?_ | refine c_block ?_ | refine c_skip ?_ | refine c_exit ?_ | refine p_block ?_ | refine p_then_exit ?_ | refine p_block_here ?_ | refine p_block_on rfl ?_ | refine c_ret ?_ | refine p_then_ret ?_ | refine p_block_ret ?_ | refine p_end ?_ | refine c_if_t rfl (by omega) ?_ | refine c_if_f rfl (by omega) ?_)
        refine t_q (q_loadA rfl (List.mem_append_right _ hmr) g1 g2) rfl rfl rfl ?_
        repeat (first | (show OpsS _ _ _ _ _ _ (_ :: _) _ _ _; first | refine ozq ?_ | refine ozs ?_ | refine ozs0 ?_ | refine ozt ?_ | refine ozf ?_ | refine ozn ?_) | refine c_seq ?_ | refine p_then ?_ | refine c_region ?_ | refine s_nil ?_ | refine c_cond_t rfl ?_ | refine c_cond_f rfl ?_ | refine c_block ?_ | refine c_skip ?_ | refine c_exit ?_ | refine p_block ?_ | refine p_then_exit ?_ | refine p_block_here ?_ | refine p_block_on rfl ?_ | refine c_ret ?_ | refine p_then_ret ?_ | refine p_block_ret ?_ | refine p_end ?_ | refine c_if_t rfl (by omega) ?_ | refine c_if_f rfl (by omega) ?_)
        refine t_e (e_litA (k := 24) (e := 33) (ws := encH x) rfl rfl rfl (by decide) (by decide)) rfl rfl rfl ?_
        rintro _ _ ⟨bl, _, rfl, rfl⟩
        refine t_e (e_appX (k := 24) (X := []) (cs := cv) (F := F) (xs := thcs (R.take (cnt i))) (n := (R.take (cnt i)).length) (ws := encH x) rfl rfl rfl hw rfl (by simp [Value.oneCell']) (by simp only [List.length_take]; omega) (by decide)) rfl rfl rfl ?_
        rintro w2 _ ⟨cv2, hw2, rfl⟩
        have hw9 : w2.oneCell' = true := hw2.one
        repeat (first | (show OpsS _ _ _ _ _ _ (_ :: _) _ _ _; first | refine ozq ?_ | refine ozs ?_ | refine ozs0 ?_ | refine ozt ?_ | refine ozf ?_ | refine ozn ?_) | refine c_seq ?_ | refine p_then ?_ | refine c_region ?_ | refine s_nil ?_ | refine c_cond_t rfl ?_ | refine c_cond_f rfl ?_ | refine c_block ?_ | refine c_skip ?_ | refine c_exit ?_ | refine p_block ?_ | refine p_then_exit ?_ | refine p_block_here ?_ | refine p_block_on rfl ?_ | refine c_ret ?_ | refine p_then_ret ?_ | refine p_block_ret ?_ | refine p_end ?_ | refine c_if_t rfl (by omega) ?_ | refine c_if_f rfl (by omega) ?_)
        refine k_next (i + 1, w2, cv2) ⟨by simp only; omega, ?_⟩ (by simp only; omega) ⟨rfl, rfl, rfl, rfl, by rw [decide_eq_false (show ¬ W.length < i + 1 by omega)]; rfl, rfl, trivial⟩ .refl
        simp only
        rw [hc1, List.take_add_one, hRi, Option.toList_some, thcs_snoc, List.length_append]; exact hw2
      · have hxa : a < x.id := hZa x (List.mem_of_getElem? (i := 0) (by rw [hL, List.getElem?_append_right (by omega), show i - W.length = 0 by omega] at hx; exact hx))
        have hc1 : cnt (i + 1) = cnt i + 1 + 1 := by rw [hcnt]; simp only; rw [if_neg (by omega), if_pos (by omega)]
        have hRi : R[cnt i]? = some (thNew a) := by
          rw [hcnt, hR2]; simp only; rw [if_pos (by omega), List.getElem?_append_right (by omega), show i - W.length = 0 by omega]; rfl
        have hRj : R[cnt i + 1]? = some x := by
          rw [hcnt, hR2]; simp only; rw [if_pos (by omega), List.getElem?_append_right (by omega), show i + 1 - W.length = 0 + 1 by omega, List.getElem?_cons_succ]
          rw [hL, List.getElem?_append_right (by omega), show i - W.length = 0 by omega] at hx; exact hx
        rw [decide_eq_false (show ¬ W.length < i by omega)]
        repeat (first | (show OpsS _ _ _ _ _ _ (_ :: _) _ _ _; first | refine ozq ?_ | refine ozs ?_ | refine ozs0 ?_ | refine ozt ?_ | refine ozf ?_ | refine ozn ?_) | refine c_seq ?_ | refine p_then ?_ | refine c_region ?_ | refine s_nil ?_ | refine c_cond_t rfl ?_ | refine c_cond_f rfl ?_ | refine c_block ?_ | refine c_skip ?_ | refine c_exit ?_ | refine p_block ?_ | refine p_then_exit ?_ | refine p_block_here ?_ | refine p_block_on rfl ?_ | refine c_ret ?_ | refine p_then_ret ?_ | refine p_block_ret ?_ | refine p_end ?_ | refine c_if_t rfl (by omega) ?_ | refine c_if_f rfl (by omega) ?_)
        refine t_e (e_litA (k := 24) (e := 33) (ws := encH (thNew a)) rfl rfl rfl (by decide) (by decide)) rfl rfl rfl ?_
        rintro _ _ ⟨bl, _, rfl, rfl⟩
        refine t_e (e_appX (k := 24) (X := []) (cs := cv) (F := F) (xs := thcs (R.take (cnt i))) (n := (R.take (cnt i)).length) (ws := encH (thNew a)) rfl rfl rfl hw rfl (by simp [Value.oneCell']) (by simp only [List.length_take]; omega) (by decide)) rfl rfl rfl ?_
        rintro w1 _ ⟨cv1, hw1, rfl⟩
        have hw8 : w1.oneCell' = true := hw1.one
        have hmF3 : rxC b (.slice (some ⟨bB, off, none⟩) L.length cap) ∈ cv1 ++ F := List.mem_append_right _ hmF2
        simp only [List.nil_append]
        repeat (first | (show OpsS _ _ _ _ _ _ (_ :: _) _ _ _; first | refine ozq ?_ | refine ozs ?_ | refine ozs0 ?_ | refine ozt ?_ | refine ozf ?_ | refine ozn ?_) | refine c_seq ?_ | refine p_then ?_ | refine c_region ?_ | refine s_nil ?_ | refine c_cond_t rfl ?_ | refine c_cond_f rfl ?_ | refine c_block ?_ | refine c_skip ?_ | refine c_exit ?_ | refine p_block ?_ | refine p_then_exit ?_ | refine p_block_here ?_ | refine p_block_on rfl ?_ | refine c_ret ?_ | refine p_then_ret ?_ | refine p_block_ret ?_ | refine p_end ?_ | refine c_if_t rfl (by omega) ?_ | refine c_if_f rfl (by omega) ?_)
        refine t_q (q_loadA rfl (List.mem_append_right _ hmr) g1 g2) rfl rfl rfl ?_
        repeat (first | (show OpsS _ _ _ _ _ _ (_ :: _) _ _ _; first | refine ozq ?_ | refine ozs ?_ | refine ozs0 ?_ | refine ozt ?_ | refine ozf ?_ | refine ozn ?_) | refine c_seq ?_ | refine p_then ?_ | refine c_region ?_ | refine s_nil ?_ | refine c_cond_t rfl ?_ | refine c_cond_f rfl ?_ | refine c_block ?_ | refine c_skip ?_ | refine c_exit ?_ | refine p_block ?_ | refine p_then_exit ?_ | refine p_block_here ?_ | refine p_block_on rfl ?_ | refine c_ret ?_ | refine p_then_ret ?_ | refine p_block_ret ?_ | refine p_end ?_ | refine c_if_t rfl (by omega) ?_ | refine c_if_f rfl (by omega) ?_)
        refine t_e (e_litA (k := 24) (e := 33) (ws := encH x) rfl rfl rfl (by decide) (by decide)) rfl rfl rfl ?_
        rintro _ _ ⟨bl, _, rfl, rfl⟩
        refine t_e (e_appX (k := 24) (X := []) (cs := cv1) (F := F) (xs := thcs (R.take (cnt i)) ++ encH (thNew a)) (n := (R.take (cnt i)).length + 1) (ws := encH x) rfl rfl rfl hw1 rfl (by simp [Value.oneCell']) (by simp only [List.length_take]; omega) (by decide)) rfl rfl rfl ?_
        rintro w2 _ ⟨cv2, hw2, rfl⟩
        have hw9 : w2.oneCell' = true := hw2.one
        repeat (first | (show OpsS _ _ _ _ _ _ (_ :: _) _ _ _; first | refine ozq ?_ | refine ozs ?_ | refine ozs0 ?_ | refine ozt ?_ | refine ozf ?_ | refine ozn ?_) | refine c_seq ?_ | refine p_then ?_ | refine c_region ?_ | refine s_nil ?_ | refine c_cond_t rfl ?_ | refine c_cond_f rfl ?_ | refine c_block ?_ | refine c_skip ?_ | refine c_exit ?_ | refine p_block ?_ | refine p_then_exit ?_ | refine p_block_here ?_ | refine p_block_on rfl ?_ | refine c_ret ?_ | refine p_then_ret ?_ | refine p_block_ret ?_ | refine p_end ?_ | refine c_if_t rfl (by omega) ?_ | refine c_if_f rfl (by omega) ?_)
        refine k_next (i + 1, w2, cv2) ⟨by simp only; omega, ?_⟩ (by simp only; omega) ⟨rfl, rfl, rfl, rfl, by rw [decide_eq_true (show W.length < i + 1 by omega)]; rfl, rfl, trivial⟩ .refl
        simp only
        rw [hc1, List.take_add_one, hRj, List.take_add_one, hRi, Option.toList_some, Option.toList_some, thcs_snoc, thcs_snoc, List.length_append, List.length_append]; exact hw2
      · have hc1 : cnt (i + 1) = cnt i + 1 := by rw [hcnt]; simp only; rw [if_neg (by omega), if_neg (by omega)]
        have hRi : R[cnt i]? = some x := by
          rw [hcnt, hR2]; simp only; rw [if_neg (by omega), List.getElem?_append_right (by omega), show i + 1 - W.length = (i - W.length) + 1 by omega, List.getElem?_cons_succ]
          rw [hL, List.getElem?_append_right (by omega)] at hx; exact hx
        rw [decide_eq_true (show W.length < i by omega)]
        repeat (first | (show OpsS _ _ _ _ _ _ (_ :: _) _ _ _; first | refine ozq ?_ | refine ozs ?_ | refine ozs0 ?_ | refine ozt ?_ | refine ozf ?_ | refine ozn ?_) | refine c_seq ?_ | refine p_then ?_ | refine c_region ?_ | refine s_nil ?_ | refine c_cond_t rfl ?_ | refine c_cond_f rfl ?_ | refine c_block ?_ | refine c_skip ?_ | refine c_exit ?_ | refine p_block ?_ | refine p_then_exit ?_ | refine p_block_here ?_ | refine p_block_on rfl ?_ | refine c_ret ?_ | refine p_then_ret ?_ | refine p_block_ret ?_ | refine p_end ?_ | refine c_if_t rfl (by omega) ?_ | refine c_if_f rfl (by omega) ?_)
        refine t_q (q_loadA rfl (List.mem_append_right _ hmr) g1 g2) rfl rfl rfl ?_
        repeat (first | (show OpsS _ _ _ _ _ _ (_ :: _) _ _ _; first | refine ozq ?_ | refine ozs ?_ | refine ozs0 ?_ | refine ozt ?_ | refine ozf ?_ | refine ozn ?_) | refine c_seq ?_ | refine p_then ?_ | refine c_region ?_ | refine s_nil ?_ | refine c_cond_t rfl ?_ | refine c_cond_f rfl ?_ | refine c_block ?_ | refine c_skip ?_ | refine c_exit ?_ | refine p_block ?_ | refine p_then_exit ?_ | refine p_block_here ?_ | refine p_block_on rfl ?_ | refine c_ret ?_ | refine p_then_ret ?_ | refine p_block_ret ?_ | refine p_end ?_ | refine c_if_t rfl (by omega) ?_ | refine c_if_f rfl (by omega) ?_)
        refine t_e (e_litA (k := 24) (e := 33) (ws := encH x) rfl rfl rfl (by decide) (by decide)) rfl rfl rfl ?_
        rintro _ _ ⟨bl, _, rfl, rfl⟩
        refine t_e (e_appX (k := 24) (X := []) (cs := cv) (F := F) (xs := thcs (R.take (cnt i))) (n := (R.take (cnt i)).length) (ws := encH x) rfl rfl rfl hw rfl (by simp [Value.oneCell']) (by simp only [List.length_take]; omega) (by decide)) rfl rfl rfl ?_
        rintro w2 _ ⟨cv2, hw2, rfl⟩
        have hw9 : w2.oneCell' = true := hw2.one
        repeat (first | (show OpsS _ _ _ _ _ _ (_ :: _) _ _ _; first | refine ozq ?_ | refine ozs ?_ | refine ozs0 ?_ | refine ozt ?_ | refine ozf ?_ | refine ozn ?_) | refine c_seq ?_ | refine p_then ?_ | refine c_region ?_ | refine s_nil ?_ | refine c_cond_t rfl ?_ | refine c_cond_f rfl ?_ | refine c_block ?_ | refine c_skip ?_ | refine c_exit ?_ | refine p_block ?_ | refine p_then_exit ?_ | refine p_block_here ?_ | refine p_block_on rfl ?_ | refine c_ret ?_ | refine p_then_ret ?_ | refine p_block_ret ?_ | refine p_end ?_ | refine c_if_t rfl (by omega) ?_ | refine c_if_f rfl (by omega) ?_)
        refine k_next (i + 1, w2, cv2) ⟨by simp only; omega, ?_⟩ (by simp only; omega) ⟨rfl, rfl, rfl, rfl, by rw [decide_eq_true (show W.length < i + 1 by omega)]; rfl, rfl, trivial⟩ .refl
        simp only
        rw [hc1, List.take_add_one, hRi, Option.toList_some, thcs_snoc, List.length_append]; exact hw2
    · obtain rfl : i = L.length := by omega
      by_cases hZ0 : W.length < L.length
      · have hcl : cnt L.length = R.length := by rw [hcnt]; simp only; rw [if_neg (by omega)]; omega
        rw [hcl, List.take_length] at hw
        have hw1 : w.oneCell' = true := hw.one
        rw [decide_eq_true hZ0]
        repeat (first | (show OpsS _ _ _ _ _ _ (_ :: _) _ _ _; first | refine ozq ?_ | refine ozs ?_ | refine ozs0 ?_ | refine ozt ?_ | refine ozf ?_ | refine ozn ?_) | refine c_seq ?_ | refine p_then ?_ | refine c_region ?_ | refine s_nil ?_ | refine c_cond_t rfl ?_ | refine c_cond_f rfl ?_ | refine c_block ?_ | refine c_skip ?_ | refine c_exit ?_ | refine p_block ?_ | refine p_then_exit ?_ | refine p_block_here ?_ | refine p_block_on rfl ?_ | refine c_ret ?_ | refine p_then_ret ?_ | refine p_block_ret ?_ | refine p_end ?_ | refine c_if_t rfl (by omega) ?_ | refine c_if_f rfl (by omega) ?_)
        rw [hF]
        refine t_n (e_store (b := b) (off := 0) (l' := cv ++ (thC b5 (thNew a) :: (rxC b w :: cs ++ G))) rfl rfl hw1 (upd_pre (.there .here) cv) (by simp)) rfl rfl ?_
        rintro _ _ ⟨rfl, rfl⟩
        repeat (first | (show OpsS _ _ _ _ _ _ (_ :: _) _ _ _; first | refine ozq ?_ | refine ozs ?_ | refine ozs0 ?_ | refine ozt ?_ | refine ozf ?_ | refine ozn ?_) | refine c_seq ?_ | refine p_then ?_ | refine c_region ?_ | refine s_nil ?_ | refine c_cond_t rfl ?_ | refine c_cond_f rfl ?_ | refine c_block ?_ | refine c_skip ?_ | refine c_exit ?_ | refine p_block ?_ | refine p_then_exit ?_ | refine p_block_here ?_ | refine p_block_on rfl ?_ | refine c_ret ?_ | refine p_then_ret ?_ | refine p_block_ret ?_ | refine p_end ?_ | refine c_if_t rfl (by omega) ?_ | refine c_if_f rfl (by omega) ?_)
        exact k_ret [] rfl (l' := rxC b w :: cv ++ G) (Keep.trans (.of_perm List.perm_middle) (.drop (keep_new _ cv cs G))) (by (repeat (first | apply ResS.nil | (apply rs_tmp; (· rfl)) | (apply rs_cell1; (· rfl); (· ((repeat (first | with_reducible apply List.mem_cons_self | with_reducible apply List.mem_cons_of_mem)); try with_reducible assumption)); (· rfl)) | (apply rs_cellA; (· rfl); (· ((repeat (first | with_reducible apply List.mem_cons_self | with_reducible apply List.mem_cons_of_mem)); try with_reducible assumption)); (· (repeat (first | with_reducible apply LSub.done | with_reducible apply LSub.take | with_reducible apply LSub.drop))))))) ⟨rfl, _, ⟨_, _, rfl, hw⟩, rfl⟩
      · have hcl : cnt L.length = L.length := by rw [hcnt]; simp only; rw [if_pos (by omega)]
        have hRe : R = R.take L.length ++ [thNew a] := by
          have hZn : Z = [] := List.eq_nil_of_length_eq_zero (by omega)
          rw [hR2, hZn, show L.length = W.length by omega, List.take_left' rfl]
        rw [hcl] at hw
        have hw0 : w.oneCell' = true := hw.one
        rw [decide_eq_false hZ0]
        repeat (first | (show OpsS _ _ _ _ _ _ (_ :: _) _ _ _; first | refine ozq ?_ | refine ozs ?_ | refine ozs0 ?_ | refine ozt ?_ | refine ozf ?_ | refine ozn ?_) | refine c_seq ?_ | refine p_then ?_ | refine c_region ?_ | refine s_nil ?_ | refine c_cond_t rfl ?_ | refine c_cond_f rfl ?_ | refine c_block ?_ | refine c_skip ?_ | refine c_exit ?_ | refine p_block ?_ | refine p_then_exit ?_ | refine p_block_here ?_ | refine p_block_on rfl ?_ | refine c_ret ?_ | refine p_then_ret ?_ | refine p_block_ret ?_ | refine p_end ?_ | refine c_if_t rfl (by omega) ?_ | refine c_if_f rfl (by omega) ?_)
        refine t_e (e_litA (k := 24) (e := 33) (ws := encH (thNew a)) rfl rfl rfl (by decide) (by decide)) rfl rfl rfl ?_
        rintro _ _ ⟨bl, _, rfl, rfl⟩
        refine t_e (e_appX (k := 24) (X := []) (cs := cv) (F := F) (xs := thcs (R.take L.length)) (n := (R.take L.length).length) (ws := encH (thNew a)) rfl rfl rfl hw rfl (by simp [Value.oneCell']) (by simp only [List.length_take]; omega) (by decide)) rfl rfl rfl ?_
        rintro w1 _ ⟨cv1, hw1, rfl⟩
        have hw8 : w1.oneCell' = true := hw1.one
        repeat (first | (show OpsS _ _ _ _ _ _ (_ :: _) _ _ _; first | refine ozq ?_ | refine ozs ?_ | refine ozs0 ?_ | refine ozt ?_ | refine ozf ?_ | refine ozn ?_) | refine c_seq ?_ | refine p_then ?_ | refine c_region ?_ | refine s_nil ?_ | refine c_cond_t rfl ?_ | refine c_cond_f rfl ?_ | refine c_block ?_ | refine c_skip ?_ | refine c_exit ?_ | refine p_block ?_ | refine p_then_exit ?_ | refine p_block_here ?_ | refine p_block_on rfl ?_ | refine c_ret ?_ | refine p_then_ret ?_ | refine p_block_ret ?_ | refine p_end ?_ | refine c_if_t rfl (by omega) ?_ | refine c_if_f rfl (by omega) ?_)
        rw [hF]
        refine t_n (e_store (b := b) (off := 0) (l' := cv1 ++ (thC b5 (thNew a) :: (rxC b w1 :: cs ++ G))) rfl rfl hw8 (upd_pre (.there .here) cv1) (by simp)) rfl rfl ?_
        rintro _ _ ⟨rfl, rfl⟩
        repeat (first | (show OpsS _ _ _ _ _ _ (_ :: _) _ _ _; first | refine ozq ?_ | refine ozs ?_ | refine ozs0 ?_ | refine ozt ?_ | refine ozf ?_ | refine ozn ?_) | refine c_seq ?_ | refine p_then ?_ | refine c_region ?_ | refine s_nil ?_ | refine c_cond_t rfl ?_ | refine c_cond_f rfl ?_ | refine c_block ?_ | refine c_skip ?_ | refine c_exit ?_ | refine p_block ?_ | refine p_then_exit ?_ | refine p_block_here ?_ | refine p_block_on rfl ?_ | refine c_ret ?_ | refine p_then_ret ?_ | refine p_block_ret ?_ | refine p_end ?_ | refine c_if_t rfl (by omega) ?_ | refine c_if_f rfl (by omega) ?_)
        refine k_ret [] rfl (l' := rxC b w1 :: cv1 ++ G) (Keep.trans (.of_perm List.perm_middle) (.drop (keep_new _ cv1 cs G))) (by (repeat (first | apply ResS.nil | (apply rs_tmp; (· rfl)) | (apply rs_cell1; (· rfl); (· ((repeat (first | with_reducible apply List.mem_cons_self | with_reducible apply List.mem_cons_of_mem)); try with_reducible assumption)); (· rfl)) | (apply rs_cellA; (· rfl); (· ((repeat (first | with_reducible apply List.mem_cons_self | with_reducible apply List.mem_cons_of_mem)); try with_reducible assumption)); (· (repeat (first | with_reducible apply LSub.done | with_reducible apply LSub.take | with_reducible apply LSub.drop))))))) ⟨rfl, _, ⟨_, _, rfl, ?_⟩, rfl⟩
        rw [hRe, List.length_append, thcs_snoc]; exact hw1
end Go.Proofs.Ytbegoggigfinjaa
