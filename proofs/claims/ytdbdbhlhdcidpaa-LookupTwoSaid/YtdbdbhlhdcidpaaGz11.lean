/- Arena: Add, the walk. Arena: Drop, SetMark, SetPlace as plain data. Arena: Drop, SetMark, SetPlace, the walks; nil ones. Arena: awake; ArenaNone; an arena behind acts. Arena: the plain laws of an arena behind acts. Laws that the statement's proof leans on. -/
import Derived.Test.YtdbdbhlhdcidpaaGz4
import Derived.Test.YtdbdbhlhdcidpaaGz10
import Derived.Test.YtdbdbhlhdcidpaaGz6
/- Arena: Add, the walk. -/
-- GU
set_option linter.unusedVariables false
set_option linter.unusedSimpArgs false
namespace Go.Proofs.Ytdbdbhlhdcidpaa.Ar
open Go.RowKit
set_option maxRecDepth 20000

abbrev erC (B : Nat) (x : Int) : Chunk := (B, .cells #[.int .i64 x] 35 (0, 0))
theorem add_e {S : ArT} {kd sz fi e : Int} (h : addE S kd sz fi = e) (h0 : e ≠ 0) : addD S kd sz fi = ((0, e), S) := by unfold addD; rw [h, if_neg h0]
theorem add_0 {S : ArT} {kd sz fi : Int} (h : addE S kd sz fi = 0) : addD S kd sz fi = ((nextD S fi, 0), { S with g := upd S.g fi.toNat (S.g fi.toNat + 1), os := insD S.os (newO S kd sz fi) }) := by unfold addD; rw [h, if_pos rfl]
theorem all_itm {os : OL} {p : ObT → Bool} (h : ∀ x, x ∈ itm os → p x.1 = true) : (os.all p) = true := by
  rw [List.all_eq_true]
  intro o ho
  obtain ⟨k, hk⟩ := List.getElem?_of_mem ho
  exact h (o, k) (List.mem_of_getElem? (i := k) (by rw [itm_get, hk]; rfl))
theorem all_not {os : OL} {p : ObT → Bool} {o : ObT} (ho : o ∈ os) (h : p o = false) : (os.all p) = false := by
  cases e : os.all p with
  | false => rfl
  | true => rw [List.all_eq_true] at e; rw [e o ho] at h; cases h
theorem ocs_cut {os : OL} {k : Nat} (hk : k ≤ os.length) : (ocs os).take (k * 9) = ocs (os.take k) ∧ (ocs os).drop (k * 9) = ocs (os.drop k) := by
  have e : ocs os = ocs (os.take k) ++ ocs (os.drop k) := by rw [← ocs_app, List.take_append_drop]
  have hl : (ocs (os.take k)).length = k * 9 := by rw [ocs_l, List.length_take]; omega
  exact ⟨by rw [e, List.take_left' hl], by rw [e, List.drop_left' hl]⟩
theorem Keep.appL (X : List Chunk) {A B : List Chunk} (h : Keep A B) : Keep (X ++ A) (X ++ B) := by
  obtain ⟨r, p⟩ := h
  exact ⟨r, (List.Perm.append_left X p).trans (List.perm_append_comm_assoc X r B)⟩
theorem insert_mid (X : List Chunk) (v : Value) (n i bl : Nat) (xs ws : List Value) (cs F : List Chunk) (ho : OwnSl 83 9 v n xs cs) (hi : i ≤ n) (hw : ws.length = 9) (h1 : ∀ u ∈ ws, u.oneCell' = true) (hx1 : ∀ u ∈ xs, u.oneCell' = true) (hne : ∀ c, c ∈ cs → c.1 ≠ bl) (hn : n ≤ 90000) :
    Fn Try.prog 38 [v, .int .i64 (i : Nat), .slice (some ⟨bl, 0, none⟩) 1 1] ((bl, .cells (List.toArray ws) 83 (0, 0)) :: (X ++ (cs ++ F))) fun v' l' => ∃ c2, OwnSl 83 9 v' (n + 1) (xs.take (i * 9) ++ ws ++ xs.drop (i * 9)) c2 ∧ l' = X ++ (c2 ++ F) :=
  Fn.re (Keep.appL [_] (Keep.in_mid X cs F)) (insert_any v n i bl xs ws cs (X ++ F) ho hi hw h1 hx1 hne hn) fun v' l' ⟨c2, h2, e⟩ => ⟨X ++ (c2 ++ F), by rw [e]; exact Keep.in_mid c2 X F, c2, h2, rfl⟩
theorem drop_le {os : OL} {k : Nat} {I : Int} (h : os.Pairwise fun x y => x.id < y.id) (hk : k ≤ os.length) (hn : ¬ ∃ o, 0 < k ∧ os[k - 1]? = some o ∧ o.id > I) : ∀ x ∈ os.take k, x.id ≤ I := by
  intro x hx
  obtain ⟨j, hj⟩ := List.getElem?_of_mem hx
  rw [List.getElem?_take] at hj
  split at hj
  · rename_i hjk
    obtain ⟨o, ho⟩ : ∃ o, os[k - 1]? = some o := ⟨_, List.getElem?_eq_getElem (by omega)⟩
    have h1 : o.id ≤ I := by
      by_cases h : o.id > I
      · exact absurd ⟨o, by omega, ho, h⟩ hn
      · omega
    by_cases e : j = k - 1
    · subst e; rw [ho] at hj; cases hj; exact h1
    · have := asc_get h hj ho (by omega); omega
  · cases hj
set_option pp.deepTerms false
set_option pp.deepTerms.threshold 4
set_option maxHeartbeats 400000
theorem add_any (b : Nat) (S : ArT) (lq : List Chunk) (hA : IsA b S lq) (kd sz fi : Int) (F : List Chunk) :
    Fn Try.prog 21 [.pointer (some ⟨b, 0, none⟩), .int .i64 kd, .int .i64 sz, .int .i64 fi] (lq ++ F) fun v l' => v = .tuple #[.int .i64 (addD S kd sz fi).1.1, .int .i64 (addD S kd sz fi).1.2] ∧ ∃ lq', IsA b (addD S kd sz fi).2 lq' ∧ l' = lq' ++ F := by
  have hA' := hA
  have hlen := hA.ok.len
  obtain ⟨hok, v, cs, rfl, ho⟩ := hA
  have hn1 := hok.n1
  have hn2 := hok.n2
  obtain ⟨gb, hrow, hcs⟩ := rowV_of ho
  have c0 := arL_n S.n S.g v
  have hm : arC b S.n S.g v ∈ arC b S.n S.g v :: cs ++ F := .head _
  obtain ⟨L, hL⟩ : ∃ L, arC b S.n S.g v :: cs ++ F = L := ⟨_, rfl⟩
  have hsub : ∀ c, c ∈ arC b S.n S.g v :: cs → c ∈ L := fun c hc => by rw [← hL]; exact List.mem_append_left _ hc
  rw [hL] at hm ⊢
  obtain ⟨N, hN⟩ : ∃ N, framesD kd sz = N := ⟨_, rfl⟩
  have hNr := frames_rng kd sz
  rw [hN] at hNr
  refine fn_of_body Try.func21 rfl rfl fun E => ?_
  simp only [argF, Try.ntmps21]
  repeat (first | (show OpsS _ _ _ _ _ _ (_ :: _) _ _ _; first | refine ozq ?_ | refine ozs ?_ | refine ozs0 ?_ | refine ozt ?_ | refine ozf ?_ | refine t_hu rfl rfl rfl rfl rfl rfl ?_ | refine ozn ?_) | refine c_seq ?_ | refine p_then ?_ | refine c_region ?_ | refine s_nil ?_ | refine c_cond_t rfl ?_ | refine c_cond_f rfl ?_ | refine c_block ?_ | refine c_skip ?_ | refine c_exit ?_ | refine p_block ?_ | refine p_then_exit ?_ | refine p_block_here ?_ | refine p_block_on rfl ?_ | refine c_ret ?_ | refine p_then_ret ?_ | refine p_block_ret ?_ | refine p_end ?_ | refine c_if_t rfl (by omega) ?_ | refine c_if_f rfl (by omega) ?_)
  (first | refine t_e (e_box1 rfl rfl) rfl rfl rfl ?_ | refine t_e (e_boxA rfl) rfl rfl rfl ?_); rintro _ _ ⟨b5, _, rfl, rfl⟩
  repeat (first | (show OpsS _ _ _ _ _ _ (_ :: _) _ _ _; first | refine ozq ?_ | refine ozs ?_ | refine ozs0 ?_ | refine ozt ?_ | refine ozf ?_ | refine t_hu rfl rfl rfl rfl rfl rfl ?_ | refine ozn ?_) | refine c_seq ?_ | refine p_then ?_ | refine c_region ?_ | refine s_nil ?_ | refine c_cond_t rfl ?_ | refine c_cond_f rfl ?_ | refine c_block ?_ | refine c_skip ?_ | refine c_exit ?_ | refine p_block ?_ | refine p_then_exit ?_ | refine p_block_here ?_ | refine p_block_on rfl ?_ | refine c_ret ?_ | refine p_then_ret ?_ | refine p_block_ret ?_ | refine p_end ?_ | refine c_if_t rfl (by omega) ?_ | refine c_if_f rfl (by omega) ?_)
  (first | refine t_e (e_box1 rfl rfl) rfl rfl rfl ?_ | refine t_e (e_boxA rfl) rfl rfl rfl ?_); rintro _ _ ⟨b7, _, rfl, rfl⟩
  repeat (first | (show OpsS _ _ _ _ _ _ (_ :: _) _ _ _; first | refine ozq ?_ | refine ozs ?_ | refine ozs0 ?_ | refine ozt ?_ | refine ozf ?_ | refine t_hu rfl rfl rfl rfl rfl rfl ?_ | refine ozn ?_) | refine c_seq ?_ | refine p_then ?_ | refine c_region ?_ | refine s_nil ?_ | refine c_cond_t rfl ?_ | refine c_cond_f rfl ?_ | refine c_block ?_ | refine c_skip ?_ | refine c_exit ?_ | refine p_block ?_ | refine p_then_exit ?_ | refine p_block_here ?_ | refine p_block_on rfl ?_ | refine c_ret ?_ | refine p_then_ret ?_ | refine p_block_ret ?_ | refine p_end ?_ | refine c_if_t rfl (by omega) ?_ | refine c_if_f rfl (by omega) ?_)
  refine t_e e_alloc rfl rfl rfl ?_; rintro _ _ ⟨b8, _, rfl, rfl⟩
  repeat (first | (show OpsS _ _ _ _ _ _ (_ :: _) _ _ _; first | refine ozq ?_ | refine ozs ?_ | refine ozs0 ?_ | refine ozt ?_ | refine ozf ?_ | refine t_hu rfl rfl rfl rfl rfl rfl ?_ | refine ozn ?_) | refine c_seq ?_ | refine p_then ?_ | refine c_region ?_ | refine s_nil ?_ | refine c_cond_t rfl ?_ | refine c_cond_f rfl ?_ | refine c_block ?_ | refine c_skip ?_ | refine c_exit ?_ | refine p_block ?_ | refine p_then_exit ?_ | refine p_block_here ?_ | refine p_block_on rfl ?_ | refine c_ret ?_ | refine p_then_ret ?_ | refine p_block_ret ?_ | refine p_end ?_ | refine c_if_t rfl (by omega) ?_ | refine c_if_f rfl (by omega) ?_)
  refine t_e e_alloc rfl rfl rfl ?_; rintro _ _ ⟨b9, _, rfl, rfl⟩
  repeat (first | (show OpsS _ _ _ _ _ _ (_ :: _) _ _ _; first | refine ozq ?_ | refine ozs ?_ | refine ozs0 ?_ | refine ozt ?_ | refine ozf ?_ | refine t_hu rfl rfl rfl rfl rfl rfl ?_ | refine ozn ?_) | refine c_seq ?_ | refine p_then ?_ | refine c_region ?_ | refine s_nil ?_ | refine c_cond_t rfl ?_ | refine c_cond_f rfl ?_ | refine c_block ?_ | refine c_skip ?_ | refine c_exit ?_ | refine p_block ?_ | refine p_then_exit ?_ | refine p_block_here ?_ | refine p_block_on rfl ?_ | refine c_ret ?_ | refine p_then_ret ?_ | refine p_block_ret ?_ | refine p_end ?_ | refine c_if_t rfl (by omega) ?_ | refine c_if_f rfl (by omega) ?_)
  refine t_q (q_call rfl rfl fun l2 _ => frames_any kd sz l2) rfl rfl rfl ?_
  rw [hN]
  repeat (first | (show OpsS _ _ _ _ _ _ (_ :: _) _ _ _; first | refine ozq ?_ | refine ozs ?_ | refine ozs0 ?_ | refine ozt ?_ | refine ozf ?_ | refine t_hu rfl rfl rfl rfl rfl rfl ?_ | refine ozn ?_) | refine c_seq ?_ | refine p_then ?_ | refine c_region ?_ | refine s_nil ?_ | refine c_cond_t rfl ?_ | refine c_cond_f rfl ?_ | refine c_block ?_ | refine c_skip ?_ | refine c_exit ?_ | refine p_block ?_ | refine p_then_exit ?_ | refine p_block_here ?_ | refine p_block_on rfl ?_ | refine c_ret ?_ | refine p_then_ret ?_ | refine p_block_ret ?_ | refine p_end ?_ | refine c_if_t rfl (by omega) ?_ | refine c_if_f rfl (by omega) ?_)
  refine t_e e_alloc rfl rfl rfl ?_; rintro _ _ ⟨b10, _, rfl, rfl⟩
  repeat (first | (show OpsS _ _ _ _ _ _ (_ :: _) _ _ _; first | refine ozq ?_ | refine ozs ?_ | refine ozs0 ?_ | refine ozt ?_ | refine ozf ?_ | refine t_hu rfl rfl rfl rfl rfl rfl ?_ | refine ozn ?_) | refine c_seq ?_ | refine p_then ?_ | refine c_region ?_ | refine s_nil ?_ | refine c_cond_t rfl ?_ | refine c_cond_f rfl ?_ | refine c_block ?_ | refine c_skip ?_ | refine c_exit ?_ | refine p_block ?_ | refine p_then_exit ?_ | refine p_block_here ?_ | refine p_block_on rfl ?_ | refine c_ret ?_ | refine p_then_ret ?_ | refine p_block_ret ?_ | refine p_end ?_ | refine c_if_t rfl (by omega) ?_ | refine c_if_f rfl (by omega) ?_)
  by_cases h1 : N = 0
  · repeat (first | (show OpsS _ _ _ _ _ _ (_ :: _) _ _ _; first | refine ozq ?_ | refine ozs ?_ | refine ozs0 ?_ | refine ozt ?_ | refine ozf ?_ | refine t_hu rfl rfl rfl rfl rfl rfl ?_ | refine ozn ?_) | refine c_seq ?_ | refine p_then ?_ | refine c_region ?_ | refine s_nil ?_ | refine c_cond_t rfl ?_ | refine c_cond_f rfl ?_ | refine c_block ?_ | refine c_skip ?_ | refine c_exit ?_ | refine p_block ?_ | refine p_then_exit ?_ | refine p_block_here ?_ | refine p_block_on rfl ?_ | refine c_ret ?_ | refine p_then_ret ?_ | refine p_block_ret ?_ | refine p_end ?_ | refine c_if_t rfl (by omega) ?_ | refine c_if_f rfl (by omega) ?_)
    have e := add_e (S := S) (fi := fi) (show addE S kd sz fi = 2 by unfold addE; rw [hN, if_pos h1]) (by decide)
    refine k_ret2 [] (inC b10 N :: erC b9 2 :: inC b8 0 :: inC b7 fi :: inC b5 kd :: L) rfl (l' := L) .refl (by (repeat (first | apply ResS.nil | (apply rs_tmp; (· rfl)) | (apply rs_cell1; (· rfl); (· ((repeat (first | with_reducible apply List.mem_cons_self | with_reducible apply List.mem_cons_of_mem)); try with_reducible assumption)); (· rfl)) | (apply rs_cellA; (· rfl); (· ((repeat (first | with_reducible apply List.mem_cons_self | with_reducible apply List.mem_cons_of_mem)); try with_reducible assumption)); (· (repeat (first | with_reducible apply LSub.done | with_reducible apply LSub.take | with_reducible apply LSub.drop))))))) (.drop (.drop (.drop (.drop (.drop .refl))))) ⟨by rw [e]; rfl, _, by rw [e]; exact hA', hL.symm⟩
  repeat (first | (show OpsS _ _ _ _ _ _ (_ :: _) _ _ _; first | refine ozq ?_ | refine ozs ?_ | refine ozs0 ?_ | refine ozt ?_ | refine ozf ?_ | refine t_hu rfl rfl rfl rfl rfl rfl ?_ | refine ozn ?_) | refine c_seq ?_ | refine p_then ?_ | refine c_region ?_ | refine s_nil ?_ | refine c_cond_t rfl ?_ | refine c_cond_f rfl ?_ | refine c_block ?_ | refine c_skip ?_ | refine c_exit ?_ | refine p_block ?_ | refine p_then_exit ?_ | refine p_block_here ?_ | refine p_block_on rfl ?_ | refine c_ret ?_ | refine p_then_ret ?_ | refine p_block_ret ?_ | refine p_end ?_ | refine c_if_t rfl (by omega) ?_ | refine c_if_f rfl (by omega) ?_)
  refine c_draw [(0, true), (1, true), (2, true), (3, true), (4, true), (5, true), (6, true), (7, true), (8, true), (9, true), (10, true), (11, true), (12, true)] [[], [0], [0, 1], [0, 1, 2], [0, 1, 2], [0, 1, 2, 4], [0, 1, 2, 4, 5], [0, 1, 2, 4, 5, 6], [0, 1, 2], [0, 1, 2, 4, 5, 6, 7, 8], [0, 1, 2, 3, 4, 5, 6, 7, 8, 9], [0, 1, 2, 3, 4, 5, 6, 7, 8, 9, 10], [0, 1, 2, 3, 4, 5, 6, 7, 8, 9, 10, 11]] _ (by kernel_rfl) (by kernel_rfl) (by (repeat (first | apply Attach.nil | (apply Attach.cons; · rfl)))) (fun _ h => h) ?_
  by_cases h2 : fi < 0
  · repeat (first | refine pl_nil ?_ | (show PlanS _ _ _ _ _ _ _ _ _ _ ((_, true, _) :: _) _ _ _; first | refine pzq ?_ | refine pzt ?_ | refine pzf ?_) | (show PlanS _ _ _ _ _ _ _ _ none [] ((_, _, _) :: _) _ _ _; first | refine pzs ?_ | refine pzs0 ?_ | refine pl_hu (List.Sublist.subset (by (repeat (first | with_reducible apply List.Sublist.refl | with_reducible apply List.nil_sublist | with_reducible apply List.Sublist.cons_cons | with_reducible apply List.Sublist.cons)))) rfl rfl rfl rfl rfl rfl ?_) | (show PlanS _ _ _ _ _ _ _ _ _ _ ((_, _, _) :: _) _ _ _; first | refine pzt ?_ | refine pzf ?_) | (show PlanS _ _ _ _ _ _ _ _ none [] ((_, false, _) :: _) _ _ _; first | refine pzn ?_ | refine pze ?_))
    repeat (first | (show OpsS _ _ _ _ _ _ (_ :: _) _ _ _; first | refine ozq ?_ | refine ozs ?_ | refine ozs0 ?_ | refine ozt ?_ | refine ozf ?_ | refine t_hu rfl rfl rfl rfl rfl rfl ?_ | refine ozn ?_) | refine c_seq ?_ | refine p_then ?_ | refine c_region ?_ | refine s_nil ?_ | refine c_cond_t rfl ?_ | refine c_cond_f rfl ?_ | refine c_block ?_ | refine c_skip ?_ | refine c_exit ?_ | refine p_block ?_ | refine p_then_exit ?_ | refine p_block_here ?_ | refine p_block_on rfl ?_ | refine c_ret ?_ | refine p_then_ret ?_ | refine p_block_ret ?_ | refine p_end ?_ | refine c_if_t rfl (by omega) ?_ | refine c_if_f rfl (by omega) ?_)
    have e := add_e (show addE S kd sz fi = 3 by unfold addE; rw [hN, if_neg h1, if_pos (.inl h2)]) (by decide)
    refine k_ret2 [] (inC b10 N :: erC b9 3 :: inC b8 0 :: inC b7 fi :: inC b5 kd :: L) rfl (l' := L) .refl (by (repeat (first | apply ResS.nil | (apply rs_tmp; (· rfl)) | (apply rs_cell1; (· rfl); (· ((repeat (first | with_reducible apply List.mem_cons_self | with_reducible apply List.mem_cons_of_mem)); try with_reducible assumption)); (· rfl)) | (apply rs_cellA; (· rfl); (· ((repeat (first | with_reducible apply List.mem_cons_self | with_reducible apply List.mem_cons_of_mem)); try with_reducible assumption)); (· (repeat (first | with_reducible apply LSub.done | with_reducible apply LSub.take | with_reducible apply LSub.drop))))))) (.drop (.drop (.drop (.drop (.drop .refl))))) ⟨by rw [e]; rfl, _, by rw [e]; exact hA', hL.symm⟩
  by_cases h3 : fi > S.n - N
  · repeat (first | refine pl_nil ?_ | (show PlanS _ _ _ _ _ _ _ _ _ _ ((_, true, _) :: _) _ _ _; first | refine pzq ?_ | refine pzt ?_ | refine pzf ?_) | (show PlanS _ _ _ _ _ _ _ _ none [] ((_, _, _) :: _) _ _ _; first | refine pzs ?_ | refine pzs0 ?_ | refine pl_hu (List.Sublist.subset (by (repeat (first | with_reducible apply List.Sublist.refl | with_reducible apply List.nil_sublist | with_reducible apply List.Sublist.cons_cons | with_reducible apply List.Sublist.cons)))) rfl rfl rfl rfl rfl rfl ?_) | (show PlanS _ _ _ _ _ _ _ _ _ _ ((_, _, _) :: _) _ _ _; first | refine pzt ?_ | refine pzf ?_) | (show PlanS _ _ _ _ _ _ _ _ none [] ((_, false, _) :: _) _ _ _; first | refine pzn ?_ | refine pze ?_))
    repeat (first | (show OpsS _ _ _ _ _ _ (_ :: _) _ _ _; first | refine ozq ?_ | refine ozs ?_ | refine ozs0 ?_ | refine ozt ?_ | refine ozf ?_ | refine t_hu rfl rfl rfl rfl rfl rfl ?_ | refine ozn ?_) | refine c_seq ?_ | refine p_then ?_ | refine c_region ?_ | refine s_nil ?_ | refine c_cond_t rfl ?_ | refine c_cond_f rfl ?_ | refine c_block ?_ | refine c_skip ?_ | refine c_exit ?_ | refine p_block ?_ | refine p_then_exit ?_ | refine p_block_here ?_ | refine p_block_on rfl ?_ | refine c_ret ?_ | refine p_then_ret ?_ | refine p_block_ret ?_ | refine p_end ?_ | refine c_if_t rfl (by omega) ?_ | refine c_if_f rfl (by omega) ?_)
    have e := add_e (show addE S kd sz fi = 3 by unfold addE; rw [hN, if_neg h1, if_pos (.inr h3)]) (by decide)
    refine k_ret2 [] (inC b10 N :: erC b9 3 :: inC b8 0 :: inC b7 fi :: inC b5 kd :: L) rfl (l' := L) .refl (by (repeat (first | apply ResS.nil | (apply rs_tmp; (· rfl)) | (apply rs_cell1; (· rfl); (· ((repeat (first | with_reducible apply List.mem_cons_self | with_reducible apply List.mem_cons_of_mem)); try with_reducible assumption)); (· rfl)) | (apply rs_cellA; (· rfl); (· ((repeat (first | with_reducible apply List.mem_cons_self | with_reducible apply List.mem_cons_of_mem)); try with_reducible assumption)); (· (repeat (first | with_reducible apply LSub.done | with_reducible apply LSub.take | with_reducible apply LSub.drop))))))) (.drop (.drop (.drop (.drop (.drop .refl))))) ⟨by rw [e]; rfl, _, by rw [e]; exact hA', hL.symm⟩
  repeat (first | refine pl_nil ?_ | (show PlanS _ _ _ _ _ _ _ _ _ _ ((_, true, _) :: _) _ _ _; first | refine pzq ?_ | refine pzt ?_ | refine pzf ?_) | (show PlanS _ _ _ _ _ _ _ _ none [] ((_, _, _) :: _) _ _ _; first | refine pzs ?_ | refine pzs0 ?_ | refine pl_hu (List.Sublist.subset (by (repeat (first | with_reducible apply List.Sublist.refl | with_reducible apply List.nil_sublist | with_reducible apply List.Sublist.cons_cons | with_reducible apply List.Sublist.cons)))) rfl rfl rfl rfl rfl rfl ?_) | (show PlanS _ _ _ _ _ _ _ _ _ _ ((_, _, _) :: _) _ _ _; first | refine pzt ?_ | refine pzf ?_) | (show PlanS _ _ _ _ _ _ _ _ none [] ((_, false, _) :: _) _ _ _; first | refine pzn ?_ | refine pze ?_))
  repeat (first | (show OpsS _ _ _ _ _ _ (_ :: _) _ _ _; first | refine ozq ?_ | refine ozs ?_ | refine ozs0 ?_ | refine ozt ?_ | refine ozf ?_ | refine t_hu rfl rfl rfl rfl rfl rfl ?_ | refine ozn ?_) | refine c_seq ?_ | refine p_then ?_ | refine c_region ?_ | refine s_nil ?_ | refine c_cond_t rfl ?_ | refine c_cond_f rfl ?_ | refine c_block ?_ | refine c_skip ?_ | refine c_exit ?_ | refine p_block ?_ | refine p_then_exit ?_ | refine p_block_here ?_ | refine p_block_on rfl ?_ | refine c_ret ?_ | refine p_then_ret ?_ | refine p_block_ret ?_ | refine p_end ?_ | refine c_if_t rfl (by omega) ?_ | refine c_if_f rfl (by omega) ?_)
  refine t_e (e_call0 rfl rfl (each_any _ rfl _)) rfl rfl rfl ?_
  rintro _ _ ⟨B, rfl, rfl⟩
  repeat (first | (show OpsS _ _ _ _ _ _ (_ :: _) _ _ _; first | refine ozq ?_ | refine ozs ?_ | refine ozs0 ?_ | refine ozt ?_ | refine ozf ?_ | refine t_hu rfl rfl rfl rfl rfl rfl ?_ | refine ozn ?_) | refine c_seq ?_ | refine p_then ?_ | refine c_region ?_ | refine s_nil ?_ | refine c_cond_t rfl ?_ | refine c_cond_f rfl ?_ | refine c_block ?_ | refine c_skip ?_ | refine c_exit ?_ | refine p_block ?_ | refine p_then_exit ?_ | refine p_block_here ?_ | refine p_block_on rfl ?_ | refine c_ret ?_ | refine p_then_ret ?_ | refine p_block_ret ?_ | refine p_end ?_ | refine c_if_t rfl (by omega) ?_ | refine c_if_f rfl (by omega) ?_)
  refine c_range (α := ObT × Nat) (ps := [38, 39]) (lb := [.pointer (some ⟨B, 0, none⟩)]) rfl (each_iter B b S.n S.g v S.os gb hrow (by omega)) (fun _ => rfl) rfl
    (fun pre l => l = [xB B (some ⟨b, 0, none⟩), inC b10 N, erC b9 0, inC b8 0, inC b7 fi, inC b5 kd] ∧ ∀ x, x ∈ pre → apartD kd fi N x.1 = true)
    (fun c pre l => c = .ret ∧ ∃ (pre' : List (ObT × Nat)) (x : ObT × Nat), pre = pre' ++ [x] ∧ apartD kd fi N x.1 = false ∧ l = [erC b9 16, inC b8 0])
    _ L (fun pre l2 X2 hX h => ⟨by rw [h.1]; exact List.Mem.head _, List.mem_append_right _ (hX _ (hsub _ (.head _)))⟩) (by ((try simp only [List.cons_append, List.nil_append, List.map_cons, List.map_nil]); repeat (first | with_reducible apply Keep.refl | (apply Keep.pick; · (repeat (first | apply Pick.here | apply Pick.there))) | apply Keep.drop))) ⟨rfl, by simp⟩ ?_ ?_ ?_
  · rintro E r0 rec pre ⟨o, k⟩ l' T ⟨fn, tmps, D, rfl⟩ hT ⟨rfl, hpre⟩ hsp
    obtain ⟨ho1, _, _⟩ := itm_pre hsp
    simp only at ho1
    obtain ⟨sp, hcse⟩ := hcs _ _ ho1
    have hmT := hT _ (hsub _ (.tail _ (by rw [hcse]; exact .head _)))
    simp only [putPs, List.cons_append, List.nil_append]
    repeat (first | (show OpsS _ _ _ _ _ _ (_ :: _) _ _ _; first | refine ozq ?_ | refine ozs ?_ | refine ozs0 ?_ | refine ozt ?_ | refine ozf ?_ | refine t_hu rfl rfl rfl rfl rfl rfl ?_ | refine ozn ?_) | refine c_seq ?_ | refine p_then ?_ | refine c_region ?_ | refine s_nil ?_ | refine c_cond_t rfl ?_ | refine c_cond_f rfl ?_ | refine c_block ?_ | refine c_skip ?_ | refine c_exit ?_ | refine p_block ?_ | refine p_then_exit ?_ | refine p_block_here ?_ | refine p_block_on rfl ?_ | refine c_ret ?_ | refine p_then_ret ?_ | refine p_block_ret ?_ | refine p_end ?_ | refine c_if_t rfl (by omega) ?_ | refine c_if_f rfl (by omega) ?_)
    refine p_begin (by (repeat (first | apply Upd.here | apply Upd.there))) ?_
    repeat (first | (show OpsS _ _ _ _ _ _ (_ :: _) _ _ _; first | refine ozq ?_ | refine ozs ?_ | refine ozs0 ?_ | refine ozt ?_ | refine ozf ?_ | refine t_hu rfl rfl rfl rfl rfl rfl ?_ | refine ozn ?_) | refine c_seq ?_ | refine p_then ?_ | refine c_region ?_ | refine s_nil ?_ | refine c_cond_t rfl ?_ | refine c_cond_f rfl ?_ | refine c_block ?_ | refine c_skip ?_ | refine c_exit ?_ | refine p_block ?_ | refine p_then_exit ?_ | refine p_block_here ?_ | refine p_block_on rfl ?_ | refine c_ret ?_ | refine p_then_ret ?_ | refine p_block_ret ?_ | refine p_end ?_ | refine c_if_t rfl (by omega) ?_ | refine c_if_f rfl (by omega) ?_)
    refine t_q (q_call rfl rfl fun l2 hl => apart_any kd fi N o gb (k * 9) _ _ _ l2 (hl _ (.tail _ (.tail _ (.tail _ (.tail _ (.tail _ (.tail _ (.tail _ hmT)))))))) (ocs_at ho1 sp)) rfl rfl rfl ?_
    cases hap : apartD kd fi N o with
    | false =>
      repeat (first | (show OpsS _ _ _ _ _ _ (_ :: _) _ _ _; first | refine ozq ?_ | refine ozs ?_ | refine ozs0 ?_ | refine ozt ?_ | refine ozf ?_ | refine t_hu rfl rfl rfl rfl rfl rfl ?_ | refine ozn ?_) | refine c_seq ?_ | refine p_then ?_ | refine c_region ?_ | refine s_nil ?_ | refine c_cond_t rfl ?_ | refine c_cond_f rfl ?_ | refine c_block ?_ | refine c_skip ?_ | refine c_exit ?_ | refine p_block ?_ | refine p_then_exit ?_ | refine p_block_here ?_ | refine p_block_on rfl ?_ | refine c_ret ?_ | refine p_then_ret ?_ | refine p_block_ret ?_ | refine p_end ?_ | refine c_if_t rfl (by omega) ?_ | refine c_if_f rfl (by omega) ?_)
      refine p_round_ret [erC b9 16, inC b8 0] (by ((try simp only [List.cons_append, List.nil_append, List.map_cons, List.map_nil]); repeat (first | with_reducible apply Keep.refl | (apply Keep.pick; · (repeat (first | apply Pick.here | apply Pick.there))) | apply Keep.drop))) ⟨rfl, pre, (o, k), rfl, hap, rfl⟩
    | true =>
      repeat (first | (show OpsS _ _ _ _ _ _ (_ :: _) _ _ _; first | refine ozq ?_ | refine ozs ?_ | refine ozs0 ?_ | refine ozt ?_ | refine ozf ?_ | refine t_hu rfl rfl rfl rfl rfl rfl ?_ | refine ozn ?_) | refine c_seq ?_ | refine p_then ?_ | refine c_region ?_ | refine s_nil ?_ | refine c_cond_t rfl ?_ | refine c_cond_f rfl ?_ | refine c_block ?_ | refine c_skip ?_ | refine c_exit ?_ | refine p_block ?_ | refine p_then_exit ?_ | refine p_block_here ?_ | refine p_block_on rfl ?_ | refine c_ret ?_ | refine p_then_ret ?_ | refine p_block_ret ?_ | refine p_end ?_ | refine c_if_t rfl (by omega) ?_ | refine c_if_f rfl (by omega) ?_)
      refine p_round _ .refl ⟨rfl, fun x hx => ?_⟩
      rcases List.mem_append.1 hx with hx | hx
      · exact hpre x hx
      · rw [List.mem_singleton.1 hx]; exact hap
  · rintro D xs l' rfl ⟨rfl, hpre⟩
    simp only [List.cons_append, List.nil_append]
    repeat (first | (show OpsS _ _ _ _ _ _ (_ :: _) _ _ _; first | refine ozq ?_ | refine ozs ?_ | refine ozs0 ?_ | refine ozt ?_ | refine ozf ?_ | refine t_hu rfl rfl rfl rfl rfl rfl ?_ | refine ozn ?_) | refine c_seq ?_ | refine p_then ?_ | refine c_region ?_ | refine s_nil ?_ | refine c_cond_t rfl ?_ | refine c_cond_f rfl ?_ | refine c_block ?_ | refine c_skip ?_ | refine c_exit ?_ | refine p_block ?_ | refine p_then_exit ?_ | refine p_block_here ?_ | refine p_block_on rfl ?_ | refine c_ret ?_ | refine p_then_ret ?_ | refine p_block_ret ?_ | refine p_end ?_ | refine c_if_t rfl (by omega) ?_ | refine c_if_f rfl (by omega) ?_)
    refine t_q (q_call rfl rfl fun l2 hl => next_any b S _ hA' fi l2 (fun c hc => hl _ (.tail _ (.tail _ (.tail _ (.tail _ (.tail _ (.tail _ (.tail _ (hsub c hc))))))))) ) rfl rfl rfl ?_
    have hall := all_itm (p := fun o => apartD kd fi N o) hpre
    by_cases h4 : nextD S fi = 0
    · rw [h4]
      repeat (first | (show OpsS _ _ _ _ _ _ (_ :: _) _ _ _; first | refine ozq ?_ | refine ozs ?_ | refine ozs0 ?_ | refine ozt ?_ | refine ozf ?_ | refine t_hu rfl rfl rfl rfl rfl rfl ?_ | refine ozn ?_) | refine c_seq ?_ | refine p_then ?_ | refine c_region ?_ | refine s_nil ?_ | refine c_cond_t rfl ?_ | refine c_cond_f rfl ?_ | refine c_block ?_ | refine c_skip ?_ | refine c_exit ?_ | refine p_block ?_ | refine p_then_exit ?_ | refine p_block_here ?_ | refine p_block_on rfl ?_ | refine c_ret ?_ | refine p_then_ret ?_ | refine p_block_ret ?_ | refine p_end ?_ | refine c_if_t rfl (by omega) ?_ | refine c_if_f rfl (by omega) ?_)
      have e := add_e (show addE S kd sz fi = 11 by unfold addE; rw [hN, if_neg h1, if_neg (by omega), if_neg (by rw [hall]; decide), if_pos h4]) (by decide)
      exact k_ret2 [D] (inC b10 N :: erC b9 11 :: inC b8 0 :: inC b7 fi :: inC b5 kd :: L) rfl (l' := L) (by ((try simp only [List.cons_append, List.nil_append, List.map_cons, List.map_nil]); repeat (first | with_reducible apply Keep.refl | (apply Keep.pick; · (repeat (first | apply Pick.here | apply Pick.there))) | apply Keep.drop))) (by (repeat (first | apply ResS.nil | (apply rs_tmp; (· rfl)) | (apply rs_cell1; (· rfl); (· ((repeat (first | with_reducible apply List.mem_cons_self | with_reducible apply List.mem_cons_of_mem)); try with_reducible assumption)); (· rfl)) | (apply rs_cellA; (· rfl); (· ((repeat (first | with_reducible apply List.mem_cons_self | with_reducible apply List.mem_cons_of_mem)); try with_reducible assumption)); (· (repeat (first | with_reducible apply LSub.done | with_reducible apply LSub.take | with_reducible apply LSub.drop))))))) (.drop (.drop (.drop (.drop (.drop .refl))))) ⟨by rw [e]; rfl, _, by rw [e]; exact hA', hL.symm⟩
    have hE : addE S kd sz fi = 0 := by unfold addE; rw [hN, if_neg h1, if_neg (by omega), if_neg (by rw [hall]; decide), if_neg h4]
    obtain ⟨f0, f1, f2, f3, f4⟩ := next_pos hok h4
    obtain ⟨I, hI⟩ : ∃ I, nextD S fi = I := ⟨_, rfl⟩
    rw [hI] at f2 f3 f4 h4 ⊢
    obtain ⟨j, rfl⟩ : ∃ j : Nat, fi = j := ⟨fi.toNat, by omega⟩
    have hj : j < 64 := by omega
    rw [Int.toNat_natCast] at f2
    have cg := arL_g S.n S.g v hj
    have hg := hok.g1 j
    have hOk := add_ok hok kd sz j
    rw [add_0 hE] at hOk ⊢
    rw [hI, Int.toNat_natCast] at hOk ⊢
    rw [← hL]
    obtain ⟨p, cap, rfl, hp⟩ : ∃ p cap, v = .slice p S.os.length cap ∧ (0 < S.os.length → p = some ⟨gb, 0, none⟩) := by
      rcases hrow with ⟨h, h0⟩ | ⟨cap, h⟩
      · exact ⟨none, 0, by rw [h, h0], fun h => by omega⟩
      · exact ⟨_, cap, h, fun _ => rfl⟩
    clear hsub hm hL hA'
    repeat (first | (show OpsS _ _ _ _ _ _ (_ :: _) _ _ _; first | refine ozq ?_ | refine ozs ?_ | refine ozs0 ?_ | refine ozt ?_ | refine ozf ?_ | refine t_hu rfl rfl rfl rfl rfl rfl ?_ | refine ozn ?_) | refine c_seq ?_ | refine p_then ?_ | refine c_region ?_ | refine s_nil ?_ | refine c_cond_t rfl ?_ | refine c_cond_f rfl ?_ | refine c_block ?_ | refine c_skip ?_ | refine c_exit ?_ | refine p_block ?_ | refine p_then_exit ?_ | refine p_block_here ?_ | refine p_block_on rfl ?_ | refine c_ret ?_ | refine p_then_ret ?_ | refine p_block_ret ?_ | refine p_end ?_ | refine c_if_t rfl (by omega) ?_ | refine c_if_f rfl (by omega) ?_)
    refine c_draw [(0, true), (1, true), (2, true), (3, true), (4, true), (5, true), (6, true), (7, true), (8, true), (9, true), (10, false)] [[], [], [0], [0, 2], [0, 1, 2, 3], [0, 1, 2, 3, 4], [0, 1, 2, 3, 4, 5], [0], [0, 7], [0, 1, 2, 3, 4, 5, 6, 7, 8], [0, 1, 2, 3, 4, 5, 6, 7, 8, 9]] ([]) (by kernel_rfl) (by kernel_rfl) (by (repeat (first | apply Attach.nil | (apply Attach.cons; · rfl)))) (List.Sublist.subset (by (repeat (first | with_reducible apply List.Sublist.refl | with_reducible apply List.nil_sublist | with_reducible apply List.Sublist.cons_cons | with_reducible apply List.Sublist.cons)))) ?_
    repeat (first | refine pl_nil ?_ | (show PlanS _ _ _ _ _ _ _ _ _ _ ((_, true, _) :: _) _ _ _; first | refine pzq ?_ | refine pzt ?_ | refine pzf ?_) | (show PlanS _ _ _ _ _ _ _ _ none [] ((_, _, _) :: _) _ _ _; first | refine pzs ?_ | refine pzs0 ?_ | refine pl_hu (List.Sublist.subset (by (repeat (first | with_reducible apply List.Sublist.refl | with_reducible apply List.nil_sublist | with_reducible apply List.Sublist.cons_cons | with_reducible apply List.Sublist.cons)))) rfl rfl rfl rfl rfl rfl ?_) | (show PlanS _ _ _ _ _ _ _ _ _ _ ((_, _, _) :: _) _ _ _; first | refine pzt ?_ | refine pzf ?_) | (show PlanS _ _ _ _ _ _ _ _ none [] ((_, false, _) :: _) _ _ _; first | refine pzn ?_ | refine pze ?_))
    apply pl_s (S := [inC b7 (j : Nat)]); (· first | exact q_load rfl (.head _) (by (first | with_reducible assumption | ((with_reducible apply cell_get); (repeat (first | with_reducible apply LGet.zero | with_reducible apply LGet.succ))))) | exact q_loadL rfl (.head _) (by (repeat (first | with_reducible apply LSub.done | with_reducible apply LSub.take | with_reducible apply LSub.drop)))); (· exact sing_mem (.tail _ (.tail _ (.tail _ (.tail _ (.tail _ (.head _))))))); (· rfl); (· rfl); (· rfl)
    repeat (first | refine pl_nil ?_ | (show PlanS _ _ _ _ _ _ _ _ _ _ ((_, true, _) :: _) _ _ _; first | refine pzq ?_ | refine pzt ?_ | refine pzf ?_) | (show PlanS _ _ _ _ _ _ _ _ none [] ((_, _, _) :: _) _ _ _; first | refine pzs ?_ | refine pzs0 ?_ | refine pl_hu (List.Sublist.subset (by (repeat (first | with_reducible apply List.Sublist.refl | with_reducible apply List.nil_sublist | with_reducible apply List.Sublist.cons_cons | with_reducible apply List.Sublist.cons)))) rfl rfl rfl rfl rfl rfl ?_) | (show PlanS _ _ _ _ _ _ _ _ _ _ ((_, _, _) :: _) _ _ _; first | refine pzt ?_ | refine pzf ?_) | (show PlanS _ _ _ _ _ _ _ _ none [] ((_, false, _) :: _) _ _ _; first | refine pzn ?_ | refine pze ?_))
    apply pl_s (S := [arC b S.n S.g (.slice p S.os.length cap)])
    · exact q_load rfl (.head _) cg
    · exact sing_mem (.tail _ (.tail _ (.tail _ (.tail _ (.tail _ (.tail _ (.tail _ (.head _))))))))
    · rfl
    · rfl
    · rfl
    repeat (first | refine pl_nil ?_ | (show PlanS _ _ _ _ _ _ _ _ _ _ ((_, true, _) :: _) _ _ _; first | refine pzq ?_ | refine pzt ?_ | refine pzf ?_) | (show PlanS _ _ _ _ _ _ _ _ none [] ((_, _, _) :: _) _ _ _; first | refine pzs ?_ | refine pzs0 ?_ | refine pl_hu (List.Sublist.subset (by (repeat (first | with_reducible apply List.Sublist.refl | with_reducible apply List.nil_sublist | with_reducible apply List.Sublist.cons_cons | with_reducible apply List.Sublist.cons)))) rfl rfl rfl rfl rfl rfl ?_) | (show PlanS _ _ _ _ _ _ _ _ _ _ ((_, _, _) :: _) _ _ _; first | refine pzt ?_ | refine pzf ?_) | (show PlanS _ _ _ _ _ _ _ _ none [] ((_, false, _) :: _) _ _ _; first | refine pzn ?_ | refine pze ?_))
    apply pl_nS
    · exact e_store (b := b) (off := 1 + j * 1) (cs := List.toArray (arL S.n S.g (.slice p S.os.length cap))) rfl rfl rfl (by rw [arL_setG _ _ _ hj]; (repeat (first | apply Upd.here | apply Upd.there))) (by rw [List.size_toArray, arL_len]; omega)
    (· rfl); (· rfl); (· intro _ _ _ c hc; cases hc); (· exact fun _ _ _ x hx ha => anc_all (by kernel_rfl) hx ha)
    rintro _ _ ⟨rfl, rfl⟩
    obtain ⟨g', hg'⟩ : ∃ g', upd S.g j (S.g j + 1) = g' := ⟨_, rfl⟩
    rw [hg'] at hOk ⊢
    have cl := arL_l S.n g' (.slice p S.os.length cap)
    repeat (first | refine pl_nil ?_ | (show PlanS _ _ _ _ _ _ _ _ _ _ ((_, true, _) :: _) _ _ _; first | refine pzq ?_ | refine pzt ?_ | refine pzf ?_) | (show PlanS _ _ _ _ _ _ _ _ none [] ((_, _, _) :: _) _ _ _; first | refine pzs ?_ | refine pzs0 ?_ | refine pl_hu (List.Sublist.subset (by (repeat (first | with_reducible apply List.Sublist.refl | with_reducible apply List.nil_sublist | with_reducible apply List.Sublist.cons_cons | with_reducible apply List.Sublist.cons)))) rfl rfl rfl rfl rfl rfl ?_) | (show PlanS _ _ _ _ _ _ _ _ _ _ ((_, _, _) :: _) _ _ _; first | refine pzt ?_ | refine pzf ?_) | (show PlanS _ _ _ _ _ _ _ _ none [] ((_, false, _) :: _) _ _ _; first | refine pzn ?_ | refine pze ?_))
    repeat (first | (show OpsS _ _ _ _ _ _ (_ :: _) _ _ _; first | refine ozq ?_ | refine ozs ?_ | refine ozs0 ?_ | refine ozt ?_ | refine ozf ?_ | refine t_hu rfl rfl rfl rfl rfl rfl ?_ | refine ozn ?_) | refine c_seq ?_ | refine p_then ?_ | refine c_region ?_ | refine s_nil ?_ | refine c_cond_t rfl ?_ | refine c_cond_f rfl ?_ | refine c_block ?_ | refine c_skip ?_ | refine c_exit ?_ | refine p_block ?_ | refine p_then_exit ?_ | refine p_block_here ?_ | refine p_block_on rfl ?_ | refine c_ret ?_ | refine p_then_ret ?_ | refine p_block_ret ?_ | refine p_end ?_ | refine c_if_t rfl (by omega) ?_ | refine c_if_f rfl (by omega) ?_)
    refine k_loop (α := Nat) (fun k => [(0, .pointer (some ⟨b, 0, none⟩)), (2, .int .i64 sz), (5, .pointer (some ⟨b5, 0, none⟩)), (7, .pointer (some ⟨b7, 0, none⟩)), (8, .pointer (some ⟨b8, 0, none⟩)), (9, .pointer (some ⟨b9, 0, none⟩)), (10, .pointer (some ⟨b10, 0, none⟩)), (13, .int .i64 I), (14, .int .i64 k)])
      (fun k => markC D :: xB B (some ⟨b, 0, none⟩) :: inC b10 N :: erC b9 0 :: inC b8 0 :: inC b7 (j : Nat) :: inC b5 kd :: arC b S.n g' (.slice p S.os.length cap) :: (cs ++ F)) (fun k => k ≤ S.os.length ∧ ∀ x ∈ S.os.drop k, ¬ x.id ≤ I) (fun k => k) S.os.length ⟨Nat.le_refl _, by simp⟩ ⟨rfl, rfl, rfl, rfl, rfl, rfl, rfl, rfl, rfl, trivial⟩ .refl ?_
    rintro k ⟨hk, hd⟩
    by_cases hnx : ∃ o, 0 < k ∧ S.os[k - 1]? = some o ∧ o.id > I
    · obtain ⟨o, hk0, ho1, hoI⟩ := hnx
      obtain ⟨k, rfl⟩ : ∃ q, k = q + 1 := ⟨k - 1, by omega⟩
      rw [Nat.add_sub_cancel] at ho1
      obtain ⟨sp, hcse⟩ := hcs _ _ ho1
      have hpp := hp (by omega)
      have co : (List.toArray (ocs S.os ++ sp))[k * 9]? = some (.int .i64 o.id) := ocs_at ho1 sp 0 (by omega)
      rw [hpp] at cl ⊢
      repeat (first | (show OpsS _ _ _ _ _ _ (_ :: _) _ _ _; first | refine ozq ?_ | refine ozs ?_ | refine ozs0 ?_ | refine ozt ?_ | refine ozf ?_ | refine t_hu rfl rfl rfl rfl rfl rfl ?_ | refine ozn ?_) | refine c_seq ?_ | refine p_then ?_ | refine c_region ?_ | refine s_nil ?_ | refine c_cond_t rfl ?_ | refine c_cond_f rfl ?_ | refine c_block ?_ | refine c_skip ?_ | refine c_exit ?_ | refine p_block ?_ | refine p_then_exit ?_ | refine p_block_here ?_ | refine p_block_on rfl ?_ | refine c_ret ?_ | refine p_then_ret ?_ | refine p_block_ret ?_ | refine p_end ?_ | refine c_if_t rfl (by omega) ?_ | refine c_if_f rfl (by omega) ?_)
      refine t_gq (q_load (v := .int .i64 o.id) (cs := List.toArray (ocs S.os ++ sp)) rfl (.tail _ (.tail _ (.tail _ (.tail _ (.tail _ (.tail _ (.tail _ (.tail _ (List.mem_append_left _ (by rw [hcse]; exact .head _)))))))))) ?_) rfl rfl rfl rfl rfl rfl ?_
      · rw [show ((((k + 1 : Nat)) : Int) - 1).toNat = k by omega, Nat.zero_add]; exact co
      repeat (first | (show OpsS _ _ _ _ _ _ (_ :: _) _ _ _; first | refine ozq ?_ | refine ozs ?_ | refine ozs0 ?_ | refine ozt ?_ | refine ozf ?_ | refine t_hu rfl rfl rfl rfl rfl rfl ?_ | refine ozn ?_) | refine c_seq ?_ | refine p_then ?_ | refine c_region ?_ | refine s_nil ?_ | refine c_cond_t rfl ?_ | refine c_cond_f rfl ?_ | refine c_block ?_ | refine c_skip ?_ | refine c_exit ?_ | refine p_block ?_ | refine p_then_exit ?_ | refine p_block_here ?_ | refine p_block_on rfl ?_ | refine c_ret ?_ | refine p_then_ret ?_ | refine p_block_ret ?_ | refine p_end ?_ | refine c_if_t rfl (by omega) ?_ | refine c_if_f rfl (by omega) ?_)
      rw [show (((k + 1 : Nat)) : Int) - 1 = (k : Nat) by omega, ← hpp]
      refine k_next k ⟨by omega, fun x hx => ?_⟩ (by omega) ⟨rfl, rfl, rfl, rfl, rfl, rfl, rfl, rfl, rfl, trivial⟩ .refl
      rw [List.drop_eq_getElem_cons (by omega)] at hx
      rcases List.mem_cons.1 hx with rfl | hx
      · rw [(List.getElem?_eq_some_iff.1 ho1).2]; omega
      · exact hd x hx
    · have hT := drop_le hok.asc hk hnx
      have hins := ins_at (o := newO S kd sz j) hk (fun x hx => by show x.id ≤ nextD S j; rw [hI]; exact hT x hx) (fun x hx => by show ¬ x.id ≤ nextD S j; rw [hI]; exact hd x hx)
      have hnewO : newO S kd sz j = ⟨I, kd, sz, j, N, 0, 0, 0, 0⟩ := by unfold newO; rw [hI, hN]
      rw [hnewO] at hins hOk ⊢
      obtain ⟨ob, hob⟩ : ∃ ob : ObT, ob = ⟨I, kd, sz, j, N, 0, 0, 0, 0⟩ := ⟨_, rfl⟩
      have hobC : obC ob = [.int .i64 I, .int .i64 kd, .int .i64 sz, .int .i64 j, .int .i64 N, .int .i64 0, .int .i64 0, .int .i64 0, .int .i64 0] := by rw [hob]
      rw [← hob] at hins hOk ⊢
      have hX : ∀ x : Chunk, x ∈ [inC b5 kd, inC b7 (j : Nat), inC b10 N, arC b S.n g' (.slice p S.os.length cap)] → x ∈ markC D :: xB B (some ⟨b, 0, none⟩) :: inC b10 N :: erC b9 0 :: inC b8 0 :: inC b7 (j : Nat) :: inC b5 kd :: arC b S.n g' (.slice p S.os.length cap) :: (cs ++ F) := by
        intro x hx
        simp only [List.mem_cons, List.not_mem_nil, or_false] at hx ⊢
        rcases hx with rfl | rfl | rfl | rfl <;> simp only [true_or, or_true]
      have hbl2 : ∀ bl, (∀ c, c ∈ markC D :: xB B (some ⟨b, 0, none⟩) :: inC b10 N :: erC b9 0 :: inC b8 0 :: inC b7 (j : Nat) :: inC b5 kd :: arC b S.n g' (.slice p S.os.length cap) :: (cs ++ F) → c.1 ≠ bl) → ∀ c, c ∈ cs → c.1 ≠ bl := fun bl h c hc => h c (.tail _ (.tail _ (.tail _ (.tail _ (.tail _ (.tail _ (.tail _ (.tail _ (List.mem_append_left _ hc)))))))))
      rcases Nat.eq_zero_or_pos k with hk0 | hk0
      case' inl =>
        repeat (first | (show OpsS _ _ _ _ _ _ (_ :: _) _ _ _; first | refine ozq ?_ | refine ozs ?_ | refine ozs0 ?_ | refine ozt ?_ | refine ozf ?_ | refine t_hu rfl rfl rfl rfl rfl rfl ?_ | refine ozn ?_) | refine c_seq ?_ | refine p_then ?_ | refine c_region ?_ | refine s_nil ?_ | refine c_cond_t rfl ?_ | refine c_cond_f rfl ?_ | refine c_block ?_ | refine c_skip ?_ | refine c_exit ?_ | refine p_block ?_ | refine p_then_exit ?_ | refine p_block_here ?_ | refine p_block_on rfl ?_ | refine c_ret ?_ | refine p_then_ret ?_ | refine p_block_ret ?_ | refine p_end ?_ | refine c_if_t rfl (by omega) ?_ | refine c_if_f rfl (by omega) ?_)
      case' inr =>
        obtain ⟨q, hq⟩ : ∃ q, k = q + 1 := ⟨k - 1, by omega⟩
        obtain ⟨o, ho1⟩ : ∃ o, S.os[q]? = some o := ⟨_, List.getElem?_eq_getElem (by omega)⟩
        have hoI : ¬ o.id > I := fun h => hnx ⟨o, by omega, by rw [hq]; exact ho1, h⟩
        obtain ⟨sp, hcse⟩ := hcs _ _ ho1
        have hpp := hp (by omega)
        have co : (List.toArray (ocs S.os ++ sp))[q * 9]? = some (.int .i64 o.id) := ocs_at ho1 sp 0 (by omega)
        rw [hpp] at cl ⊢
        repeat (first | (show OpsS _ _ _ _ _ _ (_ :: _) _ _ _; first | refine ozq ?_ | refine ozs ?_ | refine ozs0 ?_ | refine ozt ?_ | refine ozf ?_ | refine t_hu rfl rfl rfl rfl rfl rfl ?_ | refine ozn ?_) | refine c_seq ?_ | refine p_then ?_ | refine c_region ?_ | refine s_nil ?_ | refine c_cond_t rfl ?_ | refine c_cond_f rfl ?_ | refine c_block ?_ | refine c_skip ?_ | refine c_exit ?_ | refine p_block ?_ | refine p_then_exit ?_ | refine p_block_here ?_ | refine p_block_on rfl ?_ | refine c_ret ?_ | refine p_then_ret ?_ | refine p_block_ret ?_ | refine p_end ?_ | refine c_if_t rfl (by omega) ?_ | refine c_if_f rfl (by omega) ?_)
        refine t_gq (q_load (v := .int .i64 o.id) (cs := List.toArray (ocs S.os ++ sp)) rfl (.tail _ (.tail _ (.tail _ (.tail _ (.tail _ (.tail _ (.tail _ (.tail _ (List.mem_append_left _ (by rw [hcse]; exact .head _)))))))))) ?_) rfl rfl rfl rfl rfl rfl ?_
        · rw [show (((k : Nat) : Int) - 1).toNat = q by omega, Nat.zero_add]; exact co
        repeat (first | (show OpsS _ _ _ _ _ _ (_ :: _) _ _ _; first | refine ozq ?_ | refine ozs ?_ | refine ozs0 ?_ | refine ozt ?_ | refine ozf ?_ | refine t_hu rfl rfl rfl rfl rfl rfl ?_ | refine ozn ?_) | refine c_seq ?_ | refine p_then ?_ | refine c_region ?_ | refine s_nil ?_ | refine c_cond_t rfl ?_ | refine c_cond_f rfl ?_ | refine c_block ?_ | refine c_skip ?_ | refine c_exit ?_ | refine p_block ?_ | refine p_then_exit ?_ | refine p_block_here ?_ | refine p_block_on rfl ?_ | refine c_ret ?_ | refine p_then_ret ?_ | refine p_block_ret ?_ | refine p_end ?_ | refine c_if_t rfl (by omega) ?_ | refine c_if_f rfl (by omega) ?_)
        rw [← hpp] at cl ⊢
      all_goals
        refine c_draw [(0, true), (1, true), (2, true), (3, true), (4, true), (5, true), (6, true), (7, true), (8, true), (9, true), (10, true), (11, true), (12, false), (13, false), (14, true), (15, true), (16, false)] [[], [], [1], [1, 2], [1, 2, 3], [], [], [], [], [], [], [6, 7, 8, 9, 10], [6, 7, 8, 9, 10, 11], [1, 2, 3, 4, 5, 6, 7, 8, 9, 10, 11, 12], [0, 1, 2, 3, 4, 5, 6, 7, 8, 9, 10, 11, 12, 13], [0, 1, 2, 3, 4, 5, 6, 7, 8, 9, 10, 11, 12, 13, 14], [0, 1, 2, 3, 4, 5, 6, 7, 8, 9, 10, 11, 12, 13, 14, 15]] ([]) (by kernel_rfl) (by kernel_rfl) (by (repeat (first | apply Attach.nil | (apply Attach.cons; · rfl)))) (List.Sublist.subset (by (repeat (first | with_reducible apply List.Sublist.refl | with_reducible apply List.nil_sublist | with_reducible apply List.Sublist.cons_cons | with_reducible apply List.Sublist.cons)))) ?_
        repeat (first | refine pl_nil ?_ | (show PlanS _ _ _ _ _ _ _ _ _ _ ((_, true, _) :: _) _ _ _; first | refine pzq ?_ | refine pzt ?_ | refine pzf ?_) | (show PlanS _ _ _ _ _ _ _ _ none [] ((_, _, _) :: _) _ _ _; first | refine pzs ?_ | refine pzs0 ?_ | refine pl_hu (List.Sublist.subset (by (repeat (first | with_reducible apply List.Sublist.refl | with_reducible apply List.nil_sublist | with_reducible apply List.Sublist.cons_cons | with_reducible apply List.Sublist.cons)))) rfl rfl rfl rfl rfl rfl ?_) | (show PlanS _ _ _ _ _ _ _ _ _ _ ((_, _, _) :: _) _ _ _; first | refine pzt ?_ | refine pzf ?_) | (show PlanS _ _ _ _ _ _ _ _ none [] ((_, false, _) :: _) _ _ _; first | refine pzn ?_ | refine pze ?_))
        apply pl_s (S := [arC b S.n g' (.slice p S.os.length cap)])
        · exact q_load rfl (.head _) cl
        · exact sing_mem (hX _ (.tail _ (.tail _ (.tail _ (.head _)))))
        · rfl
        · rfl
        · rfl
        repeat (first | refine pl_nil ?_ | (show PlanS _ _ _ _ _ _ _ _ _ _ ((_, true, _) :: _) _ _ _; first | refine pzq ?_ | refine pzt ?_ | refine pzf ?_) | (show PlanS _ _ _ _ _ _ _ _ none [] ((_, _, _) :: _) _ _ _; first | refine pzs ?_ | refine pzs0 ?_ | refine pl_hu (List.Sublist.subset (by (repeat (first | with_reducible apply List.Sublist.refl | with_reducible apply List.nil_sublist | with_reducible apply List.Sublist.cons_cons | with_reducible apply List.Sublist.cons)))) rfl rfl rfl rfl rfl rfl ?_) | (show PlanS _ _ _ _ _ _ _ _ _ _ ((_, _, _) :: _) _ _ _; first | refine pzt ?_ | refine pzf ?_) | (show PlanS _ _ _ _ _ _ _ _ none [] ((_, false, _) :: _) _ _ _; first | refine pzn ?_ | refine pze ?_))
        apply pl_s (S := [inC b5 kd]); (· first | exact q_load rfl (.head _) (by (first | with_reducible assumption | ((with_reducible apply cell_get); (repeat (first | with_reducible apply LGet.zero | with_reducible apply LGet.succ))))) | exact q_loadL rfl (.head _) (by (repeat (first | with_reducible apply LSub.done | with_reducible apply LSub.take | with_reducible apply LSub.drop)))); (· exact sing_mem (hX _ (.head _))); (· rfl); (· rfl); (· rfl)
        repeat (first | refine pl_nil ?_ | (show PlanS _ _ _ _ _ _ _ _ _ _ ((_, true, _) :: _) _ _ _; first | refine pzq ?_ | refine pzt ?_ | refine pzf ?_) | (show PlanS _ _ _ _ _ _ _ _ none [] ((_, _, _) :: _) _ _ _; first | refine pzs ?_ | refine pzs0 ?_ | refine pl_hu (List.Sublist.subset (by (repeat (first | with_reducible apply List.Sublist.refl | with_reducible apply List.nil_sublist | with_reducible apply List.Sublist.cons_cons | with_reducible apply List.Sublist.cons)))) rfl rfl rfl rfl rfl rfl ?_) | (show PlanS _ _ _ _ _ _ _ _ _ _ ((_, _, _) :: _) _ _ _; first | refine pzt ?_ | refine pzf ?_) | (show PlanS _ _ _ _ _ _ _ _ none [] ((_, false, _) :: _) _ _ _; first | refine pzn ?_ | refine pze ?_))
        apply pl_s (S := [inC b7 (j : Nat)]); (· first | exact q_load rfl (.head _) (by (first | with_reducible assumption | ((with_reducible apply cell_get); (repeat (first | with_reducible apply LGet.zero | with_reducible apply LGet.succ))))) | exact q_loadL rfl (.head _) (by (repeat (first | with_reducible apply LSub.done | with_reducible apply LSub.take | with_reducible apply LSub.drop)))); (· exact sing_mem (hX _ (.tail _ (.head _)))); (· rfl); (· rfl); (· rfl)
        repeat (first | refine pl_nil ?_ | (show PlanS _ _ _ _ _ _ _ _ _ _ ((_, true, _) :: _) _ _ _; first | refine pzq ?_ | refine pzt ?_ | refine pzf ?_) | (show PlanS _ _ _ _ _ _ _ _ none [] ((_, _, _) :: _) _ _ _; first | refine pzs ?_ | refine pzs0 ?_ | refine pl_hu (List.Sublist.subset (by (repeat (first | with_reducible apply List.Sublist.refl | with_reducible apply List.nil_sublist | with_reducible apply List.Sublist.cons_cons | with_reducible apply List.Sublist.cons)))) rfl rfl rfl rfl rfl rfl ?_) | (show PlanS _ _ _ _ _ _ _ _ _ _ ((_, _, _) :: _) _ _ _; first | refine pzt ?_ | refine pzf ?_) | (show PlanS _ _ _ _ _ _ _ _ none [] ((_, false, _) :: _) _ _ _; first | refine pzn ?_ | refine pze ?_))
        apply pl_s (S := [inC b10 N]); (· first | exact q_load rfl (.head _) (by (first | with_reducible assumption | ((with_reducible apply cell_get); (repeat (first | with_reducible apply LGet.zero | with_reducible apply LGet.succ))))) | exact q_loadL rfl (.head _) (by (repeat (first | with_reducible apply LSub.done | with_reducible apply LSub.take | with_reducible apply LSub.drop)))); (· exact sing_mem (hX _ (.tail _ (.tail _ (.head _))))); (· rfl); (· rfl); (· rfl)
        repeat (first | refine pl_nil ?_ | (show PlanS _ _ _ _ _ _ _ _ _ _ ((_, true, _) :: _) _ _ _; first | refine pzq ?_ | refine pzt ?_ | refine pzf ?_) | (show PlanS _ _ _ _ _ _ _ _ none [] ((_, _, _) :: _) _ _ _; first | refine pzs ?_ | refine pzs0 ?_ | refine pl_hu (List.Sublist.subset (by (repeat (first | with_reducible apply List.Sublist.refl | with_reducible apply List.nil_sublist | with_reducible apply List.Sublist.cons_cons | with_reducible apply List.Sublist.cons)))) rfl rfl rfl rfl rfl rfl ?_) | (show PlanS _ _ _ _ _ _ _ _ _ _ ((_, _, _) :: _) _ _ _; first | refine pzt ?_ | refine pzf ?_) | (show PlanS _ _ _ _ _ _ _ _ none [] ((_, false, _) :: _) _ _ _; first | refine pzn ?_ | refine pze ?_))
        apply pl_eS
        · apply e_litA (ws := obC ob) (k := 9)
          · rw [hobC]; rfl
          · rfl
          · rfl
          · decide
          · decide
        · rfl
        · rfl
        · rfl
        · intro _ _ _ c hc; cases hc
        · rintro _ _ ⟨bl, _, rfl, rfl⟩ x hx _ c hc
          refine .tail _ (hX _ ?_)
          simp only [List.mem_cons, List.not_mem_nil, or_false] at hx
          rcases hx with rfl | rfl | rfl | rfl <;> simp only [List.mem_cons, List.not_mem_nil, or_false] at hc <;> subst hc <;> simp only [List.mem_cons, true_or, or_true]
        rintro _ _ ⟨bl, hbl, rfl, rfl⟩
        repeat (first | refine pl_nil ?_ | (show PlanS _ _ _ _ _ _ _ _ _ _ ((_, true, _) :: _) _ _ _; first | refine pzq ?_ | refine pzt ?_ | refine pzf ?_) | (show PlanS _ _ _ _ _ _ _ _ none [] ((_, _, _) :: _) _ _ _; first | refine pzs ?_ | refine pzs0 ?_ | refine pl_hu (List.Sublist.subset (by (repeat (first | with_reducible apply List.Sublist.refl | with_reducible apply List.nil_sublist | with_reducible apply List.Sublist.cons_cons | with_reducible apply List.Sublist.cons)))) rfl rfl rfl rfl rfl rfl ?_) | (show PlanS _ _ _ _ _ _ _ _ _ _ ((_, _, _) :: _) _ _ _; first | refine pzt ?_ | refine pzf ?_) | (show PlanS _ _ _ _ _ _ _ _ none [] ((_, false, _) :: _) _ _ _; first | refine pzn ?_ | refine pze ?_))
        apply pl_eS
        · exact e_call0 rfl rfl (insert_mid [markC D, xB B (some ⟨b, 0, none⟩), inC b10 N, erC b9 0, inC b8 0, inC b7 (j : Nat), inC b5 kd, arC b S.n g' (.slice p S.os.length cap)] (.slice p S.os.length cap) S.os.length k bl (ocs S.os) (obC ob) cs F ho hk rfl (by simp [Value.oneCell']) (ocs_one _) (hbl2 bl hbl) (by omega))
        · rfl
        · rfl
        · rfl
        · intro _ _ _ c hc; cases hc
        · exact fun _ _ _ x hx ha => anc_all (by kernel_rfl) hx ha
        rintro v' _ ⟨c2, ho2, rfl⟩
        have hv1 : v'.oneCell' = true := ho2.one
        simp only [List.cons_append, List.nil_append]
        repeat (first | refine pl_nil ?_ | (show PlanS _ _ _ _ _ _ _ _ _ _ ((_, true, _) :: _) _ _ _; first | refine pzq ?_ | refine pzt ?_ | refine pzf ?_) | (show PlanS _ _ _ _ _ _ _ _ none [] ((_, _, _) :: _) _ _ _; first | refine pzs ?_ | refine pzs0 ?_ | refine pl_hu (List.Sublist.subset (by (repeat (first | with_reducible apply List.Sublist.refl | with_reducible apply List.nil_sublist | with_reducible apply List.Sublist.cons_cons | with_reducible apply List.Sublist.cons)))) rfl rfl rfl rfl rfl rfl ?_) | (show PlanS _ _ _ _ _ _ _ _ _ _ ((_, _, _) :: _) _ _ _; first | refine pzt ?_ | refine pzf ?_) | (show PlanS _ _ _ _ _ _ _ _ none [] ((_, false, _) :: _) _ _ _; first | refine pzn ?_ | refine pze ?_))
        apply pl_nS
        · exact e_store (b := b) (off := 65) (cs := List.toArray (arL S.n g' (.slice p S.os.length cap))) rfl rfl hv1 (by rw [arL_setL]; (repeat (first | apply Upd.here | apply Upd.there))) (by rw [List.size_toArray, arL_len]; omega)
        (· rfl); (· rfl); (· intro _ _ _ c hc; cases hc); (· exact fun _ _ _ x hx ha => anc_all (by kernel_rfl) hx ha)
        rintro _ _ ⟨rfl, rfl⟩
        repeat (first | refine pl_nil ?_ | (show PlanS _ _ _ _ _ _ _ _ _ _ ((_, true, _) :: _) _ _ _; first | refine pzq ?_ | refine pzt ?_ | refine pzf ?_) | (show PlanS _ _ _ _ _ _ _ _ none [] ((_, _, _) :: _) _ _ _; first | refine pzs ?_ | refine pzs0 ?_ | refine pl_hu (List.Sublist.subset (by (repeat (first | with_reducible apply List.Sublist.refl | with_reducible apply List.nil_sublist | with_reducible apply List.Sublist.cons_cons | with_reducible apply List.Sublist.cons)))) rfl rfl rfl rfl rfl rfl ?_) | (show PlanS _ _ _ _ _ _ _ _ _ _ ((_, _, _) :: _) _ _ _; first | refine pzt ?_ | refine pzf ?_) | (show PlanS _ _ _ _ _ _ _ _ none [] ((_, false, _) :: _) _ _ _; first | refine pzn ?_ | refine pze ?_))
        repeat (first | (show OpsS _ _ _ _ _ _ (_ :: _) _ _ _; first | refine ozq ?_ | refine ozs ?_ | refine ozs0 ?_ | refine ozt ?_ | refine ozf ?_ | refine t_hu rfl rfl rfl rfl rfl rfl ?_ | refine ozn ?_) | refine c_seq ?_ | refine p_then ?_ | refine c_region ?_ | refine s_nil ?_ | refine c_cond_t rfl ?_ | refine c_cond_f rfl ?_ | refine c_block ?_ | refine c_skip ?_ | refine c_exit ?_ | refine p_block ?_ | refine p_then_exit ?_ | refine p_block_here ?_ | refine p_block_on rfl ?_ | refine c_ret ?_ | refine p_then_ret ?_ | refine p_block_ret ?_ | refine p_end ?_ | refine c_if_t rfl (by omega) ?_ | refine c_if_f rfl (by omega) ?_)
        rw [(ocs_cut hk).1, (ocs_cut hk).2] at ho2
        refine k_ret2 [D] (inC b10 N :: erC b9 0 :: inC b8 I :: inC b7 (j : Nat) :: inC b5 kd :: arC b S.n g' v' :: (c2 ++ F)) rfl (l' := arC b S.n g' v' :: (c2 ++ F)) (by ((try simp only [List.cons_append, List.nil_append, List.map_cons, List.map_nil]); repeat (first | with_reducible apply Keep.refl | (apply Keep.pick; · (repeat (first | apply Pick.here | apply Pick.there))) | apply Keep.drop))) (by (repeat (first | apply ResS.nil | (apply rs_tmp; (· rfl)) | (apply rs_cell1; (· rfl); (· ((repeat (first | with_reducible apply List.mem_cons_self | with_reducible apply List.mem_cons_of_mem)); try with_reducible assumption)); (· rfl)) | (apply rs_cellA; (· rfl); (· ((repeat (first | with_reducible apply List.mem_cons_self | with_reducible apply List.mem_cons_of_mem)); try with_reducible assumption)); (· (repeat (first | with_reducible apply LSub.done | with_reducible apply LSub.take | with_reducible apply LSub.drop))))))) (.drop (.drop (.drop (.drop (.drop .refl))))) ⟨rfl, arC b S.n g' v' :: c2, ⟨hOk, v', c2, rfl, ?_⟩, rfl⟩
        show OwnSl 83 9 v' (insD S.os ob).length (ocs (insD S.os ob)) c2
        rw [ins_len, hins, ocs_app, show ocs (ob :: List.drop k S.os) = obC ob ++ ocs (List.drop k S.os) from rfl, ← List.append_assoc]
        exact ho2
  · rintro D c pre l' hsp ⟨rfl, pre', x, rfl, hap, rfl⟩
    obtain ⟨ho1, _, _⟩ := itm_pre hsp
    simp only [List.cons_append, List.nil_append]
    repeat (first | (show OpsS _ _ _ _ _ _ (_ :: _) _ _ _; first | refine ozq ?_ | refine ozs ?_ | refine ozs0 ?_ | refine ozt ?_ | refine ozf ?_ | refine t_hu rfl rfl rfl rfl rfl rfl ?_ | refine ozn ?_) | refine c_seq ?_ | refine p_then ?_ | refine c_region ?_ | refine s_nil ?_ | refine c_cond_t rfl ?_ | refine c_cond_f rfl ?_ | refine c_block ?_ | refine c_skip ?_ | refine c_exit ?_ | refine p_block ?_ | refine p_then_exit ?_ | refine p_block_here ?_ | refine p_block_on rfl ?_ | refine c_ret ?_ | refine p_then_ret ?_ | refine p_block_ret ?_ | refine p_end ?_ | refine c_if_t rfl (by omega) ?_ | refine c_if_f rfl (by omega) ?_)
    have e := add_e (show addE S kd sz fi = 16 by unfold addE; rw [hN, if_neg h1, if_neg (by omega), if_pos (all_not (List.mem_of_getElem? ho1) hap)]) (by decide)
    exact k_ret2 [D] (erC b9 16 :: inC b8 0 :: L) rfl (l' := L) (by ((try simp only [List.cons_append, List.nil_append, List.map_cons, List.map_nil]); repeat (first | with_reducible apply Keep.refl | (apply Keep.pick; · (repeat (first | apply Pick.here | apply Pick.there))) | apply Keep.drop))) (by (repeat (first | apply ResS.nil | (apply rs_tmp; (· rfl)) | (apply rs_cell1; (· rfl); (· ((repeat (first | with_reducible apply List.mem_cons_self | with_reducible apply List.mem_cons_of_mem)); try with_reducible assumption)); (· rfl)) | (apply rs_cellA; (· rfl); (· ((repeat (first | with_reducible apply List.mem_cons_self | with_reducible apply List.mem_cons_of_mem)); try with_reducible assumption)); (· (repeat (first | with_reducible apply LSub.done | with_reducible apply LSub.take | with_reducible apply LSub.drop))))))) (.drop (.drop .refl)) ⟨by rw [e]; rfl, _, by rw [e]; exact hA', hL.symm⟩
end Go.Proofs.Ytdbdbhlhdcidpaa.Ar

/- Arena: Drop, SetMark, SetPlace as plain data. -/
set_option linter.unusedVariables false
set_option linter.unusedSimpArgs false
namespace Go.Proofs.Ytdbdbhlhdcidpaa.Ar
open Go.RowKit
set_option maxRecDepth 20000

def dropD (S : ArT) (id : Int) : Int × ArT := match atO S.os id with
  | some k => (0, { S with os := S.os.eraseIdx k })
  | none => (2, S)
def setMa (o : ObT) (m : Int) : ObT := { o with ma := m }
def setPl (o : ObT) (s p v : Int) : ObT := { o with se := s, pg := p, lv := v }
def markD' (S : ArT) (id m : Int) : Int × ArT := match atO S.os id with
  | some k => if (S.os.getD k obO).kd ≠ 1 then (8, S) else if m < 0 ∨ m > (S.os.getD k obO).fr then (3, S) else (0, { S with os := S.os.set k (setMa (S.os.getD k obO) m) })
  | none => (2, S)
abbrev placeOk (s p v : Int) : Prop := (s = 0 ∧ p = 0 ∧ v = 0) ∨ (1 ≤ s ∧ s ≤ 16777215 ∧ 0 ≤ p ∧ p < 512 ∧ 1 ≤ v ∧ v ≤ 2)
def placeD (S : ArT) (id s p v : Int) : Int × ArT := match atO S.os id with
  | some k => if (S.os.getD k obO).kd ≠ 4 then (8, S) else if ¬ placeOk s p v then (3, S) else (0, { S with os := S.os.set k (setPl (S.os.getD k obO) s p v) })
  | none => (2, S)
theorem set_ok {S : ArT} (hS : S.Ok) {k : Nat} {o o' : ObT} (h : S.os[k]? = some o) (h1 : o'.id = o.id) (h2 : o'.fi = o.fi) : ArT.Ok { S with os := S.os.set k o' } := by
  have hk := (List.getElem?_eq_some_iff.1 h).1
  have he := (List.getElem?_eq_some_iff.1 h).2
  have hm : ∀ x ∈ S.os.set k o', ∃ y ∈ S.os, x.id = y.id ∧ x.fi = y.fi := fun x hx => by
    rcases List.mem_or_eq_of_mem_set hx with hx | rfl
    · exact ⟨x, hx, rfl, rfl⟩
    · exact ⟨o, List.mem_of_getElem? h, h1, h2⟩
  refine ⟨hS.n1, hS.n2, hS.g1, ?_, fun x hx => ?_, fun x hx => ?_⟩
  · show (S.os.set k o').Pairwise _
    rw [List.pairwise_iff_getElem]
    intro i j hi hj hij
    rw [List.length_set] at hi hj
    have hP := List.pairwise_iff_getElem.1 hS.asc
    have g : ∀ (i : Nat) (hi : i < S.os.length) (hi' : i < (S.os.set k o').length), ((S.os.set k o')[i]).id = (S.os[i]).id := fun i hi hi' => by
      rw [List.getElem_set]
      split
      · rename_i e; subst e; rw [h1, he]
      · rfl
    rw [g i hi, g j hj]
    exact hP i j hi hj hij
  · obtain ⟨y, hy, e1, e2⟩ := hm x hx
    rw [e1]; exact hS.rng y hy
  · obtain ⟨y, hy, e1, e2⟩ := hm x hx
    show 0 ≤ x.fi ∧ x.fi < S.n ∧ ∃ c : Int, 0 ≤ c ∧ c < S.g x.fi.toNat ∧ x.id = x.fi + 1 + 64 * c
    rw [e1, e2]; exact hS.num y hy
theorem atO_get {os : OL} {id : Int} {k : Nat} (h : atO os id = some k) : os[k]? = some (os.getD k obO) ∧ (os.getD k obO).id = id := by
  obtain ⟨o, h1, h2⟩ := atO_some h
  rw [List.getD, h1]; exact ⟨rfl, h2⟩
theorem drop_ok {S : ArT} (hS : S.Ok) (id : Int) : (dropD S id).2.Ok := by
  unfold dropD
  split
  · rename_i k hk
    have hm : ∀ x ∈ S.os.eraseIdx k, x ∈ S.os := fun x hx => List.mem_of_mem_eraseIdx hx
    exact ⟨hS.n1, hS.n2, hS.g1, hS.asc.sublist (List.eraseIdx_sublist ..), fun x hx => hS.rng x (hm x hx), fun x hx => hS.num x (hm x hx)⟩
  · exact hS
theorem mark_ok {S : ArT} (hS : S.Ok) (id m : Int) : (markD' S id m).2.Ok := by
  unfold markD'
  split
  · rename_i k hk
    split
    · exact hS
    split
    · exact hS
    exact set_ok hS (atO_get hk).1 rfl rfl
  · exact hS
theorem place_ok {S : ArT} (hS : S.Ok) (id s p v : Int) : (placeD S id s p v).2.Ok := by
  unfold placeD
  split
  · rename_i k hk
    split
    · exact hS
    split
    · exact hS
    exact set_ok hS (atO_get hk).1 rfl rfl
  · exact hS
theorem ocs_erase (os : OL) (k : Nat) (hk : k < os.length) : (os.eraseIdx k) = os.take k ++ os.drop (k + 1) := List.eraseIdx_eq_take_drop_succ ..
end Go.Proofs.Ytdbdbhlhdcidpaa.Ar

/- Arena: Drop, SetMark, SetPlace, the walks; nil ones. -/
-- GU
set_option linter.unusedVariables false
set_option linter.unusedSimpArgs false
namespace Go.Proofs.Ytdbdbhlhdcidpaa.Ar
open Go.RowKit
set_option maxRecDepth 20000

theorem mem_lq {c x : Chunk} {l F : List Chunk} (h : c ∈ x :: l) : c ∈ x :: (l ++ F) := by rw [← List.cons_append]; exact List.mem_append_left _ h
theorem ocs_split {os : OL} {k : Nat} {o : ObT} (h : os[k]? = some o) : ocs os = ocs (os.take k) ++ obC o ++ ocs (os.drop (k + 1)) := by
  conv => lhs; rw [split_at h]
  rw [ocs_app, show ocs (o :: os.drop (k + 1)) = obC o ++ ocs (os.drop (k + 1)) from rfl, List.append_assoc]
theorem getD_of {os : OL} {k : Nat} {o : ObT} (h : os[k]? = some o) : os.getD k obO = o := by rw [List.getD, h]; rfl
theorem mark_none {S : ArT} {id m : Int} (h : atO S.os id = none) : markD' S id m = (2, S) := by unfold markD'; rw [h]
theorem mark_k {S : ArT} {id m : Int} {k : Nat} {o : ObT} (h : atO S.os id = some k) (ho : S.os[k]? = some o) (h1 : o.kd ≠ 1) : markD' S id m = (8, S) := by unfold markD'; rw [h]; simp only [getD_of ho]; rw [if_pos h1]
theorem mark_r {S : ArT} {id m : Int} {k : Nat} {o : ObT} (h : atO S.os id = some k) (ho : S.os[k]? = some o) (h1 : o.kd = 1) (h2 : m < 0 ∨ m > o.fr) : markD' S id m = (3, S) := by unfold markD'; rw [h]; simp only [getD_of ho]; rw [if_neg (by omega), if_pos h2]
theorem mark_y {S : ArT} {id m : Int} {k : Nat} {o : ObT} (h : atO S.os id = some k) (ho : S.os[k]? = some o) (h1 : o.kd = 1) (h2 : ¬ (m < 0 ∨ m > o.fr)) : markD' S id m = (0, { S with os := S.os.set k (setMa o m) }) := by unfold markD'; rw [h]; simp only [getD_of ho]; rw [if_neg (by omega), if_neg h2]
theorem place_none {S : ArT} {id s p v : Int} (h : atO S.os id = none) : placeD S id s p v = (2, S) := by unfold placeD; rw [h]
theorem place_k {S : ArT} {id s p v : Int} {k : Nat} {o : ObT} (h : atO S.os id = some k) (ho : S.os[k]? = some o) (h1 : o.kd ≠ 4) : placeD S id s p v = (8, S) := by unfold placeD; rw [h]; simp only [getD_of ho]; rw [if_pos h1]
theorem place_r {S : ArT} {id s p v : Int} {k : Nat} {o : ObT} (h : atO S.os id = some k) (ho : S.os[k]? = some o) (h1 : o.kd = 4) (h2 : ¬ placeOk s p v) : placeD S id s p v = (3, S) := by unfold placeD; rw [h]; simp only [getD_of ho]; rw [if_neg (by omega), if_pos h2]
theorem place_y {S : ArT} {id s p v : Int} {k : Nat} {o : ObT} (h : atO S.os id = some k) (ho : S.os[k]? = some o) (h1 : o.kd = 4) (h2 : placeOk s p v) : placeD S id s p v = (0, { S with os := S.os.set k (setPl o s p v) }) := by unfold placeD; rw [h]; simp only [getD_of ho]; rw [if_neg (by omega), if_neg (not_not_intro h2)]
theorem drop_none {S : ArT} {id : Int} (h : atO S.os id = none) : dropD S id = (2, S) := by unfold dropD; rw [h]
theorem drop_y {S : ArT} {id : Int} {k : Nat} (h : atO S.os id = some k) : dropD S id = (0, { S with os := S.os.eraseIdx k }) := by unfold dropD; rw [h]
set_option pp.deepTerms false
set_option pp.deepTerms.threshold 4
set_option maxHeartbeats 400000
theorem set_isA {b gb cap k : Nat} {S : ArT} {o' : ObT} {sp : List Value} (hOk : ArT.Ok { S with os := S.os.set k o' }) (hnc : S.os.length ≤ cap) (hcm : cap ≤ maxLen) (hcl : (ocs S.os ++ sp).length = cap * 9) :
    IsA b { S with os := S.os.set k o' } [arC b S.n S.g (.slice (some ⟨gb, 0, none⟩) S.os.length cap), (gb, .cells (List.toArray (ocs (S.os.set k o') ++ sp)) 83 (0, 0))] := by
  refine ⟨hOk, _, _, rfl, ?_⟩
  show OwnSl 83 9 _ (S.os.set k o').length (ocs (S.os.set k o')) _
  refine ⟨by rw [ocs_l], .inr ⟨gb, cap, sp, by rw [List.length_set], rfl, by rw [List.length_set]; exact hnc, hcm, ?_⟩⟩
  rw [List.length_append, ocs_l, List.length_set]; rw [List.length_append, ocs_l] at hcl; exact hcl
end Go.Proofs.Ytdbdbhlhdcidpaa.Ar

/- Arena: awake; ArenaNone; an arena behind acts. -/
set_option linter.unusedVariables false
set_option linter.unusedSimpArgs false
namespace Go.Proofs.Ytdbdbhlhdcidpaa.Ar
open Go.RowKit
set_option maxRecDepth 20000

structure AcT where
  d : Int
  a : Int
  b : Int
  c : Int
  e : Int
abbrev encR (x : AcT) : List Value := [.int .i64 x.d, .int .i64 x.a, .int .i64 x.b, .int .i64 x.c, .int .i64 x.e]
def actD (S : ArT) (x : AcT) : ArT :=
  if x.d = 0 then (addD S x.a x.b x.c).2 else if x.d = 1 then (dropD S x.a).2 else if x.d = 2 then (markD' S x.a x.b).2
  else if x.d = 3 then (placeD S x.a x.b x.c x.e).2 else S
abbrev ar0 (n : Int) : ArT := ⟨n, fun _ => 0, []⟩
def playD (acts : List AcT) : ArT := acts.foldl actD (ar0 16)
theorem playD_snoc (acts : List AcT) (x : AcT) : playD (acts ++ [x]) = actD (playD acts) x := by unfold playD; rw [List.foldl_append]; rfl
theorem acts_of : ∀ {rows : List (List Value)}, (∀ r, r ∈ rows → ∃ x : AcT, r = encR x) → ∃ xs : List AcT, rows = xs.map encR
  | [], _ => ⟨[], rfl⟩
  | r :: rows, h => by
    obtain ⟨x, hx⟩ := h r List.mem_cons_self
    obtain ⟨xs, hxs⟩ := acts_of fun r' hr' => h r' (List.mem_cons_of_mem _ hr')
    exact ⟨x :: xs, by rw [hx, hxs]; rfl⟩
theorem acts_rows {W : World} {a : Option Addr} {n cap : Nat} {rows : List (List Value)} (h : IsRows [some .i64, some .i64, some .i64, some .i64, some .i64] W a n cap rows) : ∃ acts : List AcT, acts.length = n ∧ InRows (allOf W) a n 5 (acts.map encR) := by
  obtain ⟨acts, hx⟩ := acts_of (rows := rows) fun r hr => by
    obtain ⟨_, _, rfl, ⟨d, rfl, _⟩, _, _, rfl, ⟨a1, rfl, _⟩, _, _, rfl, ⟨a2, rfl, _⟩, _, _, rfl, ⟨b1, rfl, _⟩, _, _, rfl, ⟨b2, rfl, _⟩, rfl⟩ := h.all r hr
    exact ⟨⟨d, a1, a2, b1, b2⟩, rfl⟩
  refine ⟨acts, ?_, ?_⟩
  · have := h.size; rw [hx] at this; simpa using this
  · rw [← hx]; exact rows_in h (by decide)
abbrev obKs : List (Option IntKind) := [some .i64, some .i64, some .i64, some .i64, some .i64, some .i64, some .i64, some .i64, some .i64]
theorem obC_k (o : ObT) : AllK obKs (obC o) := ⟨_, _, rfl, ⟨_, rfl⟩, _, _, rfl, ⟨_, rfl⟩, _, _, rfl, ⟨_, rfl⟩, _, _, rfl, ⟨_, rfl⟩, _, _, rfl, ⟨_, rfl⟩, _, _, rfl, ⟨_, rfl⟩, _, _, rfl, ⟨_, rfl⟩, _, _, rfl, ⟨_, rfl⟩, _, _, rfl, ⟨_, rfl⟩, rfl⟩
instance : EQ Try.prog 83 obKs := ⟨by kernel_rfl⟩
set_option pp.deepTerms false
set_option pp.deepTerms.threshold 4
set_option maxHeartbeats 400000
abbrev A1 : ArT := (addD (ar0 8) 1 8 0).2
abbrev A2 : ArT := (addD A1 3 0 2).2
theorem aw1 : addD (ar0 8) 1 8 0 = ((1, 0), A1) := rfl
theorem aw2 : addD A1 3 0 2 = ((3, 0), A2) := rfl
theorem aw3 : addD A2 4 0 2 = ((0, 16), A2) := rfl
theorem aw4 : nextD A2 2 = 67 := rfl
end Go.Proofs.Ytdbdbhlhdcidpaa.Ar

/- Arena: the plain laws of an arena behind acts. -/
set_option linter.unusedVariables false
set_option linter.unusedSimpArgs false
namespace Go.Proofs.Ytdbdbhlhdcidpaa.Ar
open Go.RowKit
set_option maxRecDepth 20000

def apO (x y : ObT) : Bool := apartD x.kd x.fi x.fr y
theorem may_sym (a n b k : Int) : mayD a n b k = mayD b k a n := by unfold mayD; congr 1; ext; constructor <;> rintro ⟨h1, h2, h3, h4⟩ <;> exact ⟨h3, h4, h1, h2⟩
theorem meet_sym (a n b k : Int) : meetD a n b k = meetD b k a n := by
  unfold meetD
  rw [may_sym]
  cases mayD b k a n <;> cases decide (n > 0) <;> cases decide (k > 0) <;> cases decide (a < b + k) <;> cases decide (b < a + n) <;> rfl
theorem apO_sym (x y : ObT) : apO x y = apO y x := by
  unfold apO apartD
  rw [meet_sym]
  congr 1
  rw [Bool.or_comm]
structure Geo (S : ArT) (m : Int) : Prop where
  n : S.n = 16
  box : ∀ x ∈ S.os, 0 ≤ x.fi ∧ 1 ≤ x.fr ∧ x.fi + x.fr ≤ S.n ∧ x.fr = framesD x.kd x.sz
  ap : ∀ x ∈ S.os, ∀ y ∈ S.os, x.id ≠ y.id → apO x y = true
  gm : ∀ j, S.g j ≤ m
theorem Geo.mono {S : ArT} {m m' : Int} (h : Geo S m) (hm : m ≤ m') : Geo S m' := ⟨h.n, h.box, h.ap, fun j => by have := h.gm j; omega⟩
theorem Geo.of_map {S : ArT} {m : Int} (h : Geo S m) {os' : OL} (hm : ∀ x ∈ os', ∃ y ∈ S.os, x.id = y.id ∧ x.kd = y.kd ∧ x.sz = y.sz ∧ x.fi = y.fi ∧ x.fr = y.fr) : Geo { S with os := os' } m := by
  refine ⟨h.n, fun x hx => ?_, fun x hx y hy hxy => ?_, h.gm⟩
  · obtain ⟨y, hy, e1, e2, e3, e4, e5⟩ := hm x hx
    rw [e2, e3, e4, e5]; exact h.box y hy
  · obtain ⟨x', hx', e1, e2, e3, e4, e5⟩ := hm x hx
    obtain ⟨y', hy', d1, d2, d3, d4, d5⟩ := hm y hy
    have := h.ap x' hx' y' hy' (by rw [← e1, ← d1]; exact hxy)
    unfold apO apartD at *
    rw [e2, e4, e5, d2, d4, d5]; exact this
theorem geo_set {S : ArT} {m : Int} (h : Geo S m) {k : Nat} {o o' : ObT} (hk : S.os[k]? = some o) (e1 : o'.id = o.id) (e2 : o'.kd = o.kd) (e3 : o'.sz = o.sz) (e4 : o'.fi = o.fi) (e5 : o'.fr = o.fr) : Geo { S with os := S.os.set k o' } m :=
  h.of_map fun x hx => by
    rcases List.mem_or_eq_of_mem_set hx with hx | rfl
    · exact ⟨x, hx, rfl, rfl, rfl, rfl, rfl⟩
    · exact ⟨o, List.mem_of_getElem? hk, e1, e2, e3, e4, e5⟩
theorem geo_add {S : ArT} {m : Int} (hS : S.Ok) (h : Geo S m) (kd sz fi : Int) : Geo (addD S kd sz fi).2 (m + 1) := by
  unfold addD
  split
  · rename_i hE
    obtain ⟨h1, h2, h3, h4, h5⟩ := addE_zero hE
    have hr := frames_rng kd sz
    have hal : ∀ y ∈ S.os, apartD kd fi (framesD kd sz) y = true := by rw [List.all_eq_true] at h4; exact h4
    refine ⟨h.n, fun x hx => ?_, fun x hx y hy hxy => ?_, fun j => ?_⟩
    · rcases ins_mem.1 hx with rfl | hx
      · show 0 ≤ fi ∧ 1 ≤ framesD kd sz ∧ fi + framesD kd sz ≤ S.n ∧ framesD kd sz = framesD kd sz
        exact ⟨by omega, by omega, by omega, rfl⟩
      · exact h.box x hx
    · rcases ins_mem.1 hx with rfl | hx
      · rcases ins_mem.1 hy with rfl | hy
        · exact absurd rfl hxy
        · exact hal y hy
      · rcases ins_mem.1 hy with rfl | hy
        · rw [apO_sym]; exact hal x hx
        · exact h.ap x hx y hy hxy
    · show upd S.g fi.toNat (S.g fi.toNat + 1) j ≤ m + 1
      by_cases e : j = fi.toNat
      · subst e; rw [upd_same]; have := h.gm fi.toNat; omega
      · rw [upd_other _ _ _ _ e]; have := h.gm j; omega
  · exact h.mono (by omega)
theorem geo_drop {S : ArT} {m : Int} (h : Geo S m) (id : Int) : Geo (dropD S id).2 m := by
  unfold dropD
  split
  · exact h.of_map fun x hx => ⟨x, List.mem_of_mem_eraseIdx hx, rfl, rfl, rfl, rfl, rfl⟩
  · exact h
theorem geo_act {S : ArT} {m : Int} (hS : S.Ok) (h : Geo S m) (x : AcT) : Geo (actD S x) (m + 1) := by
  unfold actD
  split
  · exact geo_add hS h _ _ _
  split
  · exact (geo_drop h _).mono (by omega)
  split
  · refine Geo.mono ?_ (show m ≤ m + 1 by omega)
    unfold markD'
    split
    · rename_i k hk
      split
      · exact h
      split
      · exact h
      exact geo_set h (atO_get hk).1 rfl rfl rfl rfl rfl
    · exact h
  split
  · refine Geo.mono ?_ (show m ≤ m + 1 by omega)
    unfold placeD
    split
    · rename_i k hk
      split
      · exact h
      split
      · exact h
      exact geo_set h (atO_get hk).1 rfl rfl rfl rfl rfl
    · exact h
  · exact h.mono (by omega)
theorem act_ok {S : ArT} (hS : S.Ok) (x : AcT) : (actD S x).Ok := by
  unfold actD
  split
  · exact add_ok hS _ _ _
  split
  · exact drop_ok hS _
  split
  · exact mark_ok hS _ _
  split
  · exact place_ok hS _ _ _ _
  · exact hS
theorem ar0_ok {n : Int} (h1 : 1 ≤ n) (h2 : n ≤ 64) : (ar0 n).Ok := ⟨h1, h2, fun j => by simp, .nil, (fun x hx => by cases hx), fun x hx => by cases hx⟩
theorem play_geo : ∀ (acts : List AcT) (S : ArT) (m : Int), S.Ok → Geo S m → (acts.foldl actD S).Ok ∧ Geo (acts.foldl actD S) (m + acts.length)
  | [], S, m, h1, h2 => ⟨h1, h2.mono (by simp)⟩
  | x :: r, S, m, h1, h2 => by
    obtain ⟨a, b⟩ := play_geo r (actD S x) (m + 1) (act_ok h1 x) (geo_act h1 h2 x)
    refine ⟨a, b.mono ?_⟩
    simp only [List.length_cons]; omega
theorem play_ok (acts : List AcT) : (playD acts).Ok ∧ Geo (playD acts) acts.length := by
  have := play_geo acts (ar0 16) 0 (ar0_ok (by decide) (by decide)) ⟨rfl, (fun x hx => by cases hx), (fun x hx => by cases hx), fun j => by simp⟩
  exact ⟨this.1, this.2.mono (by simp)⟩
/-- what an untyped and another one say to each other -/
theorem ap_cases {x y : ObT} (h : apO x y = true) (hm : meetD x.fi x.fr y.fi y.fr = true) : (x.kd = 1 ∧ withinD y.fi y.fr x.fi x.fr = true) ∨ (y.kd = 1 ∧ withinD x.fi x.fr y.fi y.fr = true) := by
  unfold apO apartD at h
  rw [hm] at h
  simp only [Bool.not_true, Bool.false_or, Bool.or_eq_true, Bool.and_eq_true, decide_eq_true_eq] at h
  rcases h with h | h
  · exact .inr h
  · exact .inl h
/-- the place of an object whose number is known -/
theorem at_of {os : OL} (h : os.Pairwise fun x y => x.id < y.id) {k : Nat} {o : ObT} (ho : os[k]? = some o) : atO os o.id = some k := by
  unfold atO
  rw [List.findIdx?_eq_some_iff_getElem]
  obtain ⟨hl, he⟩ := List.getElem?_eq_some_iff.1 ho
  refine ⟨hl, by rw [he]; simp, fun j hj => ?_⟩
  have := asc_get h (List.getElem?_eq_getElem (show j < os.length by omega)) ho hj
  simp; omega
theorem at_no {os : OL} {id : Int} (h : ∀ x ∈ os, x.id ≠ id) : atO os id = none := by
  unfold atO
  rw [List.findIdx?_eq_none_iff]
  intro o ho
  simpa using h o ho
/-- what the law says of an object that is dropped and added again -/
theorem gone_law {S : ArT} {m : Int} (hS : S.Ok) (hG : Geo S m) (hm : m ≤ 900) {k : Nat} {x : ObT} (hx : S.os[k]? = some x) :
    ∃ S1 S2 I, dropD S x.id = (0, S1) ∧ dropD S1 x.id = (2, S1) ∧ (getD' S1 x.id) = (obO, false) ∧ addD S1 x.kd x.sz x.fi = ((I, 0), S2) ∧ I > x.id ∧ S2.os.length = S.os.length ∧
      ∀ y ∈ S.os, y.id ≠ x.id → getD' S2 y.id = (y, true) := by
  have hk := (List.getElem?_eq_some_iff.1 hx).1
  have hxm := List.mem_of_getElem? hx
  have h1 : dropD S x.id = (0, { S with os := S.os.eraseIdx k }) := by unfold dropD; rw [at_of hS.asc hx]
  have hok1 := drop_ok hS x.id
  have hG1 := geo_drop hG x.id
  rw [h1] at hok1 hG1
  obtain ⟨S1, hS1⟩ : ∃ S1 : ArT, { S with os := S.os.eraseIdx k } = S1 := ⟨_, rfl⟩
  have o1 : S1.os = S.os.eraseIdx k := by rw [← hS1]
  have n1 : S1.n = S.n := by rw [← hS1]
  have g1 : S1.g = S.g := by rw [← hS1]
  rw [hS1] at h1 hok1 hG1
  have hne : ∀ y ∈ S1.os, y.id ≠ x.id ∧ y ∈ S.os := by
    intro y hy
    rw [o1] at hy
    refine ⟨?_, List.mem_of_mem_eraseIdx hy⟩
    obtain ⟨j, hj⟩ := List.getElem?_of_mem hy
    rw [List.getElem?_eraseIdx] at hj
    split at hj
    · rename_i hjk; have := asc_get hS.asc hj hx hjk; omega
    · have := asc_get hS.asc hx hj (by omega); omega
  have hat1 := at_no fun y hy => (hne y hy).1
  obtain ⟨b0, b1, b2, b3⟩ := hG.box x hxm
  obtain ⟨a0, a1, c, c0, c1, c2⟩ := hS.num x hxm
  have hn16 := hG.n
  have hgj := hS.g1 x.fi.toNat
  have hgm := hG.gm x.fi.toNat
  have hnx : nextD S1 x.fi = x.fi + 1 + 64 * S.g x.fi.toNat := by
    unfold nextD; rw [if_neg (by omega), if_neg (by omega), g1, if_neg (by omega)]
  have hE : addE S1 x.kd x.sz x.fi = 0 := by
    unfold addE
    rw [← b3, if_neg (by omega), if_neg (by omega), if_neg, if_neg (by omega)]
    have : (S1.os.all fun o => apartD x.kd x.fi x.fr o) = true := by
      rw [List.all_eq_true]
      intro y hy
      exact hG.ap x hxm y (hne y hy).2 fun e => (hne y hy).1 e.symm
    rw [this]; decide
  have hA : addD S1 x.kd x.sz x.fi = ((nextD S1 x.fi, 0), { S1 with g := upd S1.g x.fi.toNat (S1.g x.fi.toNat + 1), os := insD S1.os (newO S1 x.kd x.sz x.fi) }) := add_0 hE
  have hok2 := add_ok hok1 x.kd x.sz x.fi
  refine ⟨S1, _, _, h1, drop_none hat1, by unfold getD'; rw [hat1], hA, by rw [hnx]; omega, ?_, fun y hy hyx => ?_⟩
  · show (insD S1.os (newO S1 x.kd x.sz x.fi)).length = _
    rw [ins_len, o1, List.length_eraseIdx, if_pos hk]; omega
  · rw [hA] at hok2
    have hy1 : y ∈ S1.os := by
      rw [o1]
      obtain ⟨j, hj⟩ := List.getElem?_of_mem hy
      have hjk : j ≠ k := fun e => by subst e; rw [hx] at hj; cases hj; exact hyx rfl
      rcases Nat.lt_or_ge j k with h | h
      · exact List.mem_of_getElem? (i := j) (by rw [List.getElem?_eraseIdx, if_pos h]; exact hj)
      · exact List.mem_of_getElem? (i := j - 1) (by rw [List.getElem?_eraseIdx, if_neg (by omega), show j - 1 + 1 = j by omega]; exact hj)
    have hy2 : y ∈ insD S1.os (newO S1 x.kd x.sz x.fi) := ins_mem.2 (.inr hy1)
    obtain ⟨j, hj⟩ := List.getElem?_of_mem hy2
    have := at_of hok2.asc hj
    unfold getD'
    show (match atO (insD S1.os (newO S1 x.kd x.sz x.fi)) y.id with | some k => ((insD S1.os (newO S1 x.kd x.sz x.fi)).getD k obO, true) | none => (obO, false)) = _
    rw [show atO (insD S1.os (newO S1 x.kd x.sz x.fi)) y.id = some j from this]
    simp only [getD_of hj]
end Go.Proofs.Ytdbdbhlhdcidpaa.Ar
