/- TreeSwapped, TreeDepths: the walks. -/
import Derived.Test.YtidkpfkkljcnaaaU0
import Derived.Test.YtidkpfkkljcnaaaJ13
set_option linter.unusedVariables false
set_option linter.unusedSimpArgs false
namespace Go.Proofs.Ytidkpfkkljcnaaa
open Go.RowKit

theorem InRows.mono {l l' : List Chunk} {a : Option Addr} {n k : Nat} {rows : List (List Value)} (h : InRows l a n k rows) (hs : ∀ c, c ∈ l → c ∈ l') : InRows l' a n k rows := fun h0 => by
  obtain ⟨b, off, cs, t, fz, h1, h2, h3⟩ := h h0
  exact ⟨b, off, cs, t, fz, h1, hs _ h2, h3⟩
theorem Fn.mvL {P : Program} {f : FuncId} {args : List Value} {A F : List Chunk} {Kv : Value → Prop} {I : List Chunk → Prop} (X : List Chunk) (h : Fn P f args (A ++ (X ++ F)) fun v l' => Kv v ∧ ∃ A', I A' ∧ l' = A' ++ (X ++ F)) :
    Fn P f args (X ++ (A ++ F)) fun v l' => Kv v ∧ ∃ A', I A' ∧ l' = X ++ (A' ++ F) :=
  Fn.re (Keep.in_mid X A F) h fun v l' ⟨h1, A', h2, h3⟩ => ⟨X ++ (A' ++ F), by rw [h3]; exact Keep.in_mid A' X F, h1, A', h2, rfl⟩
set_option pp.deepTerms false
set_option pp.deepTerms.threshold 4
set_option maxHeartbeats 400000
theorem treeSwapped_any (a0 : Option Addr) (n cap : Nat) (acts : List ActT) (a c : SlotT) (l : List Chunk) (hin : InRows l a0 n 5 (acts.map encA)) (hsz : acts.length = n) :
    Fn Try.prog 4 [.slice a0 n cap, .agg (List.toArray (encT a)), .agg (List.toArray (encT c))] l fun v l' => v = .bool true ∧ ∃ c, l' = c ++ l := by
  refine fn_of_body Try.func4 rfl rfl fun E => ?_
  simp only [argF, Try.ntmps4]
  repeat (first | (show OpsS _ _ _ _ _ _ (_ :: _) _ _ _; first | refine ozq ?_ | refine ozs ?_ | refine ozs0 ?_ | refine ozt ?_ | refine ozf ?_) | refine c_seq ?_ | refine p_then ?_ | refine c_region ?_ | refine s_nil ?_ | refine c_cond_t rfl ?_ | refine c_cond_f rfl ?_ | refine c_skip ?_ | refine c_ret ?_ | refine p_then_ret ?_ | refine p_end ?_ | refine c_if_t rfl (by omega) ?_ | refine c_if_f rfl (by omega) ?_)
  (first | refine t_e (e_box1 rfl rfl) rfl rfl rfl ?_ | refine t_e (e_boxA rfl) rfl rfl rfl ?_); rintro _ _ ⟨b4, _, rfl, rfl⟩
  repeat (first | (show OpsS _ _ _ _ _ _ (_ :: _) _ _ _; first | refine ozq ?_ | refine ozs ?_ | refine ozs0 ?_ | refine ozt ?_ | refine ozf ?_) | refine c_seq ?_ | refine p_then ?_ | refine c_region ?_ | refine s_nil ?_ | refine c_cond_t rfl ?_ | refine c_cond_f rfl ?_ | refine c_skip ?_ | refine c_ret ?_ | refine p_then_ret ?_ | refine p_end ?_ | refine c_if_t rfl (by omega) ?_ | refine c_if_f rfl (by omega) ?_)
  (first | refine t_e (e_box1 rfl rfl) rfl rfl rfl ?_ | refine t_e (e_boxA rfl) rfl rfl rfl ?_); rintro _ _ ⟨b5, _, rfl, rfl⟩
  by_cases h60 : 60 < n
  · repeat (first | (show OpsS _ _ _ _ _ _ (_ :: _) _ _ _; first | refine ozq ?_ | refine ozs ?_ | refine ozs0 ?_ | refine ozt ?_ | refine ozf ?_) | refine c_seq ?_ | refine p_then ?_ | refine c_region ?_ | refine s_nil ?_ | refine c_cond_t rfl ?_ | refine c_cond_f rfl ?_ | refine c_skip ?_ | refine c_ret ?_ | refine p_then_ret ?_ | refine p_end ?_ | refine c_if_t rfl (by omega) ?_ | refine c_if_f rfl (by omega) ?_)
    refine t_e (e_call0 rfl rfl (awake_any _)) rfl rfl rfl ?_
    rintro _ _ ⟨rfl, cx, rfl⟩
    repeat (first | (show OpsS _ _ _ _ _ _ (_ :: _) _ _ _; first | refine ozq ?_ | refine ozs ?_ | refine ozs0 ?_ | refine ozt ?_ | refine ozf ?_) | refine c_seq ?_ | refine p_then ?_ | refine c_region ?_ | refine s_nil ?_ | refine c_cond_t rfl ?_ | refine c_cond_f rfl ?_ | refine c_skip ?_ | refine c_ret ?_ | refine p_then_ret ?_ | refine p_end ?_ | refine c_if_t rfl (by omega) ?_ | refine c_if_f rfl (by omega) ?_)
    exact k_ret [] rfl (l' := cx ++ l) (by show Keep _ (cx ++ l); exact Keep.trans (.of_perm (List.perm_append_comm_assoc cx [_, _] l)) (.drop (.drop .refl))) (by (repeat (first | apply ResS.nil | (apply rs_tmp; (· rfl)) | (apply rs_cell1; (· rfl); (· ((repeat (first | with_reducible apply List.mem_cons_self | with_reducible apply List.mem_cons_of_mem)); try with_reducible assumption)); (· rfl)) | (apply rs_cellA; (· rfl); (· ((repeat (first | with_reducible apply List.mem_cons_self | with_reducible apply List.mem_cons_of_mem)); try with_reducible assumption)); (· (repeat (first | with_reducible apply LSub.done | with_reducible apply LSub.take | with_reducible apply LSub.drop))))))) ⟨rfl, _, rfl⟩
  have hG := good_play acts
  obtain ⟨D, hD⟩ : ∃ D, D = playD acts := ⟨_, rfl⟩
  have hlen : D.length ≤ 1000000 := by rw [hD]; have := hG.len; omega
  repeat (first | (show OpsS _ _ _ _ _ _ (_ :: _) _ _ _; first | refine ozq ?_ | refine ozs ?_ | refine ozs0 ?_ | refine ozt ?_ | refine ozf ?_) | refine c_seq ?_ | refine p_then ?_ | refine c_region ?_ | refine s_nil ?_ | refine c_cond_t rfl ?_ | refine c_cond_f rfl ?_ | refine c_skip ?_ | refine c_ret ?_ | refine p_then_ret ?_ | refine p_end ?_ | refine c_if_t rfl (by omega) ?_ | refine c_if_f rfl (by omega) ?_)
  refine t_e (e_call0 rfl rfl (played_any a0 n cap acts _ (hin.mono fun c hc => .tail _ (.tail _ hc)) hsz (by omega))) rfl rfl rfl ?_
  rintro _ _ ⟨b, rfl, lq, hq, rfl⟩
  rw [← hD] at hq hG
  repeat (first | (show OpsS _ _ _ _ _ _ (_ :: _) _ _ _; first | refine ozq ?_ | refine ozs ?_ | refine ozs0 ?_ | refine ozt ?_ | refine ozf ?_) | refine c_seq ?_ | refine p_then ?_ | refine c_region ?_ | refine s_nil ?_ | refine c_cond_t rfl ?_ | refine c_cond_f rfl ?_ | refine c_skip ?_ | refine c_ret ?_ | refine p_then_ret ?_ | refine p_end ?_ | refine c_if_t rfl (by omega) ?_ | refine c_if_f rfl (by omega) ?_)
  refine t_e (e_call0 rfl rfl (all_any b D lq hq hlen _ fun c hc => List.mem_append_left _ hc)) rfl rfl rfl ?_
  rintro v _ ⟨cs, ho, rfl⟩
  repeat (first | (show OpsS _ _ _ _ _ _ (_ :: _) _ _ _; first | refine ozq ?_ | refine ozs ?_ | refine ozs0 ?_ | refine ozt ?_ | refine ozf ?_) | refine c_seq ?_ | refine p_then ?_ | refine c_region ?_ | refine s_nil ?_ | refine c_cond_t rfl ?_ | refine c_cond_f rfl ?_ | refine c_skip ?_ | refine c_ret ?_ | refine p_then_ret ?_ | refine p_end ?_ | refine c_if_t rfl (by omega) ?_ | refine c_if_f rfl (by omega) ?_)
  refine c_keep (l' := slC b5 c :: slC b4 a :: (lq ++ (cs ++ l))) (.of_perm ?_) ?_
  · have h1 : (cs ++ (lq ++ (slC b5 c :: slC b4 a :: l))).Perm ([slC b5 c, slC b4 a] ++ ((cs ++ lq) ++ l)) := by
      have := List.perm_append_comm_assoc (cs ++ lq) [slC b5 c, slC b4 a] l
      rw [List.append_assoc] at this; exact this
    refine h1.trans ?_
    refine List.Perm.cons _ (List.Perm.cons _ ?_)
    rw [List.append_assoc]
    exact List.perm_append_comm_assoc cs lq l
  refine c_draw [(0, true), (1, true), (2, true), (4, true), (5, true), (6, true), (3, false), (7, false), (8, true), (9, true)] [[], [], [], [0, 1, 2], [], [], [], [0, 1, 2, 3, 4, 5, 6], [0, 1, 2, 3, 4, 5, 6, 7], [0, 1, 2, 3, 4, 5, 6, 7, 8]] ([slC b5 c, slC b4 a]) (by kernel_rfl) (by kernel_rfl) (by (repeat (first | apply Attach.nil | (apply Attach.cons; · rfl)))) (List.Sublist.subset (by (repeat (first | with_reducible apply List.Sublist.refl | with_reducible apply List.nil_sublist | with_reducible apply List.Sublist.cons_cons | with_reducible apply List.Sublist.cons)))) ?_
  repeat (first | refine pl_nil ?_ | (show PlanS _ _ _ _ _ _ _ _ _ _ ((_, true, _) :: _) _ _ _; first | refine pzq ?_) | (show PlanS _ _ _ _ _ _ _ _ none [] ((_, false, _) :: _) _ _ _; first | refine pze ?_))
  apply pl_e
  · exact e_call0 rfl rfl (Fn.mvL [slC b5 c, slC b4 a] (swap_any b D lq hq a c _))
  · rfl
  · rfl
  · rfl
  · rintro _ _ ⟨rfl, _, _, rfl⟩; exact fun c hc => List.mem_append_left _ hc
  rintro _ _ ⟨rfl, lq1, hq1, rfl⟩
  repeat (first | refine pl_nil ?_ | (show PlanS _ _ _ _ _ _ _ _ _ _ ((_, true, _) :: _) _ _ _; first | refine pzq ?_) | (show PlanS _ _ _ _ _ _ _ _ none [] ((_, false, _) :: _) _ _ _; first | refine pze ?_))
  apply pl_e
  · exact e_call0 rfl rfl (Fn.mvL [slC b5 c, slC b4 a] (swap_any b _ lq1 hq1 a c _))
  · rfl
  · rfl
  · rfl
  · rintro _ _ ⟨rfl, _, _, rfl⟩; exact fun c hc => List.mem_append_left _ hc
  rintro _ _ ⟨rfl, lq2, hq2, rfl⟩
  rw [swap_swap] at hq2
  simp only [List.cons_append, List.nil_append]
  repeat (first | refine pl_nil ?_ | (show PlanS _ _ _ _ _ _ _ _ _ _ ((_, true, _) :: _) _ _ _; first | refine pzq ?_) | (show PlanS _ _ _ _ _ _ _ _ none [] ((_, false, _) :: _) _ _ _; first | refine pze ?_))
  repeat (first | (show OpsS _ _ _ _ _ _ (_ :: _) _ _ _; first | refine ozq ?_ | refine ozs ?_ | refine ozs0 ?_ | refine ozt ?_ | refine ozf ?_) | refine c_seq ?_ | refine p_then ?_ | refine c_region ?_ | refine s_nil ?_ | refine c_cond_t rfl ?_ | refine c_cond_f rfl ?_ | refine c_skip ?_ | refine c_ret ?_ | refine p_then_ret ?_ | refine p_end ?_ | refine c_if_t rfl (by omega) ?_ | refine c_if_f rfl (by omega) ?_)
  refine t_eh (e_call0 rfl rfl (all_any b D lq2 hq2 hlen _ fun c hc => .tail _ (.tail _ (List.mem_append_left _ hc)))) rfl rfl rfl ?_
  rintro v2 _ ⟨cs2, ho2, rfl⟩
  repeat (first | (show OpsS _ _ _ _ _ _ (_ :: _) _ _ _; first | refine ozq ?_ | refine ozs ?_ | refine ozs0 ?_ | refine ozt ?_ | refine ozf ?_) | refine c_seq ?_ | refine p_then ?_ | refine c_region ?_ | refine s_nil ?_ | refine c_cond_t rfl ?_ | refine c_cond_f rfl ?_ | refine c_skip ?_ | refine c_ret ?_ | refine p_then_ret ?_ | refine p_end ?_ | refine c_if_t rfl (by omega) ?_ | refine c_if_f rfl (by omega) ?_)
  refine t_h (q_call rfl rfl fun l2 hl => sameNodes_any nV nV_inj nV_k v2 v D D l2 (ho2.nodes fun c hc => hl c (List.mem_append_left _ hc)) (ho.nodes fun c hc => hl c (List.mem_append_right _ (.tail _ (.tail _ (List.mem_append_right _ (List.mem_append_left _ hc)))))) hlen) rfl rfl rfl ?_
  rw [decide_eq_true rfl]
  repeat (first | (show OpsS _ _ _ _ _ _ (_ :: _) _ _ _; first | refine ozq ?_ | refine ozs ?_ | refine ozs0 ?_ | refine ozt ?_ | refine ozf ?_) | refine c_seq ?_ | refine p_then ?_ | refine c_region ?_ | refine s_nil ?_ | refine c_cond_t rfl ?_ | refine c_cond_f rfl ?_ | refine c_skip ?_ | refine c_ret ?_ | refine p_then_ret ?_ | refine p_end ?_ | refine c_if_t rfl (by omega) ?_ | refine c_if_f rfl (by omega) ?_)
  refine s_keep (l' := slC b5 c :: slC b4 a :: (lq2 ++ (cs ++ l))) (Keep.dropL cs2 .refl) ?_
  obtain ⟨⟨r, D'⟩, hmv⟩ : ∃ x, moveD D a c = x := ⟨_, rfl⟩
  have hmv1 := Fn.mvL [slC b5 c, slC b4 a] (move_any b D lq2 hq2 a c (([slC b5 c, slC b4 a] ++ (cs ++ l))))
  rw [hmv] at hmv1
  simp only [List.cons_append, List.nil_append] at hmv1
  have fin : ∀ (E : World) (Q : Exit → Act → World → Prop) (fr : Fr) (lq3 : List Chunk), IsT b D lq3 → True := fun _ _ _ _ _ => trivial
  repeat (first | (show OpsS _ _ _ _ _ _ (_ :: _) _ _ _; first | refine ozq ?_ | refine ozs ?_ | refine ozs0 ?_ | refine ozt ?_ | refine ozf ?_) | refine c_seq ?_ | refine p_then ?_ | refine c_region ?_ | refine s_nil ?_ | refine c_cond_t rfl ?_ | refine c_cond_f rfl ?_ | refine c_skip ?_ | refine c_ret ?_ | refine p_then_ret ?_ | refine p_end ?_ | refine c_if_t rfl (by omega) ?_ | refine c_if_f rfl (by omega) ?_)
  refine t_e (e_call0 rfl rfl hmv1) rfl rfl rfl ?_
  rintro _ _ ⟨rfl, lq3, hq3, rfl⟩
  by_cases hr : r = 0
  · subst hr
    have hback := move_back hG (by rw [hmv])
    rw [hmv] at hback
    dsimp only at hback
    have hmv2 := Fn.mvL [slC b5 c, slC b4 a] (move_any b D' lq3 hq3 c a (([slC b5 c, slC b4 a] ++ (cs ++ l))))
    rw [hback] at hmv2
    simp only [List.cons_append, List.nil_append] at hmv2
    repeat (first | (show OpsS _ _ _ _ _ _ (_ :: _) _ _ _; first | refine ozq ?_ | refine ozs ?_ | refine ozs0 ?_ | refine ozt ?_ | refine ozf ?_) | refine c_seq ?_ | refine p_then ?_ | refine c_region ?_ | refine s_nil ?_ | refine c_cond_t rfl ?_ | refine c_cond_f rfl ?_ | refine c_skip ?_ | refine c_ret ?_ | refine p_then_ret ?_ | refine p_end ?_ | refine c_if_t rfl (by omega) ?_ | refine c_if_f rfl (by omega) ?_)
    refine t_eh (e_call0 rfl rfl hmv2) rfl rfl rfl ?_
    rintro _ _ ⟨rfl, lq4, hq4, rfl⟩
    repeat (first | (show OpsS _ _ _ _ _ _ (_ :: _) _ _ _; first | refine ozq ?_ | refine ozs ?_ | refine ozs0 ?_ | refine ozt ?_ | refine ozf ?_) | refine c_seq ?_ | refine p_then ?_ | refine c_region ?_ | refine s_nil ?_ | refine c_cond_t rfl ?_ | refine c_cond_f rfl ?_ | refine c_skip ?_ | refine c_ret ?_ | refine p_then_ret ?_ | refine p_end ?_ | refine c_if_t rfl (by omega) ?_ | refine c_if_f rfl (by omega) ?_)
    refine t_e (e_call0 rfl rfl (all_any b D lq4 hq4 hlen _ fun c hc => .tail _ (.tail _ (List.mem_append_left _ hc)))) rfl rfl rfl ?_
    rintro v3 _ ⟨cs3, ho3, rfl⟩
    repeat (first | (show OpsS _ _ _ _ _ _ (_ :: _) _ _ _; first | refine ozq ?_ | refine ozs ?_ | refine ozs0 ?_ | refine ozt ?_ | refine ozf ?_) | refine c_seq ?_ | refine p_then ?_ | refine c_region ?_ | refine s_nil ?_ | refine c_cond_t rfl ?_ | refine c_cond_f rfl ?_ | refine c_skip ?_ | refine c_ret ?_ | refine p_then_ret ?_ | refine p_end ?_ | refine c_if_t rfl (by omega) ?_ | refine c_if_f rfl (by omega) ?_)
    refine t_h (q_call rfl rfl fun l2 hl => sameNodes_any nV nV_inj nV_k v3 v D D l2 (ho3.nodes fun c hc => hl c (List.mem_append_left _ hc)) (ho.nodes fun c hc => hl c (List.mem_append_right _ (.tail _ (.tail _ (List.mem_append_right _ (List.mem_append_left _ hc)))))) hlen) rfl rfl rfl ?_
    rw [decide_eq_true rfl]
    repeat (first | (show OpsS _ _ _ _ _ _ (_ :: _) _ _ _; first | refine ozq ?_ | refine ozs ?_ | refine ozs0 ?_ | refine ozt ?_ | refine ozf ?_) | refine c_seq ?_ | refine p_then ?_ | refine c_region ?_ | refine s_nil ?_ | refine c_cond_t rfl ?_ | refine c_cond_f rfl ?_ | refine c_skip ?_ | refine c_ret ?_ | refine p_then_ret ?_ | refine p_end ?_ | refine c_if_t rfl (by omega) ?_ | refine c_if_f rfl (by omega) ?_)
    refine t_eh (e_call0 rfl rfl (awake_any _)) rfl rfl rfl ?_
    rintro _ _ ⟨rfl, cx, rfl⟩
    repeat (first | (show OpsS _ _ _ _ _ _ (_ :: _) _ _ _; first | refine ozq ?_ | refine ozs ?_ | refine ozs0 ?_ | refine ozt ?_ | refine ozf ?_) | refine c_seq ?_ | refine p_then ?_ | refine c_region ?_ | refine s_nil ?_ | refine c_cond_t rfl ?_ | refine c_cond_f rfl ?_ | refine c_skip ?_ | refine c_ret ?_ | refine p_then_ret ?_ | refine p_end ?_ | refine c_if_t rfl (by omega) ?_ | refine c_if_f rfl (by omega) ?_)
    refine k_ret [] rfl (l' := (cx ++ (cs3 ++ (slC b5 c :: slC b4 a :: (lq4 ++ cs)))) ++ l) (.of_perm (.of_eq (by simp))) (by (repeat (first | apply ResS.nil | (apply rs_tmp; (· rfl)) | (apply rs_cell1; (· rfl); (· ((repeat (first | with_reducible apply List.mem_cons_self | with_reducible apply List.mem_cons_of_mem)); try with_reducible assumption)); (· rfl)) | (apply rs_cellA; (· rfl); (· ((repeat (first | with_reducible apply List.mem_cons_self | with_reducible apply List.mem_cons_of_mem)); try with_reducible assumption)); (· (repeat (first | with_reducible apply LSub.done | with_reducible apply LSub.take | with_reducible apply LSub.drop))))))) ⟨rfl, _, rfl⟩
  · have hD' : D' = D := by have := move_same (D := D) (a := a) (c := c) (by rw [hmv]; exact hr); rw [hmv] at this; exact this
    rw [hD'] at hq3
    repeat (first | (show OpsS _ _ _ _ _ _ (_ :: _) _ _ _; first | refine ozq ?_ | refine ozs ?_ | refine ozs0 ?_ | refine ozt ?_ | refine ozf ?_) | refine c_seq ?_ | refine p_then ?_ | refine c_region ?_ | refine s_nil ?_ | refine c_cond_t rfl ?_ | refine c_cond_f rfl ?_ | refine c_skip ?_ | refine c_ret ?_ | refine p_then_ret ?_ | refine p_end ?_ | refine c_if_t rfl (by omega) ?_ | refine c_if_f rfl (by omega) ?_)
    refine t_e (e_call0 rfl rfl (all_any b D lq3 hq3 hlen _ fun c hc => .tail _ (.tail _ (List.mem_append_left _ hc)))) rfl rfl rfl ?_
    rintro v3 _ ⟨cs3, ho3, rfl⟩
    repeat (first | (show OpsS _ _ _ _ _ _ (_ :: _) _ _ _; first | refine ozq ?_ | refine ozs ?_ | refine ozs0 ?_ | refine ozt ?_ | refine ozf ?_) | refine c_seq ?_ | refine p_then ?_ | refine c_region ?_ | refine s_nil ?_ | refine c_cond_t rfl ?_ | refine c_cond_f rfl ?_ | refine c_skip ?_ | refine c_ret ?_ | refine p_then_ret ?_ | refine p_end ?_ | refine c_if_t rfl (by omega) ?_ | refine c_if_f rfl (by omega) ?_)
    refine t_h (q_call rfl rfl fun l2 hl => sameNodes_any nV nV_inj nV_k v3 v D D l2 (ho3.nodes fun c hc => hl c (List.mem_append_left _ hc)) (ho.nodes fun c hc => hl c (List.mem_append_right _ (.tail _ (.tail _ (List.mem_append_right _ (List.mem_append_left _ hc)))))) hlen) rfl rfl rfl ?_
    rw [decide_eq_true rfl]
    repeat (first | (show OpsS _ _ _ _ _ _ (_ :: _) _ _ _; first | refine ozq ?_ | refine ozs ?_ | refine ozs0 ?_ | refine ozt ?_ | refine ozf ?_) | refine c_seq ?_ | refine p_then ?_ | refine c_region ?_ | refine s_nil ?_ | refine c_cond_t rfl ?_ | refine c_cond_f rfl ?_ | refine c_skip ?_ | refine c_ret ?_ | refine p_then_ret ?_ | refine p_end ?_ | refine c_if_t rfl (by omega) ?_ | refine c_if_f rfl (by omega) ?_)
    refine t_eh (e_call0 rfl rfl (awake_any _)) rfl rfl rfl ?_
    rintro _ _ ⟨rfl, cx, rfl⟩
    repeat (first | (show OpsS _ _ _ _ _ _ (_ :: _) _ _ _; first | refine ozq ?_ | refine ozs ?_ | refine ozs0 ?_ | refine ozt ?_ | refine ozf ?_) | refine c_seq ?_ | refine p_then ?_ | refine c_region ?_ | refine s_nil ?_ | refine c_cond_t rfl ?_ | refine c_cond_f rfl ?_ | refine c_skip ?_ | refine c_ret ?_ | refine p_then_ret ?_ | refine p_end ?_ | refine c_if_t rfl (by omega) ?_ | refine c_if_f rfl (by omega) ?_)
    refine k_ret [] rfl (l' := (cx ++ (cs3 ++ (slC b5 c :: slC b4 a :: (lq3 ++ cs)))) ++ l) (.of_perm (.of_eq (by simp))) (by (repeat (first | apply ResS.nil | (apply rs_tmp; (· rfl)) | (apply rs_cell1; (· rfl); (· ((repeat (first | with_reducible apply List.mem_cons_self | with_reducible apply List.mem_cons_of_mem)); try with_reducible assumption)); (· rfl)) | (apply rs_cellA; (· rfl); (· ((repeat (first | with_reducible apply List.mem_cons_self | with_reducible apply List.mem_cons_of_mem)); try with_reducible assumption)); (· (repeat (first | with_reducible apply LSub.done | with_reducible apply LSub.take | with_reducible apply LSub.drop))))))) ⟨rfl, _, rfl⟩
theorem treeSwapped_walk' (a0 : Option Addr) (len0 cap0 : Nat) (rows0 : List (List Value)) (c1 : List Value) (w1 : AllIs [some .i64, some .i64] c1) (c2 : List Value) (w2 : AllIs [some .i64, some .i64] c2) (W : World) (h : IsRows [some .i64, some .i64, some .i64, some .i64, some .i64] W a0 len0 cap0 rows0) :
    Calls Try.prog 4 #[.slice a0 len0 cap0, .agg c1.toArray, .agg c2.toArray] W fun e W' => e = .returned (.bool true) ∧ Below W.heap.size W W' := by
  obtain ⟨_, _, rfl, ⟨a, rfl, _⟩, _, _, rfl, ⟨b, rfl, _⟩, rfl⟩ := w1
  obtain ⟨_, _, rfl, ⟨c, rfl, _⟩, _, _, rfl, ⟨d, rfl, _⟩, rfl⟩ := w2
  obtain ⟨acts, h1, h2⟩ := acts_rows h
  exact law_walk (treeSwapped_any a0 len0 cap0 acts (a, b) (c, d) (allOf W) h2 h1)
end Go.Proofs.Ytidkpfkkljcnaaa
