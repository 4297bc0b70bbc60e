/- The tree: Root, Child, Has and those of no tree. -/
import Derived.Test.YtidkpfkkljcnaaaU0
import Derived.Test.YtidkpfkkljcnaaaJ4
set_option linter.unusedVariables false
set_option linter.unusedSimpArgs false
namespace Go.Proofs.Ytidkpfkkljcnaaa
open Go.RowKit

theorem sing_mem {c : Chunk} {l : List Chunk} (h : c ∈ l) : ∀ x, x ∈ [c] → x ∈ l := fun x hx => by rw [List.mem_singleton.1 hx]; exact h
abbrev slC (B : Nat) (s : SlotT) : Chunk := (B, .cells (List.toArray (encT s)) 29 (0, 0))
def hasD (D : DT) (s : SlotT) : Bool := (splitD s D).isSome
def rootD (D : DT) (s : SlotT) : Int × DT := if hasD D s = true then (11, D) else (0, D ++ [(s, 0)])
def childD (D : DT) (par s : SlotT) : Int × DT := match splitD par D with
  | none => (10, D)
  | some (A, d, B) => if hasD D s = true then (11, D) else (0, A ++ (par, d) :: (s, d + 1) :: B)
theorem has_blk {F : Nat → NdT} {os : List Nat} {s : SlotT} : hasD (dOf F os) s = (blk F os s).isSome := by
  unfold hasD
  cases h : blk F os s with
  | none => rw [split_none h]; rfl
  | some p => obtain ⟨A, B, _, h2⟩ := split_blk h; rw [h2]; rfl
def SmallD (D : DT) : Prop := ∀ x, x ∈ D → -1000000 ≤ x.2 ∧ x.2 ≤ 1000000
theorem dOf_take {F : Nat → NdT} {A B : List Nat} (p : Nat) : (dOf F (A ++ p :: B)).take (A.length + 1) = dOf F A ++ [((F p).sl, (F p).dp)] := by
  unfold dOf
  rw [List.map_append, List.map_cons, List.take_append, List.take_of_length_le (by simp)]
  simp
theorem dOf_drop {F : Nat → NdT} {A B : List Nat} (p : Nat) : (dOf F (A ++ p :: B)).drop (A.length + 1) = dOf F B := by
  unfold dOf
  rw [List.map_append, List.map_cons, List.drop_append, List.drop_of_length_le (by simp)]
  simp
set_option pp.deepTerms false
set_option pp.deepTerms.threshold 4
set_option maxHeartbeats 400000
theorem root_any (b : Nat) (D : DT) (lq : List Chunk) (hq : IsT b D lq) (s : SlotT) (G : List Chunk) :
    Fn Try.prog 17 [.pointer (some ⟨b, 0, none⟩), .agg (List.toArray (encT s))] (lq ++ G) fun v l' => v = .int .i64 (rootD D s).1 ∧ ∃ lq', IsT b (rootD D s).2 lq' ∧ l' = lq' ++ G := by
  obtain ⟨rb, m, F, all, os, es, clock, rfl, hT⟩ := hq
  refine fn_of_body Try.func17 rfl rfl fun E => ?_
  simp only [argF, Try.ntmps17]
  repeat (first | (show OpsS _ _ _ _ _ _ (_ :: _) _ _ _; first | refine ozq ?_) | refine c_seq ?_ | refine p_then ?_ | refine c_region ?_ | refine s_nil ?_ | refine c_cond_t rfl ?_ | refine c_cond_f rfl ?_ | refine c_block ?_ | refine c_skip ?_ | refine p_block ?_ | refine p_block_here ?_ | refine p_block_on rfl ?_ | refine c_ret ?_ | refine p_then_ret ?_ | refine p_block_ret ?_ | refine p_end ?_ | refine c_if_t rfl (by omega) ?_ | refine c_if_f rfl (by omega) ?_)
  refine t_e (e_boxA rfl) rfl rfl rfl ?_
  rintro _ _ ⟨b3, hb3, rfl, rfl⟩
  refine s_keep (Keep.of_perm (l' := lq ++ (slC b3 s :: G)) List.perm_middle.symm) ?_
  have hsub : ∀ c, c ∈ lq → c ∈ lq ++ (slC b3 s :: G) := fun c hc => List.mem_append_left _ hc
  have hbm : slC b3 s ∈ lq ++ (slC b3 s :: G) := List.mem_append_right _ (.head _)
  repeat (first | (show OpsS _ _ _ _ _ _ (_ :: _) _ _ _; first | refine ozq ?_) | refine c_seq ?_ | refine p_then ?_ | refine c_region ?_ | refine s_nil ?_ | refine c_cond_t rfl ?_ | refine c_cond_f rfl ?_ | refine c_block ?_ | refine c_skip ?_ | refine p_block ?_ | refine p_block_here ?_ | refine p_block_on rfl ?_ | refine c_ret ?_ | refine p_then_ret ?_ | refine p_block_ret ?_ | refine p_end ?_ | refine c_if_t rfl (by omega) ?_ | refine c_if_f rfl (by omega) ?_)
  refine t_q (q_call (R := lq ++ (slC b3 s :: G)) rfl rfl fun l2 hl2 => of_any b rb m F all os es clock lq s hT l2 fun c hc => hl2 c (hsub c hc)) rfl rfl rfl ?_
  cases hbk : blk F os s with
  | some p =>
    rw [show rootD (dOf F os) s = (11, dOf F os) by unfold rootD; rw [has_blk, hbk]; rfl]
    simp only [ptrO]
    repeat (first | (show OpsS _ _ _ _ _ _ (_ :: _) _ _ _; first | refine ozq ?_) | refine c_seq ?_ | refine p_then ?_ | refine c_region ?_ | refine s_nil ?_ | refine c_cond_t rfl ?_ | refine c_cond_f rfl ?_ | refine c_block ?_ | refine c_skip ?_ | refine p_block ?_ | refine p_block_here ?_ | refine p_block_on rfl ?_ | refine c_ret ?_ | refine p_then_ret ?_ | refine p_block_ret ?_ | refine p_end ?_ | refine c_if_t rfl (by omega) ?_ | refine c_if_f rfl (by omega) ?_)
    exact k_ret [] rfl (l' := lq ++ G) (Keep.trans (.of_perm List.perm_middle) (.drop .refl)) (by (repeat (first | apply ResS.nil | (apply rs_tmp; (· rfl)) | (apply rs_cell1; (· rfl); (· ((repeat (first | with_reducible apply List.mem_cons_self | with_reducible apply List.mem_cons_of_mem)); try with_reducible assumption)); (· rfl)) | (apply rs_cellA; (· rfl); (· ((repeat (first | with_reducible apply List.mem_cons_self | with_reducible apply List.mem_cons_of_mem)); try with_reducible assumption)); (· (repeat (first | with_reducible apply LSub.done | with_reducible apply LSub.take | with_reducible apply LSub.drop))))))) ⟨rfl, lq, ⟨rb, m, F, all, os, es, clock, rfl, hT⟩, rfl⟩
  | none =>
    rw [show rootD (dOf F os) s = (0, dOf F os ++ [(s, 0)]) by unfold rootD; rw [has_blk, hbk]; rfl]
    simp only [ptrO]
    obtain ⟨X, p, hX⟩ : ∃ X p, rb :: os = X ++ [p] := ⟨_, _, (List.dropLast_concat_getLast (List.cons_ne_nil rb os)).symm⟩
    have hpv : (F rb).pv = p := hT.prv (Y := []) hX
    have hXl : X.length = os.length := by have := congrArg List.length hX; simp at this; omega
    repeat (first | (show OpsS _ _ _ _ _ _ (_ :: _) _ _ _; first | refine ozq ?_) | refine c_seq ?_ | refine p_then ?_ | refine c_region ?_ | refine s_nil ?_ | refine c_cond_t rfl ?_ | refine c_cond_f rfl ?_ | refine c_block ?_ | refine c_skip ?_ | refine p_block ?_ | refine p_block_here ?_ | refine p_block_on rfl ?_ | refine c_ret ?_ | refine p_then_ret ?_ | refine p_block_ret ?_ | refine p_end ?_ | refine c_if_t rfl (by omega) ?_ | refine c_if_f rfl (by omega) ?_)
    refine c_draw [(0, true), (1, true), (2, true), (3, true), (4, true), (5, true), (6, true), (7, true), (8, true), (9, false)] [[], [], [1], [1, 2], [1, 2, 3], [1, 2, 3, 4], [1, 2, 3, 4, 5], [1, 2, 3, 4, 5, 6], [], [0, 1, 2, 3, 4, 5, 6, 7, 8]] ([]) (by kernel_rfl) (by kernel_rfl) (by (repeat (first | apply Attach.nil | (apply Attach.cons; · rfl)))) (List.Sublist.subset (by (repeat (first | with_reducible apply List.Sublist.refl | with_reducible apply List.nil_sublist | with_reducible apply List.Sublist.cons_cons | with_reducible apply List.Sublist.cons)))) ?_
    repeat (first | refine pl_nil ?_ | (show PlanS _ _ _ _ _ _ _ _ _ _ ((_, true, _) :: _) _ _ _; first | refine pzq ?_) | (show PlanS _ _ _ _ _ _ _ _ none [] ((_, false, _) :: _) _ _ _; first | refine pze ?_))
    apply pl_s (S := [trC b rb m]); (· first | exact q_load rfl (.head _) (by (first | with_reducible assumption | ((with_reducible apply cell_get); (repeat (first | with_reducible apply LGet.zero | with_reducible apply LGet.succ))))) | exact q_loadL rfl (.head _) (by (repeat (first | with_reducible apply LSub.done | with_reducible apply LSub.take | with_reducible apply LSub.drop)))); (· exact sing_mem (hsub _ hT.m1)); (· rfl); (· rfl); (· rfl)
    repeat (first | refine pl_nil ?_ | (show PlanS _ _ _ _ _ _ _ _ _ _ ((_, true, _) :: _) _ _ _; first | refine pzq ?_) | (show PlanS _ _ _ _ _ _ _ _ none [] ((_, false, _) :: _) _ _ _; first | refine pze ?_))
    apply pl_s (S := [ndC rb (F rb)]); (· first | exact q_load rfl (.head _) (by (first | with_reducible assumption | ((with_reducible apply cell_get); (repeat (first | with_reducible apply LGet.zero | with_reducible apply LGet.succ))))) | exact q_loadL rfl (.head _) (by (repeat (first | with_reducible apply LSub.done | with_reducible apply LSub.take | with_reducible apply LSub.drop)))); (· exact sing_mem (hsub _ (hT.m3 hT.rin))); (· rfl); (· rfl); (· rfl)
    repeat (first | refine pl_nil ?_ | (show PlanS _ _ _ _ _ _ _ _ _ _ ((_, true, _) :: _) _ _ _; first | refine pzq ?_) | (show PlanS _ _ _ _ _ _ _ _ none [] ((_, false, _) :: _) _ _ _; first | refine pze ?_))
    rw [hpv]
    apply pl_s (S := [slC b3 s]); (· first | exact q_load rfl (.head _) (by (first | with_reducible assumption | ((with_reducible apply cell_get); (repeat (first | with_reducible apply LGet.zero | with_reducible apply LGet.succ))))) | exact q_loadL rfl (.head _) (by (repeat (first | with_reducible apply LSub.done | with_reducible apply LSub.take | with_reducible apply LSub.drop)))); (· exact sing_mem (hbm)); (· rfl); (· rfl); (· rfl)
    repeat (first | refine pl_nil ?_ | (show PlanS _ _ _ _ _ _ _ _ _ _ ((_, true, _) :: _) _ _ _; first | refine pzq ?_) | (show PlanS _ _ _ _ _ _ _ _ none [] ((_, false, _) :: _) _ _ _; first | refine pze ?_))
    apply pl_eS
    · exact e_call0 rfl rfl (put_any b rb m F all os es clock lq hT X [] p hX s 0 hbk (slC b3 s :: G))
    (· rfl); (· rfl); (· rfl); (· intro _ _ _ c hc; cases hc); (· exact fun _ _ _ x hx ha => anc_all (by kernel_rfl) hx ha)
    rintro _ _ ⟨rfl, lq', hq', rfl⟩
    repeat (first | refine pl_nil ?_ | (show PlanS _ _ _ _ _ _ _ _ _ _ ((_, true, _) :: _) _ _ _; first | refine pzq ?_) | (show PlanS _ _ _ _ _ _ _ _ none [] ((_, false, _) :: _) _ _ _; first | refine pze ?_))
    repeat (first | (show OpsS _ _ _ _ _ _ (_ :: _) _ _ _; first | refine ozq ?_) | refine c_seq ?_ | refine p_then ?_ | refine c_region ?_ | refine s_nil ?_ | refine c_cond_t rfl ?_ | refine c_cond_f rfl ?_ | refine c_block ?_ | refine c_skip ?_ | refine p_block ?_ | refine p_block_here ?_ | refine p_block_on rfl ?_ | refine c_ret ?_ | refine p_then_ret ?_ | refine p_block_ret ?_ | refine p_end ?_ | refine c_if_t rfl (by omega) ?_ | refine c_if_f rfl (by omega) ?_)
    refine k_ret [] rfl (l' := lq' ++ G) (Keep.trans (.of_perm List.perm_middle) (.drop .refl)) (by (repeat (first | apply ResS.nil | (apply rs_tmp; (· rfl)) | (apply rs_cell1; (· rfl); (· ((repeat (first | with_reducible apply List.mem_cons_self | with_reducible apply List.mem_cons_of_mem)); try with_reducible assumption)); (· rfl)) | (apply rs_cellA; (· rfl); (· ((repeat (first | with_reducible apply List.mem_cons_self | with_reducible apply List.mem_cons_of_mem)); try with_reducible assumption)); (· (repeat (first | with_reducible apply LSub.done | with_reducible apply LSub.take | with_reducible apply LSub.drop))))))) ⟨rfl, lq', ?_, rfl⟩
    rw [hXl, List.take_of_length_le (by simp [dOf]), List.drop_of_length_le (by simp [dOf])] at hq'
    exact hq'
theorem child_any (b : Nat) (D : DT) (lq : List Chunk) (hq : IsT b D lq) (hd : SmallD D) (par s : SlotT) (G : List Chunk) :
    Fn Try.prog 18 [.pointer (some ⟨b, 0, none⟩), .agg (List.toArray (encT par)), .agg (List.toArray (encT s))] (lq ++ G) fun v l' => v = .int .i64 (childD D par s).1 ∧ ∃ lq', IsT b (childD D par s).2 lq' ∧ l' = lq' ++ G := by
  obtain ⟨rb, m, F, all, os, es, clock, rfl, hT⟩ := hq
  refine fn_of_body Try.func18 rfl rfl fun E => ?_
  simp only [argF, Try.ntmps18]
  repeat (first | (show OpsS _ _ _ _ _ _ (_ :: _) _ _ _; first | refine ozq ?_) | refine c_seq ?_ | refine p_then ?_ | refine c_region ?_ | refine s_nil ?_ | refine c_cond_t rfl ?_ | refine c_cond_f rfl ?_ | refine c_block ?_ | refine c_skip ?_ | refine p_block ?_ | refine p_block_here ?_ | refine p_block_on rfl ?_ | refine c_ret ?_ | refine p_then_ret ?_ | refine p_block_ret ?_ | refine p_end ?_ | refine c_if_t rfl (by omega) ?_ | refine c_if_f rfl (by omega) ?_)
  refine t_e (e_boxA rfl) rfl rfl rfl ?_
  rintro _ _ ⟨b4, hb4, rfl, rfl⟩
  repeat (first | (show OpsS _ _ _ _ _ _ (_ :: _) _ _ _; first | refine ozq ?_) | refine c_seq ?_ | refine p_then ?_ | refine c_region ?_ | refine s_nil ?_ | refine c_cond_t rfl ?_ | refine c_cond_f rfl ?_ | refine c_block ?_ | refine c_skip ?_ | refine p_block ?_ | refine p_block_here ?_ | refine p_block_on rfl ?_ | refine c_ret ?_ | refine p_then_ret ?_ | refine p_block_ret ?_ | refine p_end ?_ | refine c_if_t rfl (by omega) ?_ | refine c_if_f rfl (by omega) ?_)
  refine t_e (e_boxA rfl) rfl rfl rfl ?_
  rintro _ _ ⟨b5, hb5, rfl, rfl⟩
  have hk2 : ∀ lq : List Chunk, Keep (lq ++ (slC b5 s :: slC b4 par :: G)) (lq ++ G) := fun lq => Keep.trans (.of_perm (List.perm_append_comm_assoc lq [slC b5 s, slC b4 par] G)) (.drop (.drop .refl))
  refine s_keep (Keep.of_perm (l' := lq ++ (slC b5 s :: slC b4 par :: G)) (List.perm_append_comm_assoc [slC b5 s, slC b4 par] lq G)) ?_
  have hsub : ∀ c, c ∈ lq → c ∈ lq ++ (slC b5 s :: slC b4 par :: G) := fun c hc => List.mem_append_left _ hc
  have hm4 : slC b4 par ∈ lq ++ (slC b5 s :: slC b4 par :: G) := List.mem_append_right _ (.tail _ (.head _))
  have hm5 : slC b5 s ∈ lq ++ (slC b5 s :: slC b4 par :: G) := List.mem_append_right _ (.head _)
  repeat (first | (show OpsS _ _ _ _ _ _ (_ :: _) _ _ _; first | refine ozq ?_) | refine c_seq ?_ | refine p_then ?_ | refine c_region ?_ | refine s_nil ?_ | refine c_cond_t rfl ?_ | refine c_cond_f rfl ?_ | refine c_block ?_ | refine c_skip ?_ | refine p_block ?_ | refine p_block_here ?_ | refine p_block_on rfl ?_ | refine c_ret ?_ | refine p_then_ret ?_ | refine p_block_ret ?_ | refine p_end ?_ | refine c_if_t rfl (by omega) ?_ | refine c_if_f rfl (by omega) ?_)
  refine t_q (q_call (R := lq ++ (slC b5 s :: slC b4 par :: G)) rfl rfl fun l2 hl2 => of_any b rb m F all os es clock lq par hT l2 fun c hc => hl2 c (hsub c hc)) rfl rfl rfl ?_
  cases hbp : blk F os par with
  | none =>
    rw [show childD (dOf F os) par s = (10, dOf F os) by unfold childD; rw [split_none hbp]]
    simp only [ptrO]
    repeat (first | (show OpsS _ _ _ _ _ _ (_ :: _) _ _ _; first | refine ozq ?_) | refine c_seq ?_ | refine p_then ?_ | refine c_region ?_ | refine s_nil ?_ | refine c_cond_t rfl ?_ | refine c_cond_f rfl ?_ | refine c_block ?_ | refine c_skip ?_ | refine p_block ?_ | refine p_block_here ?_ | refine p_block_on rfl ?_ | refine c_ret ?_ | refine p_then_ret ?_ | refine p_block_ret ?_ | refine p_end ?_ | refine c_if_t rfl (by omega) ?_ | refine c_if_f rfl (by omega) ?_)
    exact k_ret [] rfl (l' := lq ++ G) (hk2 lq) (by (repeat (first | apply ResS.nil | (apply rs_tmp; (· rfl)) | (apply rs_cell1; (· rfl); (· ((repeat (first | with_reducible apply List.mem_cons_self | with_reducible apply List.mem_cons_of_mem)); try with_reducible assumption)); (· rfl)) | (apply rs_cellA; (· rfl); (· ((repeat (first | with_reducible apply List.mem_cons_self | with_reducible apply List.mem_cons_of_mem)); try with_reducible assumption)); (· (repeat (first | with_reducible apply LSub.done | with_reducible apply LSub.take | with_reducible apply LSub.drop))))))) ⟨rfl, lq, ⟨rb, m, F, all, os, es, clock, rfl, hT⟩, rfl⟩
  | some p =>
    simp only [ptrO]
    repeat (first | (show OpsS _ _ _ _ _ _ (_ :: _) _ _ _; first | refine ozq ?_) | refine c_seq ?_ | refine p_then ?_ | refine c_region ?_ | refine s_nil ?_ | refine c_cond_t rfl ?_ | refine c_cond_f rfl ?_ | refine c_block ?_ | refine c_skip ?_ | refine p_block ?_ | refine p_block_here ?_ | refine p_block_on rfl ?_ | refine c_ret ?_ | refine p_then_ret ?_ | refine p_block_ret ?_ | refine p_end ?_ | refine c_if_t rfl (by omega) ?_ | refine c_if_f rfl (by omega) ?_)
    refine t_q (q_call (R := lq ++ (slC b5 s :: slC b4 par :: G)) rfl rfl fun l2 hl2 => of_any b rb m F all os es clock lq s hT l2 fun c hc => hl2 c (hsub c hc)) rfl rfl rfl ?_
    cases hbk : blk F os s with
    | some q =>
      rw [show childD (dOf F os) par s = (11, dOf F os) by unfold childD; obtain ⟨A, B, _, h2⟩ := split_blk hbp; rw [h2]; simp only; rw [has_blk, hbk]; rfl]
      simp only [ptrO]
      repeat (first | (show OpsS _ _ _ _ _ _ (_ :: _) _ _ _; first | refine ozq ?_) | refine c_seq ?_ | refine p_then ?_ | refine c_region ?_ | refine s_nil ?_ | refine c_cond_t rfl ?_ | refine c_cond_f rfl ?_ | refine c_block ?_ | refine c_skip ?_ | refine p_block ?_ | refine p_block_here ?_ | refine p_block_on rfl ?_ | refine c_ret ?_ | refine p_then_ret ?_ | refine p_block_ret ?_ | refine p_end ?_ | refine c_if_t rfl (by omega) ?_ | refine c_if_f rfl (by omega) ?_)
      exact k_ret [] rfl (l' := lq ++ G) (hk2 lq) (by (repeat (first | apply ResS.nil | (apply rs_tmp; (· rfl)) | (apply rs_cell1; (· rfl); (· ((repeat (first | with_reducible apply List.mem_cons_self | with_reducible apply List.mem_cons_of_mem)); try with_reducible assumption)); (· rfl)) | (apply rs_cellA; (· rfl); (· ((repeat (first | with_reducible apply List.mem_cons_self | with_reducible apply List.mem_cons_of_mem)); try with_reducible assumption)); (· (repeat (first | with_reducible apply LSub.done | with_reducible apply LSub.take | with_reducible apply LSub.drop))))))) ⟨rfl, lq, ⟨rb, m, F, all, os, es, clock, rfl, hT⟩, rfl⟩
    | none =>
      obtain ⟨A, B, hos, h2⟩ := split_blk hbp
      have hps := (blk_some hbp).2
      have hpo := (blk_some hbp).1
      rw [show childD (dOf F os) par s = (0, dOf F A ++ (par, (F p).dp) :: (s, (F p).dp + 1) :: dOf F B) by unfold childD; rw [h2]; simp only; rw [has_blk, hbk]; rfl]
      have hX : rb :: os = (rb :: A) ++ p :: B := by rw [hos]; rfl
      have hr := hd _ (List.mem_map.2 ⟨p, hpo, rfl⟩)
      simp only at hr
      simp only [ptrO]
      repeat (first | (show OpsS _ _ _ _ _ _ (_ :: _) _ _ _; first | refine ozq ?_) | refine c_seq ?_ | refine p_then ?_ | refine c_region ?_ | refine s_nil ?_ | refine c_cond_t rfl ?_ | refine c_cond_f rfl ?_ | refine c_block ?_ | refine c_skip ?_ | refine p_block ?_ | refine p_block_here ?_ | refine p_block_on rfl ?_ | refine c_ret ?_ | refine p_then_ret ?_ | refine p_block_ret ?_ | refine p_end ?_ | refine c_if_t rfl (by omega) ?_ | refine c_if_f rfl (by omega) ?_)
      refine c_draw [(0, true), (1, true), (2, true), (3, true), (4, true), (5, true), (6, true), (7, true), (8, false)] [[], [], [], [], [3], [3, 4], [3, 4, 5], [3, 4, 5, 6], [0, 1, 2, 3, 4, 5, 6, 7]] ([]) (by kernel_rfl) (by kernel_rfl) (by (repeat (first | apply Attach.nil | (apply Attach.cons; · rfl)))) (List.Sublist.subset (by (repeat (first | with_reducible apply List.Sublist.refl | with_reducible apply List.nil_sublist | with_reducible apply List.Sublist.cons_cons | with_reducible apply List.Sublist.cons)))) ?_
      repeat (first | refine pl_nil ?_ | (show PlanS _ _ _ _ _ _ _ _ _ _ ((_, true, _) :: _) _ _ _; first | refine pzq ?_) | (show PlanS _ _ _ _ _ _ _ _ none [] ((_, false, _) :: _) _ _ _; first | refine pze ?_))
      apply pl_s (S := [slC b5 s]); (· first | exact q_load rfl (.head _) (by (first | with_reducible assumption | ((with_reducible apply cell_get); (repeat (first | with_reducible apply LGet.zero | with_reducible apply LGet.succ))))) | exact q_loadL rfl (.head _) (by (repeat (first | with_reducible apply LSub.done | with_reducible apply LSub.take | with_reducible apply LSub.drop)))); (· exact sing_mem (hm5)); (· rfl); (· rfl); (· rfl)
      repeat (first | refine pl_nil ?_ | (show PlanS _ _ _ _ _ _ _ _ _ _ ((_, true, _) :: _) _ _ _; first | refine pzq ?_) | (show PlanS _ _ _ _ _ _ _ _ none [] ((_, false, _) :: _) _ _ _; first | refine pze ?_))
      apply pl_s (S := [ndC p (F p)]); (· first | exact q_load rfl (.head _) (by (first | with_reducible assumption | ((with_reducible apply cell_get); (repeat (first | with_reducible apply LGet.zero | with_reducible apply LGet.succ))))) | exact q_loadL rfl (.head _) (by (repeat (first | with_reducible apply LSub.done | with_reducible apply LSub.take | with_reducible apply LSub.drop)))); (· exact sing_mem (hsub _ (hT.m3 (hT.sub p hpo)))); (· rfl); (· rfl); (· rfl)
      repeat (first | refine pl_nil ?_ | (show PlanS _ _ _ _ _ _ _ _ _ _ ((_, true, _) :: _) _ _ _; first | refine pzq ?_) | (show PlanS _ _ _ _ _ _ _ _ none [] ((_, false, _) :: _) _ _ _; first | refine pze ?_))
      apply pl_eS
      · exact e_call0 rfl rfl (put_any b rb m F all os es clock lq hT (rb :: A) B p hX s _ hbk (slC b5 s :: slC b4 par :: G))
      (· rfl); (· rfl); (· rfl); (· intro _ _ _ c hc; cases hc); (· exact fun _ _ _ x hx ha => anc_all (by kernel_rfl) hx ha)
      rintro _ _ ⟨rfl, lq', hq', rfl⟩
      repeat (first | refine pl_nil ?_ | (show PlanS _ _ _ _ _ _ _ _ _ _ ((_, true, _) :: _) _ _ _; first | refine pzq ?_) | (show PlanS _ _ _ _ _ _ _ _ none [] ((_, false, _) :: _) _ _ _; first | refine pze ?_))
      repeat (first | (show OpsS _ _ _ _ _ _ (_ :: _) _ _ _; first | refine ozq ?_) | refine c_seq ?_ | refine p_then ?_ | refine c_region ?_ | refine s_nil ?_ | refine c_cond_t rfl ?_ | refine c_cond_f rfl ?_ | refine c_block ?_ | refine c_skip ?_ | refine p_block ?_ | refine p_block_here ?_ | refine p_block_on rfl ?_ | refine c_ret ?_ | refine p_then_ret ?_ | refine p_block_ret ?_ | refine p_end ?_ | refine c_if_t rfl (by omega) ?_ | refine c_if_f rfl (by omega) ?_)
      refine k_ret [] rfl (l' := lq' ++ G) (hk2 lq') (by (repeat (first | apply ResS.nil | (apply rs_tmp; (· rfl)) | (apply rs_cell1; (· rfl); (· ((repeat (first | with_reducible apply List.mem_cons_self | with_reducible apply List.mem_cons_of_mem)); try with_reducible assumption)); (· rfl)) | (apply rs_cellA; (· rfl); (· ((repeat (first | with_reducible apply List.mem_cons_self | with_reducible apply List.mem_cons_of_mem)); try with_reducible assumption)); (· (repeat (first | with_reducible apply LSub.done | with_reducible apply LSub.take | with_reducible apply LSub.drop))))))) ⟨rfl, lq', ?_, rfl⟩
      rw [List.length_cons, hos, dOf_take, dOf_drop, hps] at hq'
      simpa using hq'
theorem has_any (b : Nat) (D : DT) (lq : List Chunk) (hq : IsT b D lq) (s : SlotT) (l : List Chunk) (hsub : ∀ c, c ∈ lq → c ∈ l) :
    Fn Try.prog 21 [.pointer (some ⟨b, 0, none⟩), .agg (List.toArray (encT s))] l fun v l' => v = .bool (hasD D s) ∧ l' = l := by
  obtain ⟨rb, m, F, all, os, es, clock, rfl, hT⟩ := hq
  rw [has_blk]
  refine fn_of_body Try.func21 rfl rfl fun E => ?_
  simp only [argF, Try.ntmps21]
  repeat (first | (show OpsS _ _ _ _ _ _ (_ :: _) _ _ _; first | refine ozq ?_) | refine c_seq ?_ | refine p_then ?_ | refine c_region ?_ | refine s_nil ?_ | refine c_ret ?_ | refine p_then_ret ?_ | refine p_end ?_)
  refine t_e (e_boxA rfl) rfl rfl rfl ?_
  rintro _ _ ⟨b3, hb3, rfl, rfl⟩
  repeat (first | (show OpsS _ _ _ _ _ _ (_ :: _) _ _ _; first | refine ozq ?_) | refine c_seq ?_ | refine p_then ?_ | refine c_region ?_ | refine s_nil ?_ | refine c_ret ?_ | refine p_then_ret ?_ | refine p_end ?_)
  refine t_q (q_call (R := slC b3 s :: l) rfl rfl fun l2 hl2 => of_any b rb m F all os es clock lq s hT l2 fun c hc => hl2 c (.tail _ (hsub c hc))) rfl rfl rfl ?_
  cases hbk : blk F os s with
  | some p =>
    simp only [ptrO]
    repeat (first | (show OpsS _ _ _ _ _ _ (_ :: _) _ _ _; first | refine ozq ?_) | refine c_seq ?_ | refine p_then ?_ | refine c_region ?_ | refine s_nil ?_ | refine c_ret ?_ | refine p_then_ret ?_ | refine p_end ?_)
    exact k_ret [] rfl (l' := l) (.drop .refl) (by (repeat (first | apply ResS.nil | (apply rs_tmp; (· rfl)) | (apply rs_cell1; (· rfl); (· ((repeat (first | with_reducible apply List.mem_cons_self | with_reducible apply List.mem_cons_of_mem)); try with_reducible assumption)); (· rfl)) | (apply rs_cellA; (· rfl); (· ((repeat (first | with_reducible apply List.mem_cons_self | with_reducible apply List.mem_cons_of_mem)); try with_reducible assumption)); (· (repeat (first | with_reducible apply LSub.done | with_reducible apply LSub.take | with_reducible apply LSub.drop))))))) ⟨rfl, rfl⟩
  | none =>
    simp only [ptrO]
    repeat (first | (show OpsS _ _ _ _ _ _ (_ :: _) _ _ _; first | refine ozq ?_) | refine c_seq ?_ | refine p_then ?_ | refine c_region ?_ | refine s_nil ?_ | refine c_ret ?_ | refine p_then_ret ?_ | refine p_end ?_)
    exact k_ret [] rfl (l' := l) (.drop .refl) (by (repeat (first | apply ResS.nil | (apply rs_tmp; (· rfl)) | (apply rs_cell1; (· rfl); (· ((repeat (first | with_reducible apply List.mem_cons_self | with_reducible apply List.mem_cons_of_mem)); try with_reducible assumption)); (· rfl)) | (apply rs_cellA; (· rfl); (· ((repeat (first | with_reducible apply List.mem_cons_self | with_reducible apply List.mem_cons_of_mem)); try with_reducible assumption)); (· (repeat (first | with_reducible apply LSub.done | with_reducible apply LSub.take | with_reducible apply LSub.drop))))))) ⟨rfl, rfl⟩
theorem root_nil (s : SlotT) (l : List Chunk) : Fn Try.prog 17 [.pointer none, .agg (List.toArray (encT s))] l fun v l' => v = .int .i64 1 ∧ l' = l := by
  refine fn_of_body Try.func17 rfl rfl fun E => ?_
  simp only [argF, Try.ntmps17]
  repeat (first | (show OpsS _ _ _ _ _ _ (_ :: _) _ _ _; first | refine ozq ?_) | refine c_seq ?_ | refine p_then ?_ | refine c_region ?_ | refine s_nil ?_ | refine c_cond_t rfl ?_ | refine c_cond_f rfl ?_ | refine c_block ?_ | refine c_skip ?_ | refine p_block ?_ | refine p_block_here ?_ | refine p_block_on rfl ?_ | refine c_ret ?_ | refine p_then_ret ?_ | refine p_block_ret ?_ | refine p_end ?_ | refine c_if_t rfl (by omega) ?_ | refine c_if_f rfl (by omega) ?_)
  refine t_e (e_boxA rfl) rfl rfl rfl ?_
  rintro _ _ ⟨b3, hb3, rfl, rfl⟩
  repeat (first | (show OpsS _ _ _ _ _ _ (_ :: _) _ _ _; first | refine ozq ?_) | refine c_seq ?_ | refine p_then ?_ | refine c_region ?_ | refine s_nil ?_ | refine c_cond_t rfl ?_ | refine c_cond_f rfl ?_ | refine c_block ?_ | refine c_skip ?_ | refine p_block ?_ | refine p_block_here ?_ | refine p_block_on rfl ?_ | refine c_ret ?_ | refine p_then_ret ?_ | refine p_block_ret ?_ | refine p_end ?_ | refine c_if_t rfl (by omega) ?_ | refine c_if_f rfl (by omega) ?_)
  exact k_ret [] rfl (.drop .refl) (by (repeat (first | apply ResS.nil | (apply rs_tmp; (· rfl)) | (apply rs_cell1; (· rfl); (· ((repeat (first | with_reducible apply List.mem_cons_self | with_reducible apply List.mem_cons_of_mem)); try with_reducible assumption)); (· rfl)) | (apply rs_cellA; (· rfl); (· ((repeat (first | with_reducible apply List.mem_cons_self | with_reducible apply List.mem_cons_of_mem)); try with_reducible assumption)); (· (repeat (first | with_reducible apply LSub.done | with_reducible apply LSub.take | with_reducible apply LSub.drop))))))) ⟨rfl, rfl⟩
theorem Child_nil (s r : SlotT) (l : List Chunk) : Fn Try.prog 18 [.pointer none, .agg (List.toArray (encT s)), .agg (List.toArray (encT r))] l fun v l' => v = .int .i64 1 ∧ l' = l := by
  refine fn_of_body Try.func18 rfl rfl fun E => ?_
  simp only [argF, Try.ntmps18]
  repeat (first | (show OpsS _ _ _ _ _ _ (_ :: _) _ _ _; first | refine ozq ?_) | refine c_seq ?_ | refine p_then ?_ | refine c_region ?_ | refine s_nil ?_ | refine c_cond_t rfl ?_ | refine c_cond_f rfl ?_ | refine c_block ?_ | refine c_skip ?_ | refine p_block ?_ | refine p_block_here ?_ | refine p_block_on rfl ?_ | refine c_ret ?_ | refine p_then_ret ?_ | refine p_block_ret ?_ | refine p_end ?_ | refine c_if_t rfl (by omega) ?_ | refine c_if_f rfl (by omega) ?_)
  refine t_e (e_boxA rfl) rfl rfl rfl ?_
  rintro _ _ ⟨b3, hb3, rfl, rfl⟩
  repeat (first | (show OpsS _ _ _ _ _ _ (_ :: _) _ _ _; first | refine ozq ?_) | refine c_seq ?_ | refine p_then ?_ | refine c_region ?_ | refine s_nil ?_ | refine c_cond_t rfl ?_ | refine c_cond_f rfl ?_ | refine c_block ?_ | refine c_skip ?_ | refine p_block ?_ | refine p_block_here ?_ | refine p_block_on rfl ?_ | refine c_ret ?_ | refine p_then_ret ?_ | refine p_block_ret ?_ | refine p_end ?_ | refine c_if_t rfl (by omega) ?_ | refine c_if_f rfl (by omega) ?_)
  refine t_e (e_boxA rfl) rfl rfl rfl ?_
  rintro _ _ ⟨b4, hb4, rfl, rfl⟩
  repeat (first | (show OpsS _ _ _ _ _ _ (_ :: _) _ _ _; first | refine ozq ?_) | refine c_seq ?_ | refine p_then ?_ | refine c_region ?_ | refine s_nil ?_ | refine c_cond_t rfl ?_ | refine c_cond_f rfl ?_ | refine c_block ?_ | refine c_skip ?_ | refine p_block ?_ | refine p_block_here ?_ | refine p_block_on rfl ?_ | refine c_ret ?_ | refine p_then_ret ?_ | refine p_block_ret ?_ | refine p_end ?_ | refine c_if_t rfl (by omega) ?_ | refine c_if_f rfl (by omega) ?_)
  refine t_q (q_call rfl rfl fun l2 hl2 => of_nil s l2) rfl rfl rfl ?_
  repeat (first | (show OpsS _ _ _ _ _ _ (_ :: _) _ _ _; first | refine ozq ?_) | refine c_seq ?_ | refine p_then ?_ | refine c_region ?_ | refine s_nil ?_ | refine c_cond_t rfl ?_ | refine c_cond_f rfl ?_ | refine c_block ?_ | refine c_skip ?_ | refine p_block ?_ | refine p_block_here ?_ | refine p_block_on rfl ?_ | refine c_ret ?_ | refine p_then_ret ?_ | refine p_block_ret ?_ | refine p_end ?_ | refine c_if_t rfl (by omega) ?_ | refine c_if_f rfl (by omega) ?_)
  exact k_ret [] rfl (.drop (.drop .refl)) (by (repeat (first | apply ResS.nil | (apply rs_tmp; (· rfl)) | (apply rs_cell1; (· rfl); (· ((repeat (first | with_reducible apply List.mem_cons_self | with_reducible apply List.mem_cons_of_mem)); try with_reducible assumption)); (· rfl)) | (apply rs_cellA; (· rfl); (· ((repeat (first | with_reducible apply List.mem_cons_self | with_reducible apply List.mem_cons_of_mem)); try with_reducible assumption)); (· (repeat (first | with_reducible apply LSub.done | with_reducible apply LSub.take | with_reducible apply LSub.drop))))))) ⟨rfl, rfl⟩
theorem Move_nil (s r : SlotT) (l : List Chunk) : Fn Try.prog 15 [.pointer none, .agg (List.toArray (encT s)), .agg (List.toArray (encT r))] l fun v l' => v = .int .i64 1 ∧ l' = l := by
  refine fn_of_body Try.func15 rfl rfl fun E => ?_
  simp only [argF, Try.ntmps15]
  repeat (first | (show OpsS _ _ _ _ _ _ (_ :: _) _ _ _; first | refine ozq ?_ | refine ozn ?_) | refine c_seq ?_ | refine p_then ?_ | refine c_region ?_ | refine s_nil ?_ | refine c_cond_t rfl ?_ | refine c_cond_f rfl ?_ | refine c_block ?_ | refine c_skip ?_ | refine p_block ?_ | refine p_block_here ?_ | refine p_block_on rfl ?_ | refine c_ret ?_ | refine p_then_ret ?_ | refine p_block_ret ?_ | refine p_end ?_ | refine c_if_t rfl (by omega) ?_ | refine c_if_f rfl (by omega) ?_)
  refine t_e (e_boxA rfl) rfl rfl rfl ?_
  rintro _ _ ⟨b3, hb3, rfl, rfl⟩
  repeat (first | (show OpsS _ _ _ _ _ _ (_ :: _) _ _ _; first | refine ozq ?_ | refine ozn ?_) | refine c_seq ?_ | refine p_then ?_ | refine c_region ?_ | refine s_nil ?_ | refine c_cond_t rfl ?_ | refine c_cond_f rfl ?_ | refine c_block ?_ | refine c_skip ?_ | refine p_block ?_ | refine p_block_here ?_ | refine p_block_on rfl ?_ | refine c_ret ?_ | refine p_then_ret ?_ | refine p_block_ret ?_ | refine p_end ?_ | refine c_if_t rfl (by omega) ?_ | refine c_if_f rfl (by omega) ?_)
  refine t_e (e_boxA rfl) rfl rfl rfl ?_
  rintro _ _ ⟨b4, hb4, rfl, rfl⟩
  repeat (first | (show OpsS _ _ _ _ _ _ (_ :: _) _ _ _; first | refine ozq ?_ | refine ozn ?_) | refine c_seq ?_ | refine p_then ?_ | refine c_region ?_ | refine s_nil ?_ | refine c_cond_t rfl ?_ | refine c_cond_f rfl ?_ | refine c_block ?_ | refine c_skip ?_ | refine p_block ?_ | refine p_block_here ?_ | refine p_block_on rfl ?_ | refine c_ret ?_ | refine p_then_ret ?_ | refine p_block_ret ?_ | refine p_end ?_ | refine c_if_t rfl (by omega) ?_ | refine c_if_f rfl (by omega) ?_)
  refine t_q (q_call rfl rfl fun l2 hl2 => of_nil s l2) rfl rfl rfl ?_
  repeat (first | (show OpsS _ _ _ _ _ _ (_ :: _) _ _ _; first | refine ozq ?_ | refine ozn ?_) | refine c_seq ?_ | refine p_then ?_ | refine c_region ?_ | refine s_nil ?_ | refine c_cond_t rfl ?_ | refine c_cond_f rfl ?_ | refine c_block ?_ | refine c_skip ?_ | refine p_block ?_ | refine p_block_here ?_ | refine p_block_on rfl ?_ | refine c_ret ?_ | refine p_then_ret ?_ | refine p_block_ret ?_ | refine p_end ?_ | refine c_if_t rfl (by omega) ?_ | refine c_if_f rfl (by omega) ?_)
  exact k_ret [] rfl (.drop (.drop .refl)) (by (repeat (first | apply ResS.nil | (apply rs_tmp; (· rfl)) | (apply rs_cell1; (· rfl); (· ((repeat (first | with_reducible apply List.mem_cons_self | with_reducible apply List.mem_cons_of_mem)); try with_reducible assumption)); (· rfl)) | (apply rs_cellA; (· rfl); (· ((repeat (first | with_reducible apply List.mem_cons_self | with_reducible apply List.mem_cons_of_mem)); try with_reducible assumption)); (· (repeat (first | with_reducible apply LSub.done | with_reducible apply LSub.take | with_reducible apply LSub.drop))))))) ⟨rfl, rfl⟩
theorem Swap_nil (s r : SlotT) (l : List Chunk) : Fn Try.prog 13 [.pointer none, .agg (List.toArray (encT s)), .agg (List.toArray (encT r))] l fun v l' => v = .int .i64 1 ∧ l' = l := by
  refine fn_of_body Try.func13 rfl rfl fun E => ?_
  simp only [argF, Try.ntmps13]
  repeat (first | (show OpsS _ _ _ _ _ _ (_ :: _) _ _ _; first | refine ozq ?_) | refine c_seq ?_ | refine p_then ?_ | refine c_region ?_ | refine s_nil ?_ | refine c_cond_t rfl ?_ | refine c_cond_f rfl ?_ | refine c_block ?_ | refine c_skip ?_ | refine p_block ?_ | refine p_block_here ?_ | refine p_block_on rfl ?_ | refine c_ret ?_ | refine p_then_ret ?_ | refine p_block_ret ?_ | refine p_end ?_ | refine c_if_t rfl (by omega) ?_ | refine c_if_f rfl (by omega) ?_)
  refine t_e (e_boxA rfl) rfl rfl rfl ?_
  rintro _ _ ⟨b3, hb3, rfl, rfl⟩
  repeat (first | (show OpsS _ _ _ _ _ _ (_ :: _) _ _ _; first | refine ozq ?_) | refine c_seq ?_ | refine p_then ?_ | refine c_region ?_ | refine s_nil ?_ | refine c_cond_t rfl ?_ | refine c_cond_f rfl ?_ | refine c_block ?_ | refine c_skip ?_ | refine p_block ?_ | refine p_block_here ?_ | refine p_block_on rfl ?_ | refine c_ret ?_ | refine p_then_ret ?_ | refine p_block_ret ?_ | refine p_end ?_ | refine c_if_t rfl (by omega) ?_ | refine c_if_f rfl (by omega) ?_)
  refine t_e (e_boxA rfl) rfl rfl rfl ?_
  rintro _ _ ⟨b4, hb4, rfl, rfl⟩
  repeat (first | (show OpsS _ _ _ _ _ _ (_ :: _) _ _ _; first | refine ozq ?_) | refine c_seq ?_ | refine p_then ?_ | refine c_region ?_ | refine s_nil ?_ | refine c_cond_t rfl ?_ | refine c_cond_f rfl ?_ | refine c_block ?_ | refine c_skip ?_ | refine p_block ?_ | refine p_block_here ?_ | refine p_block_on rfl ?_ | refine c_ret ?_ | refine p_then_ret ?_ | refine p_block_ret ?_ | refine p_end ?_ | refine c_if_t rfl (by omega) ?_ | refine c_if_f rfl (by omega) ?_)
  exact k_ret [] rfl (.drop (.drop .refl)) (by (repeat (first | apply ResS.nil | (apply rs_tmp; (· rfl)) | (apply rs_cell1; (· rfl); (· ((repeat (first | with_reducible apply List.mem_cons_self | with_reducible apply List.mem_cons_of_mem)); try with_reducible assumption)); (· rfl)) | (apply rs_cellA; (· rfl); (· ((repeat (first | with_reducible apply List.mem_cons_self | with_reducible apply List.mem_cons_of_mem)); try with_reducible assumption)); (· (repeat (first | with_reducible apply LSub.done | with_reducible apply LSub.take | with_reducible apply LSub.drop))))))) ⟨rfl, rfl⟩
theorem remove_nil (s : SlotT) (l : List Chunk) : Fn Try.prog 20 [.pointer none, .agg (List.toArray (encT s))] l fun v l' => v = .int .i64 1 ∧ l' = l := by
  refine fn_of_body Try.func20 rfl rfl fun E => ?_
  simp only [argF, Try.ntmps20]
  repeat (first | (show OpsS _ _ _ _ _ _ (_ :: _) _ _ _; first | refine ozq ?_ | refine ozn ?_) | refine c_seq ?_ | refine p_then ?_ | refine c_region ?_ | refine s_nil ?_ | refine c_cond_t rfl ?_ | refine c_cond_f rfl ?_ | refine c_block ?_ | refine c_skip ?_ | refine p_block ?_ | refine p_block_here ?_ | refine p_block_on rfl ?_ | refine c_ret ?_ | refine p_then_ret ?_ | refine p_block_ret ?_ | refine p_end ?_ | refine c_if_t rfl (by omega) ?_ | refine c_if_f rfl (by omega) ?_)
  refine t_e (e_boxA rfl) rfl rfl rfl ?_
  rintro _ _ ⟨b3, hb3, rfl, rfl⟩
  repeat (first | (show OpsS _ _ _ _ _ _ (_ :: _) _ _ _; first | refine ozq ?_ | refine ozn ?_) | refine c_seq ?_ | refine p_then ?_ | refine c_region ?_ | refine s_nil ?_ | refine c_cond_t rfl ?_ | refine c_cond_f rfl ?_ | refine c_block ?_ | refine c_skip ?_ | refine p_block ?_ | refine p_block_here ?_ | refine p_block_on rfl ?_ | refine c_ret ?_ | refine p_then_ret ?_ | refine p_block_ret ?_ | refine p_end ?_ | refine c_if_t rfl (by omega) ?_ | refine c_if_f rfl (by omega) ?_)
  refine t_q (q_call rfl rfl fun l2 hl2 => of_nil s l2) rfl rfl rfl ?_
  repeat (first | (show OpsS _ _ _ _ _ _ (_ :: _) _ _ _; first | refine ozq ?_ | refine ozn ?_) | refine c_seq ?_ | refine p_then ?_ | refine c_region ?_ | refine s_nil ?_ | refine c_cond_t rfl ?_ | refine c_cond_f rfl ?_ | refine c_block ?_ | refine c_skip ?_ | refine p_block ?_ | refine p_block_here ?_ | refine p_block_on rfl ?_ | refine c_ret ?_ | refine p_then_ret ?_ | refine p_block_ret ?_ | refine p_end ?_ | refine c_if_t rfl (by omega) ?_ | refine c_if_f rfl (by omega) ?_)
  exact k_ret [] rfl (.drop .refl) (by (repeat (first | apply ResS.nil | (apply rs_tmp; (· rfl)) | (apply rs_cell1; (· rfl); (· ((repeat (first | with_reducible apply List.mem_cons_self | with_reducible apply List.mem_cons_of_mem)); try with_reducible assumption)); (· rfl)) | (apply rs_cellA; (· rfl); (· ((repeat (first | with_reducible apply List.mem_cons_self | with_reducible apply List.mem_cons_of_mem)); try with_reducible assumption)); (· (repeat (first | with_reducible apply LSub.done | with_reducible apply LSub.take | with_reducible apply LSub.drop))))))) ⟨rfl, rfl⟩
theorem has_nil (s : SlotT) (l : List Chunk) : Fn Try.prog 21 [.pointer none, .agg (List.toArray (encT s))] l fun v l' => v = .bool false ∧ l' = l := by
  refine fn_of_body Try.func21 rfl rfl fun E => ?_
  simp only [argF, Try.ntmps21]
  repeat (first | (show OpsS _ _ _ _ _ _ (_ :: _) _ _ _; first | refine ozq ?_) | refine c_seq ?_ | refine p_then ?_ | refine c_region ?_ | refine s_nil ?_ | refine c_ret ?_ | refine p_then_ret ?_ | refine p_end ?_)
  refine t_e (e_boxA rfl) rfl rfl rfl ?_
  rintro _ _ ⟨b3, hb3, rfl, rfl⟩
  repeat (first | (show OpsS _ _ _ _ _ _ (_ :: _) _ _ _; first | refine ozq ?_) | refine c_seq ?_ | refine p_then ?_ | refine c_region ?_ | refine s_nil ?_ | refine c_ret ?_ | refine p_then_ret ?_ | refine p_end ?_)
  refine t_q (q_call rfl rfl fun l2 hl2 => of_nil s l2) rfl rfl rfl ?_
  repeat (first | (show OpsS _ _ _ _ _ _ (_ :: _) _ _ _; first | refine ozq ?_) | refine c_seq ?_ | refine p_then ?_ | refine c_region ?_ | refine s_nil ?_ | refine c_ret ?_ | refine p_then_ret ?_ | refine p_end ?_)
  exact k_ret [] rfl (.drop .refl) (by (repeat (first | apply ResS.nil | (apply rs_tmp; (· rfl)) | (apply rs_cell1; (· rfl); (· ((repeat (first | with_reducible apply List.mem_cons_self | with_reducible apply List.mem_cons_of_mem)); try with_reducible assumption)); (· rfl)) | (apply rs_cellA; (· rfl); (· ((repeat (first | with_reducible apply List.mem_cons_self | with_reducible apply List.mem_cons_of_mem)); try with_reducible assumption)); (· (repeat (first | with_reducible apply LSub.done | with_reducible apply LSub.take | with_reducible apply LSub.drop))))))) ⟨rfl, rfl⟩
theorem below_nil (s : SlotT) (l : List Chunk) : Fn Try.prog 22 [.pointer none, .agg (List.toArray (encT s))] l fun v l' => v = .slice none 0 0 ∧ l' = l := by
  refine fn_of_body Try.func22 rfl rfl fun E => ?_
  simp only [argF, Try.ntmps22]
  repeat (first | (show OpsS _ _ _ _ _ _ (_ :: _) _ _ _; first | refine ozq ?_) | refine c_seq ?_ | refine p_then ?_ | refine c_region ?_ | refine s_nil ?_ | refine c_cond_t rfl ?_ | refine c_cond_f rfl ?_ | refine c_block ?_ | refine c_skip ?_ | refine p_block ?_ | refine p_block_here ?_ | refine p_block_on rfl ?_ | refine c_ret ?_ | refine p_then_ret ?_ | refine p_block_ret ?_ | refine p_end ?_ | refine c_if_t rfl (by omega) ?_ | refine c_if_f rfl (by omega) ?_)
  refine t_e (e_boxA rfl) rfl rfl rfl ?_
  rintro _ _ ⟨b3, hb3, rfl, rfl⟩
  repeat (first | (show OpsS _ _ _ _ _ _ (_ :: _) _ _ _; first | refine ozq ?_) | refine c_seq ?_ | refine p_then ?_ | refine c_region ?_ | refine s_nil ?_ | refine c_cond_t rfl ?_ | refine c_cond_f rfl ?_ | refine c_block ?_ | refine c_skip ?_ | refine p_block ?_ | refine p_block_here ?_ | refine p_block_on rfl ?_ | refine c_ret ?_ | refine p_then_ret ?_ | refine p_block_ret ?_ | refine p_end ?_ | refine c_if_t rfl (by omega) ?_ | refine c_if_f rfl (by omega) ?_)
  refine t_q (q_call rfl rfl fun l2 hl2 => of_nil s l2) rfl rfl rfl ?_
  repeat (first | (show OpsS _ _ _ _ _ _ (_ :: _) _ _ _; first | refine ozq ?_) | refine c_seq ?_ | refine p_then ?_ | refine c_region ?_ | refine s_nil ?_ | refine c_cond_t rfl ?_ | refine c_cond_f rfl ?_ | refine c_block ?_ | refine c_skip ?_ | refine p_block ?_ | refine p_block_here ?_ | refine p_block_on rfl ?_ | refine c_ret ?_ | refine p_then_ret ?_ | refine p_block_ret ?_ | refine p_end ?_ | refine c_if_t rfl (by omega) ?_ | refine c_if_f rfl (by omega) ?_)
  exact k_ret [] rfl (.drop .refl) (by (repeat (first | apply ResS.nil | (apply rs_tmp; (· rfl)) | (apply rs_cell1; (· rfl); (· ((repeat (first | with_reducible apply List.mem_cons_self | with_reducible apply List.mem_cons_of_mem)); try with_reducible assumption)); (· rfl)) | (apply rs_cellA; (· rfl); (· ((repeat (first | with_reducible apply List.mem_cons_self | with_reducible apply List.mem_cons_of_mem)); try with_reducible assumption)); (· (repeat (first | with_reducible apply LSub.done | with_reducible apply LSub.take | with_reducible apply LSub.drop))))))) ⟨rfl, rfl⟩
theorem parent_nil (s : SlotT) (l : List Chunk) : Fn Try.prog 24 [.pointer none, .agg (List.toArray (encT s))] l fun v l' => v = .tuple #[.agg (List.toArray (encT (0, 0))), .bool false] ∧ l' = l := by
  refine fn_of_body Try.func24 rfl rfl fun E => ?_
  simp only [argF, Try.ntmps24]
  repeat (first | (show OpsS _ _ _ _ _ _ (_ :: _) _ _ _; first | refine ozq ?_ | refine ozn ?_) | refine c_seq ?_ | refine p_then ?_ | refine c_region ?_ | refine s_nil ?_ | refine c_cond_t rfl ?_ | refine c_cond_f rfl ?_ | refine c_block ?_ | refine c_skip ?_ | refine c_exit ?_ | refine p_block ?_ | refine p_then_exit ?_ | refine p_block_here ?_ | refine p_block_on rfl ?_ | refine c_ret ?_ | refine p_then_ret ?_ | refine p_block_ret ?_ | refine p_end ?_ | refine c_if_t rfl (by omega) ?_ | refine c_if_f rfl (by omega) ?_)
  refine t_e (e_boxA rfl) rfl rfl rfl ?_
  rintro _ _ ⟨b3, hb3, rfl, rfl⟩
  repeat (first | (show OpsS _ _ _ _ _ _ (_ :: _) _ _ _; first | refine ozq ?_ | refine ozn ?_) | refine c_seq ?_ | refine p_then ?_ | refine c_region ?_ | refine s_nil ?_ | refine c_cond_t rfl ?_ | refine c_cond_f rfl ?_ | refine c_block ?_ | refine c_skip ?_ | refine c_exit ?_ | refine p_block ?_ | refine p_then_exit ?_ | refine p_block_here ?_ | refine p_block_on rfl ?_ | refine c_ret ?_ | refine p_then_ret ?_ | refine p_block_ret ?_ | refine p_end ?_ | refine c_if_t rfl (by omega) ?_ | refine c_if_f rfl (by omega) ?_)
  refine t_e e_alloc rfl rfl rfl ?_; rintro _ _ ⟨b4, _, rfl, rfl⟩
  repeat (first | (show OpsS _ _ _ _ _ _ (_ :: _) _ _ _; first | refine ozq ?_ | refine ozn ?_) | refine c_seq ?_ | refine p_then ?_ | refine c_region ?_ | refine s_nil ?_ | refine c_cond_t rfl ?_ | refine c_cond_f rfl ?_ | refine c_block ?_ | refine c_skip ?_ | refine c_exit ?_ | refine p_block ?_ | refine p_then_exit ?_ | refine p_block_here ?_ | refine p_block_on rfl ?_ | refine c_ret ?_ | refine p_then_ret ?_ | refine p_block_ret ?_ | refine p_end ?_ | refine c_if_t rfl (by omega) ?_ | refine c_if_f rfl (by omega) ?_)
  refine t_q (q_call rfl rfl fun l2 hl2 => of_nil s l2) rfl rfl rfl ?_
  repeat (first | (show OpsS _ _ _ _ _ _ (_ :: _) _ _ _; first | refine ozq ?_ | refine ozn ?_) | refine c_seq ?_ | refine p_then ?_ | refine c_region ?_ | refine s_nil ?_ | refine c_cond_t rfl ?_ | refine c_cond_f rfl ?_ | refine c_block ?_ | refine c_skip ?_ | refine c_exit ?_ | refine p_block ?_ | refine p_then_exit ?_ | refine p_block_here ?_ | refine p_block_on rfl ?_ | refine c_ret ?_ | refine p_then_ret ?_ | refine p_block_ret ?_ | refine p_end ?_ | refine c_if_t rfl (by omega) ?_ | refine c_if_f rfl (by omega) ?_)
  exact k_ret2 [] ((b4, .cells (List.toArray (encT (0, 0))) 29 (0, 0)) :: slC b3 s :: l) rfl (l' := l) .refl (by (repeat (first | apply ResS.nil | (apply rs_tmp; (· rfl)) | (apply rs_cell1; (· rfl); (· ((repeat (first | with_reducible apply List.mem_cons_self | with_reducible apply List.mem_cons_of_mem)); try with_reducible assumption)); (· rfl)) | (apply rs_cellA; (· rfl); (· ((repeat (first | with_reducible apply List.mem_cons_self | with_reducible apply List.mem_cons_of_mem)); try with_reducible assumption)); (· (repeat (first | with_reducible apply LSub.done | with_reducible apply LSub.take | with_reducible apply LSub.drop))))))) (.drop (.drop .refl)) ⟨rfl, rfl⟩
end Go.Proofs.Ytidkpfkkljcnaaa
