/- The tree: Swap. -/
import Derived.Test.YtidkpfkkljcnaaaU0
import Derived.Test.YtidkpfkkljcnaaaJ8
set_option linter.unusedVariables false
set_option linter.unusedSimpArgs false
namespace Go.Proofs.Ytidkpfkkljcnaaa
open Go.RowKit

section
variable {P : Program} {ro : Option Nat} {N : Nat} {fr : Fr} {R : List Chunk} {d : Option Nat} {ty t t2 : TypeId} {pos : String} {aft : Array Edge} {g : Option (Nat × Bool)} {x y : Operand}
theorem q_eqnilL {p : Option Addr} {e : Nat} (hx : ev fr x = some (.pointer none)) (hy : ev fr y = some (.pointer p)) [c : PT P t e] : OpQ P ro N fr R ⟨d, .binOp .eql t x y t2, ty, pos, aft, g⟩ (.bool p.isNone) := opQ_of_sl rfl fun ρ l hρ _ => by
  simp only [execOp, hρ x _ hx, hρ y _ hy, sl_bind, eqGuard_ptr, sl_pure, binOp]
  unfold Op.equal Op.maxDepth Op.equalIn
  rw [sl_under (ptV_spec c.out)]
  cases p <;> exact ⟨rfl, rfl⟩
end
theorem eqp_t (q : Nat) : decide ((⟨q, 0, none⟩ : Addr) = ⟨q, 0, none⟩) = true := decide_eq_true rfl
theorem eqp_f {q r : Nat} (h : q ≠ r) : decide ((⟨q, 0, none⟩ : Addr) = ⟨r, 0, none⟩) = false := decide_eq_false fun e => h (by injection e)
theorem set_has {κ : Type} [DecidableEq κ] {a : κ} {u : Value} {es : List (EntS κ)} {clock : Nat} (hk : KeysOk es clock) (h : getS a es = some u) (v : Value) : ∃ A e B, es = A ++ e :: B ∧ e.1 = a ∧ (∀ x ∈ A, x.1 ≠ a) ∧ (∀ x ∈ A, x.2.2 ≠ e.2.2) ∧ A ++ (e.1, v, e.2.2) :: B = (setS a v clock es).1 ∧ (setS a v clock es).2 = clock := by
  unfold getS at h
  cases hf : findS a es 0 with
  | none => rw [hf] at h; cases h
  | some p =>
    obtain ⟨k, w⟩ := p
    obtain ⟨A, e, B, rfl, rfl, h1, h2, h3⟩ := findS_some hf
    have hm : (A ++ e :: B).modify A.length (fun x => (x.1, v, x.2.2)) = A ++ (e.1, v, e.2.2) :: B := modify_mid _ e B A
    refine ⟨A, e, B, rfl, h1, h3, fun x hx e' => ?_, ?_, ?_⟩
    · have hs := hk.stamps
      rw [List.map_append, List.map_cons] at hs
      exact (List.nodup_append.1 hs).2.2 _ (List.mem_map.2 ⟨x, hx, rfl⟩) _ List.mem_cons_self e'
    · unfold setS; rw [hf]; exact hm.symm
    · unfold setS; rw [hf]
def swpS (a c : SlotT) (x : SlotT × Int) : SlotT × Int := if x.1 = a then (c, x.2) else if x.1 = c then (a, x.2) else x
def swapD (D : DT) (a c : SlotT) : DT := D.map (swpS a c)
theorem swpS_self (a : SlotT) (x : SlotT × Int) : swpS a a x = x := by
  unfold swpS
  by_cases h : x.1 = a
  · rw [if_pos h, ← h]
  · rw [if_neg h, if_neg h]
def swf (a c s : SlotT) : SlotT := if s = a then c else if s = c then a else s
theorem swpS_fst (a c : SlotT) (x : SlotT × Int) : (swpS a c x).1 = swf a c x.1 := by
  unfold swpS swf
  by_cases h : x.1 = a
  · rw [if_pos h, if_pos h]
  · rw [if_neg h, if_neg h]
    by_cases h2 : x.1 = c
    · rw [if_pos h2, if_pos h2]
    · rw [if_neg h2, if_neg h2]
theorem swf_swf (a c s : SlotT) : swf a c (swf a c s) = s := by
  unfold swf
  by_cases h : s = a
  · rw [if_pos h]
    by_cases h3 : c = a
    · rw [if_pos h3, h, h3]
    · rw [if_neg h3, if_pos rfl, h]
  · rw [if_neg h]
    by_cases h2 : s = c
    · rw [if_pos h2, if_pos rfl, h2]
    · rw [if_neg h2, if_neg h, if_neg h2]
theorem swpS_inj {a c : SlotT} {x y : SlotT × Int} (h : (swpS a c x).1 = (swpS a c y).1) : x.1 = y.1 := by
  rw [swpS_fst, swpS_fst] at h
  rw [← swf_swf a c x.1, h, swf_swf]
theorem swpS_comm (a c : SlotT) (x : SlotT × Int) : swpS a c x = swpS c a x := by
  unfold swpS
  by_cases h : x.1 = a
  · by_cases h2 : x.1 = c
    · rw [if_pos h, if_pos h2, ← h, ← h2]
    · rw [if_pos h, if_neg h2, if_pos h]
  · rw [if_neg h, if_neg h]
theorem swapD_comm (D : DT) (a c : SlotT) : swapD D a c = swapD D c a := List.map_congr_left fun x _ => swpS_comm a c x
theorem swapD_id {F : Nat → NdT} {os : List Nat} {a c : SlotT} (ha : ∀ q, q ∈ os → (F q).sl ≠ a) (hc : ∀ q, q ∈ os → (F q).sl ≠ c) : swapD (dOf F os) a c = dOf F os := by
  unfold swapD dOf
  rw [List.map_map]
  exact List.map_congr_left fun q hq => by
    show swpS a c ((F q).sl, (F q).dp) = _
    unfold swpS
    rw [if_neg (ha q hq), if_neg (hc q hq)]
theorem swap_move {b rb m : Nat} {F : Nat → NdT} {all os : List Nat} {es : List (EntS SlotT)} {clock : Nat} {lq : List Chunk} (hT : TB b rb m F all os es clock lq) {a c : SlotT} {p : Nat} (h1 : blk F os a = some p) (h2 : blk F os c = none) : moveD (dOf F os) a c = (0, swapD (dOf F os) a c) := by
  unfold moveD
  obtain ⟨A, B, rfl, hs⟩ := split_blk h1
  have hps := (blk_some h1).2
  rw [hs]
  simp only
  rw [has_blk, h2]
  simp only [Option.isSome_none, Bool.false_eq_true, if_false]
  obtain ⟨uA, uB⟩ := hT.uniq
  rw [hps] at uA uB
  have hno := blk_none h2
  have e : swapD (dOf F (A ++ p :: B)) a c = swapD (dOf F A) a c ++ swpS a c ((F p).sl, (F p).dp) :: swapD (dOf F B) a c := by
    unfold swapD dOf; rw [List.map_append, List.map_cons, List.map_append, List.map_cons]
  rw [e, swapD_id uA fun q hq => hno q (List.mem_append_left _ hq), swapD_id uB fun q hq => hno q (List.mem_append_right _ (.tail _ hq))]
  congr 3
  unfold swpS; rw [if_pos hps]
set_option pp.deepTerms false
set_option pp.deepTerms.threshold 4
set_option maxHeartbeats 400000
theorem swap_any (b : Nat) (D : DT) (lq : List Chunk) (hq : IsT b D lq) (a c : SlotT) (G : List Chunk) :
    Fn Try.prog 13 [.pointer (some ⟨b, 0, none⟩), .agg (List.toArray (encT a)), .agg (List.toArray (encT c))] (lq ++ G) fun v l' => v = .int .i64 0 ∧ ∃ lq', IsT b (swapD D a c) lq' ∧ l' = lq' ++ G := by
  have hq0 := hq
  obtain ⟨rb, m, F, all, os, es, clock, rfl, hT⟩ := hq
  refine fn_of_body Try.func13 rfl rfl fun E => ?_
  simp only [argF, Try.ntmps13]
  repeat (first | (show OpsS _ _ _ _ _ _ (_ :: _) _ _ _; first | refine ozq ?_) | refine c_seq ?_ | refine p_then ?_ | refine c_region ?_ | refine s_nil ?_ | refine c_cond_t rfl ?_ | refine c_cond_f rfl ?_ | refine c_block ?_ | refine c_skip ?_ | refine p_block ?_ | refine p_block_here ?_ | refine p_block_on rfl ?_ | refine c_ret ?_ | refine p_then_ret ?_ | refine p_block_ret ?_ | refine p_end ?_ | refine c_if_t rfl (by omega) ?_ | refine c_if_f rfl (by omega) ?_)
  refine t_e (e_boxA rfl) rfl rfl rfl ?_
  rintro _ _ ⟨b4, hb4, rfl, rfl⟩
  repeat (first | (show OpsS _ _ _ _ _ _ (_ :: _) _ _ _; first | refine ozq ?_) | refine c_seq ?_ | refine p_then ?_ | refine c_region ?_ | refine s_nil ?_ | refine c_cond_t rfl ?_ | refine c_cond_f rfl ?_ | refine c_block ?_ | refine c_skip ?_ | refine p_block ?_ | refine p_block_here ?_ | refine p_block_on rfl ?_ | refine c_ret ?_ | refine p_then_ret ?_ | refine p_block_ret ?_ | refine p_end ?_ | refine c_if_t rfl (by omega) ?_ | refine c_if_f rfl (by omega) ?_)
  refine t_e (e_boxA rfl) rfl rfl rfl ?_
  rintro _ _ ⟨b5, hb5, rfl, rfl⟩
  have hk2 : ∀ lq : List Chunk, Keep (lq ++ (slC b5 c :: slC b4 a :: G)) (lq ++ G) := fun lq => Keep.trans (.of_perm (List.perm_append_comm_assoc lq [slC b5 c, slC b4 a] G)) (.drop (.drop .refl))
  refine s_keep (Keep.of_perm (l' := lq ++ (slC b5 c :: slC b4 a :: G)) (List.perm_append_comm_assoc [slC b5 c, slC b4 a] lq G)) ?_
  have hsub : ∀ x, x ∈ lq → x ∈ lq ++ (slC b5 c :: slC b4 a :: G) := fun x hx => List.mem_append_left _ hx
  have hm4 : slC b4 a ∈ lq ++ (slC b5 c :: slC b4 a :: G) := List.mem_append_right _ (.tail _ (.head _))
  have hm5 : slC b5 c ∈ lq ++ (slC b5 c :: slC b4 a :: G) := List.mem_append_right _ (.head _)
  repeat (first | (show OpsS _ _ _ _ _ _ (_ :: _) _ _ _; first | refine ozq ?_) | refine c_seq ?_ | refine p_then ?_ | refine c_region ?_ | refine s_nil ?_ | refine c_cond_t rfl ?_ | refine c_cond_f rfl ?_ | refine c_block ?_ | refine c_skip ?_ | refine p_block ?_ | refine p_block_here ?_ | refine p_block_on rfl ?_ | refine c_ret ?_ | refine p_then_ret ?_ | refine p_block_ret ?_ | refine p_end ?_ | refine c_if_t rfl (by omega) ?_ | refine c_if_f rfl (by omega) ?_)
  refine c_draw [(0, true), (1, true), (2, true), (3, true), (4, true), (5, true), (6, true), (7, true)] [[], [], [0, 1], [], [], [0, 1, 2, 3, 4], [0, 1, 2, 3, 4, 5], [0, 1, 2, 3, 4, 5, 6]] _ (by kernel_rfl) (by kernel_rfl) (by (repeat (first | apply Attach.nil | (apply Attach.cons; · rfl)))) (fun _ h => h) ?_
  repeat (first | refine pl_nil ?_ | (show PlanS _ _ _ _ _ _ _ _ _ _ ((_, true, _) :: _) _ _ _; first | refine pzq ?_) | (show PlanS _ _ _ _ _ _ _ _ none [] ((_, false, _) :: _) _ _ _; first | refine pzn ?_ | refine pze ?_))
  apply pl_q
  · exact q_call rfl rfl fun l2 hl2 => of_any b rb m F all os es clock lq a hT l2 fun x hx => hl2 x (hsub x hx)
  · rfl
  · rfl
  · rfl
  repeat (first | refine pl_nil ?_ | (show PlanS _ _ _ _ _ _ _ _ _ _ ((_, true, _) :: _) _ _ _; first | refine pzq ?_) | (show PlanS _ _ _ _ _ _ _ _ none [] ((_, false, _) :: _) _ _ _; first | refine pzn ?_ | refine pze ?_))
  apply pl_q
  · exact q_call rfl rfl fun l2 hl2 => of_any b rb m F all os es clock lq c hT l2 fun x hx => hl2 x (hsub x hx)
  · rfl
  · rfl
  · rfl
  repeat (first | refine pl_nil ?_ | (show PlanS _ _ _ _ _ _ _ _ _ _ ((_, true, _) :: _) _ _ _; first | refine pzq ?_) | (show PlanS _ _ _ _ _ _ _ _ none [] ((_, false, _) :: _) _ _ _; first | refine pzn ?_ | refine pze ?_))
  cases hba : blk F os a with
  | none =>
    cases hbc : blk F os c with
    | none =>
      rw [swapD_id (blk_none hba) (blk_none hbc)]
      simp only [ptrO]
      repeat (first | (show OpsS _ _ _ _ _ _ (_ :: _) _ _ _; first | refine ozq ?_) | refine c_seq ?_ | refine p_then ?_ | refine c_region ?_ | refine s_nil ?_ | refine c_cond_t rfl ?_ | refine c_cond_f rfl ?_ | refine c_block ?_ | refine c_skip ?_ | refine p_block ?_ | refine p_block_here ?_ | refine p_block_on rfl ?_ | refine c_ret ?_ | refine p_then_ret ?_ | refine p_block_ret ?_ | refine p_end ?_ | refine c_if_t rfl (by omega) ?_ | refine c_if_f rfl (by omega) ?_)
      exact k_ret [] rfl (l' := lq ++ G) (hk2 lq) (by (repeat (first | apply ResS.nil | (apply rs_tmp; (· rfl)) | (apply rs_cell1; (· rfl); (· ((repeat (first | with_reducible apply List.mem_cons_self | with_reducible apply List.mem_cons_of_mem)); try with_reducible assumption)); (· rfl)) | (apply rs_cellA; (· rfl); (· ((repeat (first | with_reducible apply List.mem_cons_self | with_reducible apply List.mem_cons_of_mem)); try with_reducible assumption)); (· (repeat (first | with_reducible apply LSub.done | with_reducible apply LSub.take | with_reducible apply LSub.drop))))))) ⟨rfl, lq, hq0, rfl⟩
    | some y =>
      simp only [ptrO]
      repeat (first | (show OpsS _ _ _ _ _ _ (_ :: _) _ _ _; first | refine ozq ?_) | refine c_seq ?_ | refine p_then ?_ | refine c_region ?_ | refine s_nil ?_ | refine c_cond_t rfl ?_ | refine c_cond_f rfl ?_ | refine c_block ?_ | refine c_skip ?_ | refine p_block ?_ | refine p_block_here ?_ | refine p_block_on rfl ?_ | refine c_ret ?_ | refine p_then_ret ?_ | refine p_block_ret ?_ | refine p_end ?_ | refine c_if_t rfl (by omega) ?_ | refine c_if_f rfl (by omega) ?_)
      refine t_q (q_eqnilL rfl rfl) rfl rfl rfl ?_
      repeat (first | (show OpsS _ _ _ _ _ _ (_ :: _) _ _ _; first | refine ozq ?_) | refine c_seq ?_ | refine p_then ?_ | refine c_region ?_ | refine s_nil ?_ | refine c_cond_t rfl ?_ | refine c_cond_f rfl ?_ | refine c_block ?_ | refine c_skip ?_ | refine p_block ?_ | refine p_block_here ?_ | refine p_block_on rfl ?_ | refine c_ret ?_ | refine p_then_ret ?_ | refine p_block_ret ?_ | refine p_end ?_ | refine c_if_t rfl (by omega) ?_ | refine c_if_f rfl (by omega) ?_)
      have hmv := move_any b (dOf F os) lq hq0 c a (slC b5 c :: slC b4 a :: G)
      rw [swap_move hT hbc hba, swapD_comm] at hmv
      refine t_e (e_call0 rfl rfl hmv) rfl rfl rfl ?_
      rintro _ _ ⟨rfl, lq', hq', rfl⟩
      repeat (first | (show OpsS _ _ _ _ _ _ (_ :: _) _ _ _; first | refine ozq ?_) | refine c_seq ?_ | refine p_then ?_ | refine c_region ?_ | refine s_nil ?_ | refine c_cond_t rfl ?_ | refine c_cond_f rfl ?_ | refine c_block ?_ | refine c_skip ?_ | refine p_block ?_ | refine p_block_here ?_ | refine p_block_on rfl ?_ | refine c_ret ?_ | refine p_then_ret ?_ | refine p_block_ret ?_ | refine p_end ?_ | refine c_if_t rfl (by omega) ?_ | refine c_if_f rfl (by omega) ?_)
      exact k_ret [] rfl (l' := lq' ++ G) (hk2 lq') (by (repeat (first | apply ResS.nil | (apply rs_tmp; (· rfl)) | (apply rs_cell1; (· rfl); (· ((repeat (first | with_reducible apply List.mem_cons_self | with_reducible apply List.mem_cons_of_mem)); try with_reducible assumption)); (· rfl)) | (apply rs_cellA; (· rfl); (· ((repeat (first | with_reducible apply List.mem_cons_self | with_reducible apply List.mem_cons_of_mem)); try with_reducible assumption)); (· (repeat (first | with_reducible apply LSub.done | with_reducible apply LSub.take | with_reducible apply LSub.drop))))))) ⟨rfl, lq', hq', rfl⟩
  | some x =>
    cases hbc : blk F os c with
    | none =>
      simp only [ptrO]
      repeat (first | (show OpsS _ _ _ _ _ _ (_ :: _) _ _ _; first | refine ozq ?_) | refine c_seq ?_ | refine p_then ?_ | refine c_region ?_ | refine s_nil ?_ | refine c_cond_t rfl ?_ | refine c_cond_f rfl ?_ | refine c_block ?_ | refine c_skip ?_ | refine p_block ?_ | refine p_block_here ?_ | refine p_block_on rfl ?_ | refine c_ret ?_ | refine p_then_ret ?_ | refine p_block_ret ?_ | refine p_end ?_ | refine c_if_t rfl (by omega) ?_ | refine c_if_f rfl (by omega) ?_)
      have hmv := move_any b (dOf F os) lq hq0 a c (slC b5 c :: slC b4 a :: G)
      rw [swap_move hT hba hbc] at hmv
      refine t_e (e_call0 rfl rfl hmv) rfl rfl rfl ?_
      rintro _ _ ⟨rfl, lq', hq', rfl⟩
      repeat (first | (show OpsS _ _ _ _ _ _ (_ :: _) _ _ _; first | refine ozq ?_) | refine c_seq ?_ | refine p_then ?_ | refine c_region ?_ | refine s_nil ?_ | refine c_cond_t rfl ?_ | refine c_cond_f rfl ?_ | refine c_block ?_ | refine c_skip ?_ | refine p_block ?_ | refine p_block_here ?_ | refine p_block_on rfl ?_ | refine c_ret ?_ | refine p_then_ret ?_ | refine p_block_ret ?_ | refine p_end ?_ | refine c_if_t rfl (by omega) ?_ | refine c_if_f rfl (by omega) ?_)
      exact k_ret [] rfl (l' := lq' ++ G) (hk2 lq') (by (repeat (first | apply ResS.nil | (apply rs_tmp; (· rfl)) | (apply rs_cell1; (· rfl); (· ((repeat (first | with_reducible apply List.mem_cons_self | with_reducible apply List.mem_cons_of_mem)); try with_reducible assumption)); (· rfl)) | (apply rs_cellA; (· rfl); (· ((repeat (first | with_reducible apply List.mem_cons_self | with_reducible apply List.mem_cons_of_mem)); try with_reducible assumption)); (· (repeat (first | with_reducible apply LSub.done | with_reducible apply LSub.take | with_reducible apply LSub.drop))))))) ⟨rfl, lq', hq', rfl⟩
    | some y =>
      have hxs := blk_some hba
      have hys := blk_some hbc
      have hxa : x ∈ all := hT.sub x hxs.1
      have hya : y ∈ all := hT.sub y hys.1
      simp only [ptrO]
      repeat (first | (show OpsS _ _ _ _ _ _ (_ :: _) _ _ _; first | refine ozq ?_) | refine c_seq ?_ | refine p_then ?_ | refine c_region ?_ | refine s_nil ?_ | refine c_cond_t rfl ?_ | refine c_cond_f rfl ?_ | refine c_block ?_ | refine c_skip ?_ | refine p_block ?_ | refine p_block_here ?_ | refine p_block_on rfl ?_ | refine c_ret ?_ | refine p_then_ret ?_ | refine p_block_ret ?_ | refine p_end ?_ | refine c_if_t rfl (by omega) ?_ | refine c_if_f rfl (by omega) ?_)
      refine t_q (q_eqptr rfl rfl (by decide) (hsub _ (hT.m3 hxa)) (hsub _ (hT.m3 hya))) rfl rfl rfl ?_
      by_cases hac : a = c
      · subst hac
        rw [hba] at hbc
        obtain rfl : x = y := Option.some.inj hbc
        rw [eqp_t, show swapD (dOf F os) a a = dOf F os by unfold swapD; rw [List.map_congr_left fun z _ => swpS_self a z, List.map_id']]
        repeat (first | (show OpsS _ _ _ _ _ _ (_ :: _) _ _ _; first | refine ozq ?_) | refine c_seq ?_ | refine p_then ?_ | refine c_region ?_ | refine s_nil ?_ | refine c_cond_t rfl ?_ | refine c_cond_f rfl ?_ | refine c_block ?_ | refine c_skip ?_ | refine p_block ?_ | refine p_block_here ?_ | refine p_block_on rfl ?_ | refine c_ret ?_ | refine p_then_ret ?_ | refine p_block_ret ?_ | refine p_end ?_ | refine c_if_t rfl (by omega) ?_ | refine c_if_f rfl (by omega) ?_)
        exact k_ret [] rfl (l' := lq ++ G) (hk2 lq) (by (repeat (first | apply ResS.nil | (apply rs_tmp; (· rfl)) | (apply rs_cell1; (· rfl); (· ((repeat (first | with_reducible apply List.mem_cons_self | with_reducible apply List.mem_cons_of_mem)); try with_reducible assumption)); (· rfl)) | (apply rs_cellA; (· rfl); (· ((repeat (first | with_reducible apply List.mem_cons_self | with_reducible apply List.mem_cons_of_mem)); try with_reducible assumption)); (· (repeat (first | with_reducible apply LSub.done | with_reducible apply LSub.take | with_reducible apply LSub.drop))))))) ⟨rfl, lq, hq0, rfl⟩
      · have hxy : x ≠ y := fun e => hac (by rw [← hxs.2, ← hys.2, e])
        rw [eqp_f hxy]
        repeat (first | (show OpsS _ _ _ _ _ _ (_ :: _) _ _ _; first | refine ozq ?_) | refine c_seq ?_ | refine p_then ?_ | refine c_region ?_ | refine s_nil ?_ | refine c_cond_t rfl ?_ | refine c_cond_f rfl ?_ | refine c_block ?_ | refine c_skip ?_ | refine p_block ?_ | refine p_block_here ?_ | refine p_block_on rfl ?_ | refine c_ret ?_ | refine p_then_ret ?_ | refine p_block_ret ?_ | refine p_end ?_ | refine c_if_t rfl (by omega) ?_ | refine c_if_f rfl (by omega) ?_)
        refine c_keep (l' := trC b rb m :: slC b5 c :: slC b4 a :: (m, mapS encT es clock) :: (chs F all ++ G)) ?_ ?_
        · rw [hT.eq]
          refine Keep.of_perm (List.Perm.cons _ ?_)
          exact List.perm_append_comm_assoc ((m, mapS encT es clock) :: chs F all) [slC b5 c, slC b4 a] G
        obtain ⟨F1, hF1⟩ : ∃ F1, F1 = upd F x { F x with sl := c } := ⟨_, rfl⟩
        obtain ⟨F2, hF2⟩ : ∃ F2, F2 = upd F1 y { F1 y with sl := a } := ⟨_, rfl⟩
        repeat (first | (show OpsS _ _ _ _ _ _ (_ :: _) _ _ _; first | refine ozq ?_) | refine c_seq ?_ | refine p_then ?_ | refine c_region ?_ | refine s_nil ?_ | refine c_cond_t rfl ?_ | refine c_cond_f rfl ?_ | refine c_block ?_ | refine c_skip ?_ | refine p_block ?_ | refine p_block_here ?_ | refine p_block_on rfl ?_ | refine c_ret ?_ | refine p_then_ret ?_ | refine p_block_ret ?_ | refine p_end ?_ | refine c_if_t rfl (by omega) ?_ | refine c_if_f rfl (by omega) ?_)
        refine c_draw [(0, true), (1, true), (2, true), (3, true), (4, true), (5, true), (6, false), (7, true), (8, true), (9, false)] [[], [], [], [], [0, 2], [0, 2, 4], [0, 2, 4, 5], [0, 1, 2, 3, 4, 5, 6], [0, 1, 2, 3, 4, 5, 6, 7], [0, 1, 2, 3, 4, 5, 6, 7, 8]] ([slC b5 c, slC b4 a]) (by kernel_rfl) (by kernel_rfl) (by (repeat (first | apply Attach.nil | (apply Attach.cons; · rfl)))) (List.Sublist.subset (by (repeat (first | with_reducible apply List.Sublist.refl | with_reducible apply List.nil_sublist | with_reducible apply List.Sublist.cons_cons | with_reducible apply List.Sublist.cons)))) ?_
        repeat (first | refine pl_nil ?_ | (show PlanS _ _ _ _ _ _ _ _ _ _ ((_, true, _) :: _) _ _ _; first | refine pzq ?_) | (show PlanS _ _ _ _ _ _ _ _ none [] ((_, false, _) :: _) _ _ _; first | refine pzn ?_ | refine pze ?_))
        apply pl_n
        · exact e_storeA (b := x) (off := 0) (cs := List.toArray (F x).cells) (n := 2) rfl rfl rfl (by simp [Value.oneCell']) (.there (.there (.there (.there (upd_left (chs_upd { F x with sl := c } hT.nd hxa) _))))) (by simp)
        · rfl
        · rfl
        · rintro _ _ ⟨rfl, rfl⟩; exact (List.Sublist.subset (by (repeat (first | with_reducible apply List.Sublist.refl | with_reducible apply List.nil_sublist | with_reducible apply List.Sublist.cons_cons | with_reducible apply List.Sublist.cons))))
        rintro _ _ ⟨rfl, rfl⟩
        rw [← hF1]
        repeat (first | refine pl_nil ?_ | (show PlanS _ _ _ _ _ _ _ _ _ _ ((_, true, _) :: _) _ _ _; first | refine pzq ?_) | (show PlanS _ _ _ _ _ _ _ _ none [] ((_, false, _) :: _) _ _ _; first | refine pzn ?_ | refine pze ?_))
        apply pl_n
        · exact e_storeA (b := y) (off := 0) (cs := List.toArray (F1 y).cells) (n := 2) rfl rfl rfl (by simp [Value.oneCell']) (.there (.there (.there (.there (upd_left (chs_upd { F1 y with sl := a } hT.nd hya) _))))) (by simp)
        · rfl
        · rfl
        · rintro _ _ ⟨rfl, rfl⟩; exact (List.Sublist.subset (by (repeat (first | with_reducible apply List.Sublist.refl | with_reducible apply List.nil_sublist | with_reducible apply List.Sublist.cons_cons | with_reducible apply List.Sublist.cons))))
        rintro _ _ ⟨rfl, rfl⟩
        rw [← hF2]
        repeat (first | refine pl_nil ?_ | (show PlanS _ _ _ _ _ _ _ _ _ _ ((_, true, _) :: _) _ _ _; first | refine pzq ?_) | (show PlanS _ _ _ _ _ _ _ _ none [] ((_, false, _) :: _) _ _ _; first | refine pzn ?_ | refine pze ?_))
        obtain ⟨A1, e1, B1, k1, k2, k3, k4, k5, k6⟩ := set_has (v := .pointer (some ⟨y, 0, none⟩)) hT.keys (a := a) (u := .pointer (some ⟨x, 0, none⟩)) (by rw [hT.get]; show (blk F os a).map _ = _; rw [hba]; rfl)
        have hkeys1 := hT.keys.set a (.pointer (some ⟨y, 0, none⟩))
        rw [k6] at hkeys1
        obtain ⟨A2, e2, B2, j1, j2, j3, j4, j5, j6⟩ := set_has (v := .pointer (some ⟨x, 0, none⟩)) hkeys1 (a := c) (u := .pointer (some ⟨y, 0, none⟩)) (by rw [getS_set, if_neg (fun e => hac e.symm), hT.get]; show (blk F os c).map _ = _; rw [hbc]; rfl)
        have hkeys2 := hkeys1.set c (.pointer (some ⟨x, 0, none⟩))
        rw [j6] at hkeys2
        obtain ⟨es1, hes1⟩ : ∃ es1, es1 = (setS a (.pointer (some ⟨y, 0, none⟩)) clock es).1 := ⟨_, rfl⟩
        obtain ⟨es2, hes2⟩ : ∃ es2, es2 = (setS c (.pointer (some ⟨x, 0, none⟩)) clock es1).1 := ⟨_, rfl⟩
        rw [← hes1] at k5 hkeys1 j1 j5 hkeys2
        rw [← hes2] at j5 hkeys2
        repeat (first | (show OpsS _ _ _ _ _ _ (_ :: _) _ _ _; first | refine ozq ?_) | refine c_seq ?_ | refine p_then ?_ | refine c_region ?_ | refine s_nil ?_ | refine c_cond_t rfl ?_ | refine c_cond_f rfl ?_ | refine c_block ?_ | refine c_skip ?_ | refine p_block ?_ | refine p_block_here ?_ | refine p_block_on rfl ?_ | refine c_ret ?_ | refine p_then_ret ?_ | refine p_block_ret ?_ | refine p_end ?_ | refine c_if_t rfl (by omega) ?_ | refine c_if_f rfl (by omega) ?_)
        refine c_draw [(0, true), (1, true), (2, true), (3, true), (4, true), (5, true), (6, true), (7, true), (8, true), (9, true), (10, true), (11, true), (12, false), (13, true), (14, false), (15, false), (16, true), (17, false)] [[], [0], [0, 1], [0, 1, 2], [], [], [5], [5, 6], [5, 6, 7], [], [], [], [0, 1, 2, 3, 4, 5, 6, 7, 8], [0, 1, 2, 3, 4, 5, 6, 7, 8, 12], [0, 1, 2, 3, 4, 5, 6, 7, 8, 10, 12, 13], [0, 1, 2, 3, 4, 5, 6, 7, 8, 9, 10, 12, 13, 14], [0, 1, 2, 3, 4, 5, 6, 7, 8, 9, 10, 12, 13, 14, 15], [0, 1, 2, 3, 4, 5, 6, 7, 8, 9, 10, 11, 12, 13, 14, 15, 16]] ([trC b rb m, slC b5 c, slC b4 a]) (by kernel_rfl) (by kernel_rfl) (by (repeat (first | apply Attach.nil | (apply Attach.cons; · rfl)))) (List.Sublist.subset (by (repeat (first | with_reducible apply List.Sublist.refl | with_reducible apply List.nil_sublist | with_reducible apply List.Sublist.cons_cons | with_reducible apply List.Sublist.cons)))) ?_
        repeat (first | refine pl_nil ?_ | (show PlanS _ _ _ _ _ _ _ _ _ _ ((_, true, _) :: _) _ _ _; first | refine pzq ?_) | (show PlanS _ _ _ _ _ _ _ _ none [] ((_, false, _) :: _) _ _ _; first | refine pzn ?_ | refine pze ?_))
        apply pl_e
        · apply e_mapEntryS (enc := encT) (a := a) (es := es) (clock := clock) (ks := [some .i64, some .i64]) (A := A1) (e := e1) (B := B1) (m := m) (l' := [])
          · rfl
          · rfl
          · exact encT_ok
          · exact k1
          · exact k2
          · exact k3
          · ((repeat (first | with_reducible apply List.mem_cons_self | with_reducible apply List.mem_cons_of_mem)); try with_reducible assumption)
        · rfl
        · rfl
        · rfl
        · rintro _ _ ⟨rfl, rfl⟩; exact (List.Sublist.subset (by (repeat (first | with_reducible apply List.Sublist.refl | with_reducible apply List.nil_sublist | with_reducible apply List.Sublist.cons_cons | with_reducible apply List.Sublist.cons))))
        rintro _ _ ⟨rfl, rfl⟩
        repeat (first | refine pl_nil ?_ | (show PlanS _ _ _ _ _ _ _ _ _ _ ((_, true, _) :: _) _ _ _; first | refine pzq ?_) | (show PlanS _ _ _ _ _ _ _ _ none [] ((_, false, _) :: _) _ _ _; first | refine pzn ?_ | refine pze ?_))
        apply pl_n
        · apply e_entryStoreS (enc := encT) (es := es) (clock := clock) (A := A1) (e := e1) (B := B1) (m := m) (v := .pointer (some ⟨y, 0, none⟩))
          · rfl
          · rfl
          · rfl
          · exact k1
          · exact k4
          · rw [k5]; (repeat (first | apply Upd.here | apply Upd.there))
        · rfl
        · rfl
        · rintro _ _ ⟨rfl, rfl⟩; exact (List.Sublist.subset (by (repeat (first | with_reducible apply List.Sublist.refl | with_reducible apply List.nil_sublist | with_reducible apply List.Sublist.cons_cons | with_reducible apply List.Sublist.cons))))
        rintro _ _ ⟨rfl, rfl⟩
        repeat (first | refine pl_nil ?_ | (show PlanS _ _ _ _ _ _ _ _ _ _ ((_, true, _) :: _) _ _ _; first | refine pzq ?_) | (show PlanS _ _ _ _ _ _ _ _ none [] ((_, false, _) :: _) _ _ _; first | refine pzn ?_ | refine pze ?_))
        apply pl_e
        · apply e_mapEntryS (enc := encT) (a := c) (es := es1) (clock := clock) (ks := [some .i64, some .i64]) (A := A2) (e := e2) (B := B2) (m := m) (l' := [])
          · rfl
          · rfl
          · exact encT_ok
          · exact j1
          · exact j2
          · exact j3
          · ((repeat (first | with_reducible apply List.mem_cons_self | with_reducible apply List.mem_cons_of_mem)); try with_reducible assumption)
        · rfl
        · rfl
        · rfl
        · rintro _ _ ⟨rfl, rfl⟩; exact (List.Sublist.subset (by (repeat (first | with_reducible apply List.Sublist.refl | with_reducible apply List.nil_sublist | with_reducible apply List.Sublist.cons_cons | with_reducible apply List.Sublist.cons))))
        rintro _ _ ⟨rfl, rfl⟩
        repeat (first | refine pl_nil ?_ | (show PlanS _ _ _ _ _ _ _ _ _ _ ((_, true, _) :: _) _ _ _; first | refine pzq ?_) | (show PlanS _ _ _ _ _ _ _ _ none [] ((_, false, _) :: _) _ _ _; first | refine pzn ?_ | refine pze ?_))
        apply pl_n
        · apply e_entryStoreS (enc := encT) (es := es1) (clock := clock) (A := A2) (e := e2) (B := B2) (m := m) (v := .pointer (some ⟨x, 0, none⟩))
          · rfl
          · rfl
          · rfl
          · exact j1
          · exact j4
          · rw [j5]; (repeat (first | apply Upd.here | apply Upd.there))
        · rfl
        · rfl
        · rintro _ _ ⟨rfl, rfl⟩; exact (List.Sublist.subset (by (repeat (first | with_reducible apply List.Sublist.refl | with_reducible apply List.nil_sublist | with_reducible apply List.Sublist.cons_cons | with_reducible apply List.Sublist.cons))))
        rintro _ _ ⟨rfl, rfl⟩
        repeat (first | refine pl_nil ?_ | (show PlanS _ _ _ _ _ _ _ _ _ _ ((_, true, _) :: _) _ _ _; first | refine pzq ?_) | (show PlanS _ _ _ _ _ _ _ _ none [] ((_, false, _) :: _) _ _ _; first | refine pzn ?_ | refine pze ?_))
        repeat (first | (show OpsS _ _ _ _ _ _ (_ :: _) _ _ _; first | refine ozq ?_) | refine c_seq ?_ | refine p_then ?_ | refine c_region ?_ | refine s_nil ?_ | refine c_cond_t rfl ?_ | refine c_cond_f rfl ?_ | refine c_block ?_ | refine c_skip ?_ | refine p_block ?_ | refine p_block_here ?_ | refine p_block_on rfl ?_ | refine c_ret ?_ | refine p_then_ret ?_ | refine p_block_ret ?_ | refine p_end ?_ | refine c_if_t rfl (by omega) ?_ | refine c_if_f rfl (by omega) ?_)
        have elx : (F2 x).sl = c := by rw [hF2, upd_other _ _ _ _ hxy, hF1, upd_same]
        have ely : (F2 y).sl = a := by rw [hF2, upd_same]
        have elo : ∀ q, q ≠ x → q ≠ y → (F2 q).sl = (F q).sl := fun q h1 h2 => by rw [hF2, upd_other _ _ _ _ h2, hF1, upd_other _ _ _ _ h1]
        have el : ∀ q, (F2 q).nx = (F q).nx ∧ (F2 q).pv = (F q).pv ∧ (F2 q).dp = (F q).dp := fun q => by
          rw [hF2, hF1]; unfold upd; split <;> split <;> simp_all
        have hun : ∀ q r, q ∈ os → r ∈ os → (F q).sl = (F r).sl → q = r := fun q r hq hr e => by
          obtain ⟨A, B, rfl⟩ := List.append_of_mem hr
          obtain ⟨uA, uB⟩ := hT.uniq
          rcases List.mem_append.1 hq with hq | hq
          · exact absurd e (uA q hq)
          · rcases List.mem_cons.1 hq with rfl | hq
            · rfl
            · exact absurd e (uB q hq)
        have hsw : ∀ q, q ∈ os → ((F2 q).sl, (F2 q).dp) = swpS a c ((F q).sl, (F q).dp) := fun q hq => by
          unfold swpS
          by_cases h1 : q = x
          · rw [h1, elx, (el x).2.2]; simp only; rw [if_pos hxs.2]
          · by_cases h2 : q = y
            · rw [h2, ely, (el y).2.2]; simp only; rw [if_neg (by rw [hys.2]; exact fun e => hac e.symm), if_pos hys.2]
            · rw [elo q h1 h2, (el q).2.2]; simp only; rw [if_neg (fun e => h1 (hun q x hq hxs.1 (by rw [e, hxs.2]))), if_neg (fun e => h2 (hun q y hq hys.1 (by rw [e, hys.2])))]
        have hgt : ∀ s', getS s' es2 = (blk F2 os s').map fun p => .pointer (some ⟨p, 0, none⟩) := fun s' => by
          rw [hes2, getS_set, hes1, getS_set, hT.get]
          show (if s' = c then _ else if s' = a then _ else (blk F os s').map _) = _
          have huf : ∀ p, p ∈ os → (F2 p).sl = s' → (∀ q, q ∈ os → (F2 q).sl = s' → q = p) → blk F2 os s' = some p := fun p hp hps hu => by
            cases hb : blk F2 os s' with
            | none => exact absurd hps (blk_none hb p hp)
            | some q => rw [hu q (blk_some hb).1 (blk_some hb).2]
          by_cases h1 : s' = c
          · rw [if_pos h1, huf x hxs.1 (by rw [elx, h1]) fun q hq e => ?_]
            · rfl
            · by_cases hqx : q = x
              · exact hqx
              · by_cases hqy : q = y
                · rw [hqy, ely, h1] at e; exact absurd e hac
                · rw [elo q hqx hqy, h1, ← hys.2] at e
                  exact absurd (hun q y hq hys.1 e) hqy
          · rw [if_neg h1]
            by_cases h2 : s' = a
            · rw [if_pos h2, huf y hys.1 (by rw [ely, h2]) fun q hq e => ?_]
              · rfl
              · by_cases hqy : q = y
                · exact hqy
                · by_cases hqx : q = x
                  · rw [hqx, elx, h2] at e; exact absurd e.symm hac
                  · rw [elo q hqx hqy, h2, ← hxs.2] at e
                    exact absurd (hun q x hq hxs.1 e) hqx
            · rw [if_neg h2]
              cases hb : blk F os s' with
              | none =>
                rw [blk_none_iff.2 fun q hq e => ?_]
                by_cases hqx : q = x
                · rw [hqx, elx] at e; exact h1 e.symm
                · by_cases hqy : q = y
                  · rw [hqy, ely] at e; exact h2 e.symm
                  · rw [elo q hqx hqy] at e; exact blk_none hb q hq e
              | some p =>
                have hp := blk_some hb
                have hpx : p ≠ x := fun e => h2 (by rw [← hp.2, e, hxs.2])
                have hpy : p ≠ y := fun e => h1 (by rw [← hp.2, e, hys.2])
                rw [huf p hp.1 (by rw [elo p hpx hpy]; exact hp.2) fun q hq e => ?_]
                by_cases hqx : q = x
                · rw [hqx, elx] at e; exact absurd e.symm h1
                · by_cases hqy : q = y
                  · rw [hqy, ely] at e; exact absurd e.symm h2
                  · rw [elo q hqx hqy, ← hp.2] at e; exact hun q p hq hp.1 e
        have hD2 : dOf F2 os = swapD (dOf F os) a c := by
          unfold swapD dOf
          rw [List.map_map]
          exact List.map_congr_left fun q hq => hsw q hq
        have hsn : (os.map fun q => (F2 q).sl).Nodup := by
          rw [List.nodup_iff_pairwise_ne, List.pairwise_map]
          have hn := hT.snd
          rw [List.nodup_iff_pairwise_ne, List.pairwise_map] at hn
          refine hn.imp_of_mem fun {q r} hq hr hne e => hne ?_
          have h1 := hsw q hq
          have h2 := hsw r hr
          have e1 : (swpS a c ((F q).sl, (F q).dp)).1 = (swpS a c ((F r).sl, (F r).dp)).1 := by rw [← h1, ← h2]; exact e
          exact swpS_inj e1
        obtain ⟨lq', hlq'⟩ : ∃ lq', lq' = trC b rb m :: (m, mapS encT es2 clock) :: chs F2 all := ⟨_, rfl⟩
        refine k_ret [] rfl (l' := lq' ++ G) ?_ (by (repeat (first | apply ResS.nil | (apply rs_tmp; (· rfl)) | (apply rs_cell1; (· rfl); (· ((repeat (first | with_reducible apply List.mem_cons_self | with_reducible apply List.mem_cons_of_mem)); try with_reducible assumption)); (· rfl)) | (apply rs_cellA; (· rfl); (· ((repeat (first | with_reducible apply List.mem_cons_self | with_reducible apply List.mem_cons_of_mem)); try with_reducible assumption)); (· (repeat (first | with_reducible apply LSub.done | with_reducible apply LSub.take | with_reducible apply LSub.drop))))))) ⟨rfl, lq', ⟨rb, m, F2, all, os, es2, clock, hD2, ⟨hlq', hT.nd, hT.rin, hT.sub, hT.ond, adj_same hT.adj (fun u _ => (el u).1) (fun v _ => (el v).2.1), hsn, hkeys2, hgt⟩⟩, rfl⟩
        rw [hlq']
        simp only [List.cons_append]
        ((try simp only [List.cons_append, List.nil_append, List.map_cons, List.map_nil]); repeat (first | with_reducible apply Keep.refl | (apply Keep.pick; · (repeat (first | apply Pick.here | apply Pick.there))) | apply Keep.drop))
end Go.Proofs.Ytidkpfkkljcnaaa
