/- The tree: Move, Remove. -/
import Derived.Test.YtidkpfkkljcnaaaU0
import Derived.Test.YtidkpfkkljcnaaaJ6
set_option linter.unusedVariables false
set_option linter.unusedSimpArgs false
namespace Go.Proofs.Ytidkpfkkljcnaaa
open Go.RowKit

def decW (d : Int) (B : DT) : DT := (B.takeWhile fun x => decide (d < x.2)).map (fun x => (x.1, x.2 - 1)) ++ B.dropWhile fun x => decide (d < x.2)
def removeD (D : DT) (s : SlotT) : Int × DT := match splitD s D with
  | none => (10, D)
  | some (A, d, B) => (0, A ++ decW d B)
def decF (F : Nat → NdT) (pre : List Nat) : Nat → NdT := fun q => if q ∈ pre then { F q with dp := (F q).dp - 1 } else F q
theorem decF_out {F : Nat → NdT} {pre : List Nat} {q : Nat} (h : q ∉ pre) : decF F pre q = F q := if_neg h
theorem decF_snoc {F : Nat → NdT} {pre : List Nat} {y : Nat} (h : y ∉ pre) : upd (decF F pre) y { F y with dp := (F y).dp - 1 } = decF F (pre ++ [y]) := by
  funext q
  unfold upd decF
  by_cases e : q = y
  · subst e; simp [h]
  · simp [e]
theorem decF_links (F : Nat → NdT) (pre : List Nat) (q : Nat) : (decF F pre q).sl = (F q).sl ∧ (decF F pre q).nx = (F q).nx ∧ (decF F pre q).pv = (F q).pv := by
  unfold decF; split <;> exact ⟨rfl, rfl, rfl⟩
theorem dOf_dec {F : Nat → NdT} {d : Int} {B : List Nat} (hn : B.Nodup) : dOf (decF F (B.takeWhile fun q => decide (d < (F q).dp))) B = decW d (dOf F B) := by
  have e1 : (dOf F B).takeWhile (fun x => decide (d < x.2)) = dOf F (B.takeWhile fun q => decide (d < (F q).dp)) := by
    unfold dOf; rw [List.takeWhile_map]; rfl
  have e2 : (dOf F B).dropWhile (fun x => decide (d < x.2)) = dOf F (B.dropWhile fun q => decide (d < (F q).dp)) := by
    unfold dOf; rw [List.dropWhile_map]; rfl
  unfold decW
  rw [e1, e2]
  obtain ⟨tw, htw⟩ : ∃ tw, tw = B.takeWhile fun q => decide (d < (F q).dp) := ⟨_, rfl⟩
  obtain ⟨dw, hdw⟩ : ∃ dw, dw = B.dropWhile fun q => decide (d < (F q).dp) := ⟨_, rfl⟩
  have hB : B = tw ++ dw := by rw [htw, hdw, List.takeWhile_append_dropWhile]
  rw [← htw, ← hdw, hB]
  unfold dOf
  rw [List.map_append, List.map_map]
  congr 1
  · apply List.map_congr_left
    intro q hq
    unfold decF; rw [if_pos hq]; rfl
  · apply List.map_congr_left
    intro q hq
    rw [hB] at hn
    rw [decF_out fun h => (List.nodup_append.1 hn).2.2 q h q hq rfl]
theorem adj_remove {F F' : Nat → NdT} {p x n : Nat} {Z : List Nat} : ∀ {X : List Nat}, Adj F (X ++ p :: x :: n :: Z) → (X ++ p :: x :: n :: Z).dropLast.Nodup → (X ++ p :: x :: n :: Z).tail.Nodup →
    (∀ u, u ≠ p → (F' u).nx = (F u).nx) → (∀ v, v ≠ n → (F' v).pv = (F v).pv) → (F' p).nx = n → (F' n).pv = p → Adj F' (X ++ p :: n :: Z)
  | [], ⟨h1, h2, h3, h4, h5⟩, hs, ht, hn, hp, k1, k2 => by
    refine ⟨k1, k2, adj_same h5 (fun u hu => hn u ?_) fun v hv => hp v ?_⟩
    · rintro rfl
      have : (u :: x :: (n :: Z).dropLast).Nodup := by simpa using hs
      exact (List.nodup_cons.1 this).1 (.tail _ hu)
    · rintro rfl
      have : (x :: v :: Z).Nodup := by simpa using ht
      exact (List.nodup_cons.1 (List.nodup_cons.1 this).2).1 hv
  | [a], ⟨h1, h2, h3⟩, hs, ht, hn, hp, k1, k2 => by
    have hs1 : (a :: (p :: x :: n :: Z).dropLast).Nodup := by simpa using hs
    have hs2 := List.nodup_cons.1 hs1
    have ht1 : (p :: x :: n :: Z).Nodup := by simpa using ht
    have ht2 := List.nodup_cons.1 ht1
    refine ⟨by rw [hn a (fun e => hs2.1 (by rw [e]; simp [List.dropLast]))]; exact h1, by rw [hp p (fun e => ht2.1 (by rw [e]; simp))]; exact h2, ?_⟩
    exact adj_remove (X := []) h3 hs2.2 ht2.2 hn hp k1 k2
  | a :: b :: X, ⟨h1, h2, h3⟩, hs, ht, hn, hp, k1, k2 => by
    have hs1 : (a :: ((b :: X) ++ p :: x :: n :: Z).dropLast).Nodup := by
      have : ((a :: b :: X) ++ p :: x :: n :: Z).dropLast = a :: ((b :: X) ++ p :: x :: n :: Z).dropLast := List.dropLast_cons_of_ne_nil (by simp)
      rwa [this] at hs
    have hs2 := List.nodup_cons.1 hs1
    have ht1 : (b :: (X ++ p :: x :: n :: Z)).Nodup := ht
    have ht2 := List.nodup_cons.1 ht1
    have hpd : p ∈ ((b :: X) ++ p :: x :: n :: Z).dropLast := by
      rw [List.dropLast_append_of_ne_nil (by simp)]
      exact List.mem_append_right _ (by simp [List.dropLast])
    refine ⟨by rw [hn a (fun e => hs2.1 (by rw [e]; exact hpd))]; exact h1, by rw [hp b (fun e => ht2.1 (by rw [e]; simp))]; exact h2, ?_⟩
    exact adj_remove (X := b :: X) h3 hs2.2 ht2.2 hn hp k1 k2
set_option pp.deepTerms false
set_option pp.deepTerms.threshold 4
set_option maxHeartbeats 400000
theorem move_any (b : Nat) (D : DT) (lq : List Chunk) (hq : IsT b D lq) (a c : SlotT) (G : List Chunk) :
    Fn Try.prog 15 [.pointer (some ⟨b, 0, none⟩), .agg (List.toArray (encT a)), .agg (List.toArray (encT c))] (lq ++ G) fun v l' => v = .int .i64 (moveD D a c).1 ∧ ∃ lq', IsT b (moveD D a c).2 lq' ∧ l' = lq' ++ G := by
  obtain ⟨rb, m, F, all, os, es, clock, rfl, hT⟩ := hq
  refine fn_of_body Try.func15 rfl rfl fun E => ?_
  simp only [argF, Try.ntmps15]
  repeat (first | (show OpsS _ _ _ _ _ _ (_ :: _) _ _ _; first | refine ozq ?_ | refine ozn ?_) | refine c_seq ?_ | refine p_then ?_ | refine c_region ?_ | refine s_nil ?_ | refine c_cond_t rfl ?_ | refine c_cond_f rfl ?_ | refine c_block ?_ | refine c_skip ?_ | refine p_block ?_ | refine p_block_here ?_ | refine p_block_on rfl ?_ | refine c_ret ?_ | refine p_then_ret ?_ | refine p_block_ret ?_ | refine p_end ?_ | refine c_if_t rfl (by omega) ?_ | refine c_if_f rfl (by omega) ?_)
  refine t_e (e_boxA rfl) rfl rfl rfl ?_
  rintro _ _ ⟨b4, hb4, rfl, rfl⟩
  repeat (first | (show OpsS _ _ _ _ _ _ (_ :: _) _ _ _; first | refine ozq ?_ | refine ozn ?_) | refine c_seq ?_ | refine p_then ?_ | refine c_region ?_ | refine s_nil ?_ | refine c_cond_t rfl ?_ | refine c_cond_f rfl ?_ | refine c_block ?_ | refine c_skip ?_ | refine p_block ?_ | refine p_block_here ?_ | refine p_block_on rfl ?_ | refine c_ret ?_ | refine p_then_ret ?_ | refine p_block_ret ?_ | refine p_end ?_ | refine c_if_t rfl (by omega) ?_ | refine c_if_f rfl (by omega) ?_)
  refine t_e (e_boxA rfl) rfl rfl rfl ?_
  rintro _ _ ⟨b5, hb5, rfl, rfl⟩
  have hk2 : ∀ lq : List Chunk, Keep (lq ++ (slC b5 c :: slC b4 a :: G)) (lq ++ G) := fun lq => Keep.trans (.of_perm (List.perm_append_comm_assoc lq [slC b5 c, slC b4 a] G)) (.drop (.drop .refl))
  refine s_keep (Keep.of_perm (l' := lq ++ (slC b5 c :: slC b4 a :: G)) (List.perm_append_comm_assoc [slC b5 c, slC b4 a] lq G)) ?_
  have hsub : ∀ x, x ∈ lq → x ∈ lq ++ (slC b5 c :: slC b4 a :: G) := fun x hx => List.mem_append_left _ hx
  have hm4 : slC b4 a ∈ lq ++ (slC b5 c :: slC b4 a :: G) := List.mem_append_right _ (.tail _ (.head _))
  have hm5 : slC b5 c ∈ lq ++ (slC b5 c :: slC b4 a :: G) := List.mem_append_right _ (.head _)
  repeat (first | (show OpsS _ _ _ _ _ _ (_ :: _) _ _ _; first | refine ozq ?_ | refine ozn ?_) | refine c_seq ?_ | refine p_then ?_ | refine c_region ?_ | refine s_nil ?_ | refine c_cond_t rfl ?_ | refine c_cond_f rfl ?_ | refine c_block ?_ | refine c_skip ?_ | refine p_block ?_ | refine p_block_here ?_ | refine p_block_on rfl ?_ | refine c_ret ?_ | refine p_then_ret ?_ | refine p_block_ret ?_ | refine p_end ?_ | refine c_if_t rfl (by omega) ?_ | refine c_if_f rfl (by omega) ?_)
  refine t_q (q_call rfl rfl fun l2 hl2 => of_any b rb m F all os es clock lq a hT l2 fun x hx => hl2 x (hsub x hx)) rfl rfl rfl ?_
  cases hbp : blk F os a with
  | none =>
    rw [show moveD (dOf F os) a c = (10, dOf F os) by unfold moveD; rw [split_none hbp]]
    simp only [ptrO]
    repeat (first | (show OpsS _ _ _ _ _ _ (_ :: _) _ _ _; first | refine ozq ?_ | refine ozn ?_) | refine c_seq ?_ | refine p_then ?_ | refine c_region ?_ | refine s_nil ?_ | refine c_cond_t rfl ?_ | refine c_cond_f rfl ?_ | refine c_block ?_ | refine c_skip ?_ | refine p_block ?_ | refine p_block_here ?_ | refine p_block_on rfl ?_ | refine c_ret ?_ | refine p_then_ret ?_ | refine p_block_ret ?_ | refine p_end ?_ | refine c_if_t rfl (by omega) ?_ | refine c_if_f rfl (by omega) ?_)
    exact k_ret [] rfl (l' := lq ++ G) (hk2 lq) (by (repeat (first | apply ResS.nil | (apply rs_tmp; (· rfl)) | (apply rs_cell1; (· rfl); (· ((repeat (first | with_reducible apply List.mem_cons_self | with_reducible apply List.mem_cons_of_mem)); try with_reducible assumption)); (· rfl)) | (apply rs_cellA; (· rfl); (· ((repeat (first | with_reducible apply List.mem_cons_self | with_reducible apply List.mem_cons_of_mem)); try with_reducible assumption)); (· (repeat (first | with_reducible apply LSub.done | with_reducible apply LSub.take | with_reducible apply LSub.drop))))))) ⟨rfl, lq, ⟨rb, m, F, all, os, es, clock, rfl, hT⟩, rfl⟩
  | some p =>
    simp only [ptrO]
    repeat (first | (show OpsS _ _ _ _ _ _ (_ :: _) _ _ _; first | refine ozq ?_ | refine ozn ?_) | refine c_seq ?_ | refine p_then ?_ | refine c_region ?_ | refine s_nil ?_ | refine c_cond_t rfl ?_ | refine c_cond_f rfl ?_ | refine c_block ?_ | refine c_skip ?_ | refine p_block ?_ | refine p_block_here ?_ | refine p_block_on rfl ?_ | refine c_ret ?_ | refine p_then_ret ?_ | refine p_block_ret ?_ | refine p_end ?_ | refine c_if_t rfl (by omega) ?_ | refine c_if_f rfl (by omega) ?_)
    refine t_q (q_call rfl rfl fun l2 hl2 => of_any b rb m F all os es clock lq c hT l2 fun x hx => hl2 x (hsub x hx)) rfl rfl rfl ?_
    cases hbk : blk F os c with
    | some q =>
      rw [show moveD (dOf F os) a c = (11, dOf F os) by unfold moveD; obtain ⟨A, B, _, h2⟩ := split_blk hbp; rw [h2]; simp only; rw [has_blk, hbk]; rfl]
      simp only [ptrO]
      repeat (first | (show OpsS _ _ _ _ _ _ (_ :: _) _ _ _; first | refine ozq ?_ | refine ozn ?_) | refine c_seq ?_ | refine p_then ?_ | refine c_region ?_ | refine s_nil ?_ | refine c_cond_t rfl ?_ | refine c_cond_f rfl ?_ | refine c_block ?_ | refine c_skip ?_ | refine p_block ?_ | refine p_block_here ?_ | refine p_block_on rfl ?_ | refine c_ret ?_ | refine p_then_ret ?_ | refine p_block_ret ?_ | refine p_end ?_ | refine c_if_t rfl (by omega) ?_ | refine c_if_f rfl (by omega) ?_)
      exact k_ret [] rfl (l' := lq ++ G) (hk2 lq) (by (repeat (first | apply ResS.nil | (apply rs_tmp; (· rfl)) | (apply rs_cell1; (· rfl); (· ((repeat (first | with_reducible apply List.mem_cons_self | with_reducible apply List.mem_cons_of_mem)); try with_reducible assumption)); (· rfl)) | (apply rs_cellA; (· rfl); (· ((repeat (first | with_reducible apply List.mem_cons_self | with_reducible apply List.mem_cons_of_mem)); try with_reducible assumption)); (· (repeat (first | with_reducible apply LSub.done | with_reducible apply LSub.take | with_reducible apply LSub.drop))))))) ⟨rfl, lq, ⟨rb, m, F, all, os, es, clock, rfl, hT⟩, rfl⟩
    | none =>
      rw [show moveD (dOf F os) a c = (0, (splitD a (dOf F os)).elim [] fun y => y.1 ++ (c, y.2.1) :: y.2.2) by unfold moveD; obtain ⟨A, B, _, h2⟩ := split_blk hbp; rw [h2]; simp only; rw [has_blk, hbk]; rfl]
      obtain ⟨A, B, rfl, h2⟩ := split_blk hbp
      rw [h2]
      have hps := (blk_some hbp).2
      have hpa : p ∈ all := hT.sub p (by simp)
      have hno := blk_none hbk
      obtain ⟨uA, uB⟩ := hT.uniq
      rw [hps] at uA uB
      simp only [ptrO]
      rw [hT.eq]
      simp only [List.cons_append]
      have hb4 : ∀ F' : Nat → NdT, slC b4 a ∈ chs F' all ++ (slC b5 c :: slC b4 a :: G) := fun F' => List.mem_append_right _ (.tail _ (.head _))
      have hb5 : ∀ F' : Nat → NdT, slC b5 c ∈ chs F' all ++ (slC b5 c :: slC b4 a :: G) := fun F' => List.mem_append_right _ (.head _)
      repeat (first | (show OpsS _ _ _ _ _ _ (_ :: _) _ _ _; first | refine ozq ?_ | refine ozn ?_) | refine c_seq ?_ | refine p_then ?_ | refine c_region ?_ | refine s_nil ?_ | refine c_cond_t rfl ?_ | refine c_cond_f rfl ?_ | refine c_block ?_ | refine c_skip ?_ | refine p_block ?_ | refine p_block_here ?_ | refine p_block_on rfl ?_ | refine c_ret ?_ | refine p_then_ret ?_ | refine p_block_ret ?_ | refine p_end ?_ | refine c_if_t rfl (by omega) ?_ | refine c_if_f rfl (by omega) ?_)
      refine c_draw [(0, true), (1, true), (2, true), (3, true), (4, true), (5, false)] [[], [0], [0, 1], [0, 1, 2], [], [0, 1, 2, 3, 4]] ([]) (by kernel_rfl) (by kernel_rfl) (by (repeat (first | apply Attach.nil | (apply Attach.cons; · rfl)))) (List.Sublist.subset (by (repeat (first | with_reducible apply List.Sublist.refl | with_reducible apply List.nil_sublist | with_reducible apply List.Sublist.cons_cons | with_reducible apply List.Sublist.cons)))) ?_
      repeat (first | refine pl_nil ?_ | (show PlanS _ _ _ _ _ _ _ _ _ _ ((_, true, _) :: _) _ _ _; first | refine pzq ?_) | (show PlanS _ _ _ _ _ _ _ _ none [] ((_, false, _) :: _) _ _ _; first | refine pze ?_))
      apply pl_s (S := [trC b rb m]); (· first | exact q_load rfl (.head _) (by (first | with_reducible assumption | ((with_reducible apply cell_get); (repeat (first | with_reducible apply LGet.zero | with_reducible apply LGet.succ))))) | exact q_loadL rfl (.head _) (by (repeat (first | with_reducible apply LSub.done | with_reducible apply LSub.take | with_reducible apply LSub.drop)))); (· exact sing_mem (.head _)); (· rfl); (· rfl); (· rfl)
      repeat (first | refine pl_nil ?_ | (show PlanS _ _ _ _ _ _ _ _ _ _ ((_, true, _) :: _) _ _ _; first | refine pzq ?_) | (show PlanS _ _ _ _ _ _ _ _ none [] ((_, false, _) :: _) _ _ _; first | refine pze ?_))
      apply pl_s (S := [slC b4 a]); (· first | exact q_load rfl (.head _) (by (first | with_reducible assumption | ((with_reducible apply cell_get); (repeat (first | with_reducible apply LGet.zero | with_reducible apply LGet.succ))))) | exact q_loadL rfl (.head _) (by (repeat (first | with_reducible apply LSub.done | with_reducible apply LSub.take | with_reducible apply LSub.drop)))); (· exact sing_mem (.tail _ (.tail _ (hb4 F)))); (· rfl); (· rfl); (· rfl)
      repeat (first | refine pl_nil ?_ | (show PlanS _ _ _ _ _ _ _ _ _ _ ((_, true, _) :: _) _ _ _; first | refine pzq ?_) | (show PlanS _ _ _ _ _ _ _ _ none [] ((_, false, _) :: _) _ _ _; first | refine pze ?_))
      apply pl_nS
      · apply e_deleteS (enc := encT) (a := a) (es := es) (clock := clock) (ks := [some .i64, some .i64])
        · rfl
        · rfl
        · exact encT_ok
        · (repeat (first | apply Upd.here | apply Upd.there))
      (· rfl); (· rfl); (· intro _ _ _ c hc; cases hc); (· exact fun _ _ _ x hx ha => anc_all (by kernel_rfl) hx ha)
      rintro _ _ ⟨rfl, rfl⟩
      repeat (first | refine pl_nil ?_ | (show PlanS _ _ _ _ _ _ _ _ _ _ ((_, true, _) :: _) _ _ _; first | refine pzq ?_) | (show PlanS _ _ _ _ _ _ _ _ none [] ((_, false, _) :: _) _ _ _; first | refine pze ?_))
      have hm5' := hb5 F
      repeat (first | (show OpsS _ _ _ _ _ _ (_ :: _) _ _ _; first | refine ozq ?_ | refine ozn ?_) | refine c_seq ?_ | refine p_then ?_ | refine c_region ?_ | refine s_nil ?_ | refine c_cond_t rfl ?_ | refine c_cond_f rfl ?_ | refine c_block ?_ | refine c_skip ?_ | refine p_block ?_ | refine p_block_here ?_ | refine p_block_on rfl ?_ | refine c_ret ?_ | refine p_then_ret ?_ | refine p_block_ret ?_ | refine p_end ?_ | refine c_if_t rfl (by omega) ?_ | refine c_if_f rfl (by omega) ?_)
      refine t_n (l := trC b rb m :: (m, mapS encT (delS a es) clock) :: (chs F all ++ (slC b5 c :: slC b4 a :: G))) (e_storeA (b := p) (off := 0) (cs := List.toArray (F p).cells) (n := 2) rfl rfl rfl (by simp [Value.oneCell']) (.there (.there (upd_left (chs_upd { F p with sl := c } hT.nd hpa) _))) (by simp)) rfl rfl ?_
      rintro _ _ ⟨rfl, rfl⟩
      obtain ⟨F1, hF1⟩ : ∃ F1, F1 = upd F p { F p with sl := c } := ⟨_, rfl⟩
      rw [← hF1]
      have hm51 := hb5 F1
      repeat (first | (show OpsS _ _ _ _ _ _ (_ :: _) _ _ _; first | refine ozq ?_ | refine ozn ?_) | refine c_seq ?_ | refine p_then ?_ | refine c_region ?_ | refine s_nil ?_ | refine c_cond_t rfl ?_ | refine c_cond_f rfl ?_ | refine c_block ?_ | refine c_skip ?_ | refine p_block ?_ | refine p_block_here ?_ | refine p_block_on rfl ?_ | refine c_ret ?_ | refine p_then_ret ?_ | refine p_block_ret ?_ | refine p_end ?_ | refine c_if_t rfl (by omega) ?_ | refine c_if_f rfl (by omega) ?_)
      refine c_draw [(0, true), (1, true), (2, true), (3, true), (4, true), (5, true), (6, false)] [[], [0], [0, 1], [0, 1, 2], [], [], [0, 1, 2, 3, 4, 5]] ([]) (by kernel_rfl) (by kernel_rfl) (by (repeat (first | apply Attach.nil | (apply Attach.cons; · rfl)))) (List.Sublist.subset (by (repeat (first | with_reducible apply List.Sublist.refl | with_reducible apply List.nil_sublist | with_reducible apply List.Sublist.cons_cons | with_reducible apply List.Sublist.cons)))) ?_
      repeat (first | refine pl_nil ?_ | (show PlanS _ _ _ _ _ _ _ _ _ _ ((_, true, _) :: _) _ _ _; first | refine pzq ?_) | (show PlanS _ _ _ _ _ _ _ _ none [] ((_, false, _) :: _) _ _ _; first | refine pze ?_))
      apply pl_s (S := [trC b rb m]); (· first | exact q_load rfl (.head _) (by (first | with_reducible assumption | ((with_reducible apply cell_get); (repeat (first | with_reducible apply LGet.zero | with_reducible apply LGet.succ))))) | exact q_loadL rfl (.head _) (by (repeat (first | with_reducible apply LSub.done | with_reducible apply LSub.take | with_reducible apply LSub.drop)))); (· exact sing_mem (.head _)); (· rfl); (· rfl); (· rfl)
      repeat (first | refine pl_nil ?_ | (show PlanS _ _ _ _ _ _ _ _ _ _ ((_, true, _) :: _) _ _ _; first | refine pzq ?_) | (show PlanS _ _ _ _ _ _ _ _ none [] ((_, false, _) :: _) _ _ _; first | refine pze ?_))
      apply pl_s (S := [slC b5 c]); (· first | exact q_load rfl (.head _) (by (first | with_reducible assumption | ((with_reducible apply cell_get); (repeat (first | with_reducible apply LGet.zero | with_reducible apply LGet.succ))))) | exact q_loadL rfl (.head _) (by (repeat (first | with_reducible apply LSub.done | with_reducible apply LSub.take | with_reducible apply LSub.drop)))); (· exact sing_mem (.tail _ (.tail _ (hb5 F1)))); (· rfl); (· rfl); (· rfl)
      repeat (first | refine pl_nil ?_ | (show PlanS _ _ _ _ _ _ _ _ _ _ ((_, true, _) :: _) _ _ _; first | refine pzq ?_) | (show PlanS _ _ _ _ _ _ _ _ none [] ((_, false, _) :: _) _ _ _; first | refine pze ?_))
      apply pl_nS
      · apply e_mapUpdateS (enc := encT) (a := c) (es := delS a es) (clock := clock) (ks := [some .i64, some .i64])
        · rfl
        · rfl
        · rfl
        · exact encT_ok
        · (repeat (first | apply Upd.here | apply Upd.there))
      (· rfl); (· rfl); (· intro _ _ _ c hc; cases hc); (· exact fun _ _ _ x hx ha => anc_all (by kernel_rfl) hx ha)
      rintro _ _ ⟨rfl, rfl⟩
      repeat (first | refine pl_nil ?_ | (show PlanS _ _ _ _ _ _ _ _ _ _ ((_, true, _) :: _) _ _ _; first | refine pzq ?_) | (show PlanS _ _ _ _ _ _ _ _ none [] ((_, false, _) :: _) _ _ _; first | refine pze ?_))
      repeat (first | (show OpsS _ _ _ _ _ _ (_ :: _) _ _ _; first | refine ozq ?_ | refine ozn ?_) | refine c_seq ?_ | refine p_then ?_ | refine c_region ?_ | refine s_nil ?_ | refine c_cond_t rfl ?_ | refine c_cond_f rfl ?_ | refine c_block ?_ | refine c_skip ?_ | refine p_block ?_ | refine p_block_here ?_ | refine p_block_on rfl ?_ | refine c_ret ?_ | refine p_then_ret ?_ | refine p_block_ret ?_ | refine p_end ?_ | refine c_if_t rfl (by omega) ?_ | refine c_if_f rfl (by omega) ?_)
      have ep : F1 p = { F p with sl := c } := by rw [hF1, upd_same]
      have eo : ∀ q, q ≠ p → F1 q = F q := fun q hq => by rw [hF1, upd_other _ _ _ _ hq]
      have el : ∀ q, (F1 q).nx = (F q).nx ∧ (F1 q).pv = (F q).pv ∧ (F1 q).dp = (F q).dp := fun q => by
        by_cases e : q = p
        · rw [e, ep]; exact ⟨rfl, rfl, rfl⟩
        · rw [eo q e]; exact ⟨rfl, rfl, rfl⟩
      have oA : ∀ q, q ∈ A → q ≠ p := fun q hq e => hT.out.1 (e ▸ hq)
      have oB : ∀ q, q ∈ B → q ≠ p := fun q hq e => hT.out.2.1 (e ▸ hq)
      obtain ⟨lq', hlq'⟩ : ∃ lq', lq' = trC b rb m :: (m, mapS encT (setS c (.pointer (some ⟨p, 0, none⟩)) clock (delS a es)).1 (setS c (.pointer (some ⟨p, 0, none⟩)) clock (delS a es)).2) :: chs F1 all := ⟨_, rfl⟩
      have hdA : dOf F1 A = dOf F A := dOf_congr fun q hq => by rw [eo q (oA q hq)]; exact ⟨rfl, rfl⟩
      have hdB : dOf F1 B = dOf F B := dOf_congr fun q hq => by rw [eo q (oB q hq)]; exact ⟨rfl, rfl⟩
      refine k_ret [] rfl (l' := lq' ++ G) ?_ (by (repeat (first | apply ResS.nil | (apply rs_tmp; (· rfl)) | (apply rs_cell1; (· rfl); (· ((repeat (first | with_reducible apply List.mem_cons_self | with_reducible apply List.mem_cons_of_mem)); try with_reducible assumption)); (· rfl)) | (apply rs_cellA; (· rfl); (· ((repeat (first | with_reducible apply List.mem_cons_self | with_reducible apply List.mem_cons_of_mem)); try with_reducible assumption)); (· (repeat (first | with_reducible apply LSub.done | with_reducible apply LSub.take | with_reducible apply LSub.drop))))))) ⟨rfl, lq', ⟨rb, m, F1, all, A ++ p :: B, _, _, ?_, ⟨hlq', hT.nd, hT.rin, hT.sub, hT.ond, adj_same hT.adj (fun u _ => (el u).1) (fun v _ => (el v).2.1), ?_, (hT.keys.del a).set _ _, fun s' => ?_⟩⟩, rfl⟩
      · have h9 := hk2 lq'; rw [hlq'] at h9; rw [hlq']; exact h9
      · show dOf F1 (A ++ p :: B) = dOf F A ++ (c, (F p).dp) :: dOf F B
        rw [← hdA, ← hdB]
        unfold dOf
        rw [List.map_append, List.map_cons, ep]
      · have h1 : A.map (fun q => (F1 q).sl) = A.map (fun q => (F q).sl) := List.map_congr_left fun q hq => by rw [eo q (oA q hq)]
        have h2 : B.map (fun q => (F1 q).sl) = B.map (fun q => (F q).sl) := List.map_congr_left fun q hq => by rw [eo q (oB q hq)]
        have hn := hT.snd
        rw [List.map_append, List.map_cons] at hn ⊢
        rw [h1, h2, ep]
        have hn2 := (List.perm_middle.nodup_iff.1 hn)
        refine List.perm_middle.nodup_iff.2 (List.nodup_cons.2 ⟨fun h => ?_, (List.nodup_cons.1 hn2).2⟩)
        rcases List.mem_append.1 h with h | h
        · obtain ⟨q, hq, e⟩ := List.mem_map.1 h; exact hno q (List.mem_append_left _ hq) e
        · obtain ⟨q, hq, e⟩ := List.mem_map.1 h; exact hno q (List.mem_append_right _ (.tail _ hq)) e
      · show _ = (blk F1 (A ++ p :: B) s').map _
        rw [getS_set, getS_del hT.keys, hT.get]
        show (if s' = c then _ else if s' = a then none else (blk F (A ++ p :: B) s').map _) = _
        have ec : (F1 p).sl = c := by rw [ep]
        rw [blk_app, blk_app, ec, blk_congr (F := F) (F' := F1) (os := A) fun q hq => by rw [eo q (oA q hq)], blk_congr (F := F) (F' := F1) (os := B) fun q hq => by rw [eo q (oB q hq)], hps]
        by_cases hc : s' = c
        · subst hc
          rw [if_pos rfl, if_pos rfl, blk_none_iff.2 fun q hq => hno q (List.mem_append_left _ hq)]
          rfl
        · rw [if_neg hc, if_neg (show ¬ c = s' from fun e => hc e.symm)]
          by_cases ha : s' = a
          · subst ha
            rw [if_pos rfl, blk_none_iff.2 uA, blk_none_iff.2 uB]
            rfl
          · rw [if_neg ha, if_neg (show ¬ a = s' from fun e => ha e.symm)]
end Go.Proofs.Ytidkpfkkljcnaaa
