/- The tree: Remove. -/
import Derived.Test.YtidkpfkkljcnaaaU0
import Derived.Test.YtidkpfkkljcnaaaJ7
set_option linter.unusedVariables false
set_option linter.unusedSimpArgs false
namespace Go.Proofs.Ytidkpfkkljcnaaa
open Go.RowKit

set_option pp.deepTerms false
set_option pp.deepTerms.threshold 4
set_option maxHeartbeats 400000
theorem remove_any (b : Nat) (D : DT) (lq : List Chunk) (hq : IsT b D lq) (hd : SmallD D) (s : SlotT) (G : List Chunk) :
    Fn Try.prog 20 [.pointer (some ⟨b, 0, none⟩), .agg (List.toArray (encT s))] (lq ++ G) fun v l' => v = .int .i64 (removeD D s).1 ∧ ∃ lq', IsT b (removeD D s).2 lq' ∧ l' = lq' ++ G := by
  obtain ⟨rb, m, F, all, os, es, clock, rfl, hT⟩ := hq
  refine fn_of_body Try.func20 rfl rfl fun E => ?_
  simp only [argF, Try.ntmps20]
  repeat (first | (show OpsS _ _ _ _ _ _ (_ :: _) _ _ _; first | refine ozq ?_ | refine ozn ?_) | refine c_seq ?_ | refine p_then ?_ | refine c_region ?_ | refine s_nil ?_ | refine c_cond_t rfl ?_ | refine c_cond_f rfl ?_ | refine c_block ?_ | refine c_skip ?_ | refine p_block ?_ | refine p_block_here ?_ | refine p_block_on rfl ?_ | refine c_ret ?_ | refine p_then_ret ?_ | refine p_block_ret ?_ | refine p_end ?_ | refine c_if_t rfl (by omega) ?_ | refine c_if_f rfl (by omega) ?_)
  refine t_e (e_boxA rfl) rfl rfl rfl ?_
  rintro _ _ ⟨b3, hb3, rfl, rfl⟩
  have hk2 : ∀ lq : List Chunk, Keep (lq ++ (slC b3 s :: G)) (lq ++ G) := fun lq => Keep.trans (.of_perm List.perm_middle) (.drop .refl)
  refine s_keep (Keep.of_perm (l' := lq ++ (slC b3 s :: G)) List.perm_middle.symm) ?_
  have hsub : ∀ c, c ∈ lq → c ∈ lq ++ (slC b3 s :: G) := fun c hc => List.mem_append_left _ hc
  have hbm : slC b3 s ∈ lq ++ (slC b3 s :: G) := List.mem_append_right _ (.head _)
  repeat (first | (show OpsS _ _ _ _ _ _ (_ :: _) _ _ _; first | refine ozq ?_ | refine ozn ?_) | refine c_seq ?_ | refine p_then ?_ | refine c_region ?_ | refine s_nil ?_ | refine c_cond_t rfl ?_ | refine c_cond_f rfl ?_ | refine c_block ?_ | refine c_skip ?_ | refine p_block ?_ | refine p_block_here ?_ | refine p_block_on rfl ?_ | refine c_ret ?_ | refine p_then_ret ?_ | refine p_block_ret ?_ | refine p_end ?_ | refine c_if_t rfl (by omega) ?_ | refine c_if_f rfl (by omega) ?_)
  refine t_q (q_call rfl rfl fun l2 hl2 => of_any b rb m F all os es clock lq s hT l2 fun c hc => hl2 c (hsub c hc)) rfl rfl rfl ?_
  cases hbk : blk F os s with
  | none =>
    rw [show removeD (dOf F os) s = (10, dOf F os) by unfold removeD; rw [split_none hbk]]
    simp only [ptrO]
    repeat (first | (show OpsS _ _ _ _ _ _ (_ :: _) _ _ _; first | refine ozq ?_ | refine ozn ?_) | refine c_seq ?_ | refine p_then ?_ | refine c_region ?_ | refine s_nil ?_ | refine c_cond_t rfl ?_ | refine c_cond_f rfl ?_ | refine c_block ?_ | refine c_skip ?_ | refine p_block ?_ | refine p_block_here ?_ | refine p_block_on rfl ?_ | refine c_ret ?_ | refine p_then_ret ?_ | refine p_block_ret ?_ | refine p_end ?_ | refine c_if_t rfl (by omega) ?_ | refine c_if_f rfl (by omega) ?_)
    exact k_ret [] rfl (l' := lq ++ G) (hk2 lq) (by (repeat (first | apply ResS.nil | (apply rs_tmp; (· rfl)) | (apply rs_cell1; (· rfl); (· ((repeat (first | with_reducible apply List.mem_cons_self | with_reducible apply List.mem_cons_of_mem)); try with_reducible assumption)); (· rfl)) | (apply rs_cellA; (· rfl); (· ((repeat (first | with_reducible apply List.mem_cons_self | with_reducible apply List.mem_cons_of_mem)); try with_reducible assumption)); (· (repeat (first | with_reducible apply LSub.done | with_reducible apply LSub.take | with_reducible apply LSub.drop))))))) ⟨rfl, lq, ⟨rb, m, F, all, os, es, clock, rfl, hT⟩, rfl⟩
  | some p =>
    obtain ⟨A, B, rfl, h2⟩ := split_blk hbk
    have hps := (blk_some hbk).2
    obtain ⟨oA, oB, rA, rB, prb⟩ := hT.out
    obtain ⟨uA, uB⟩ := hT.uniq
    have hBn : B.Nodup := (List.nodup_cons.1 (List.nodup_append.1 (List.nodup_cons.1 hT.ond).2).2.1).2
    obtain ⟨tw, htw⟩ : ∃ tw, tw = B.takeWhile fun q => decide ((F p).dp < (F q).dp) := ⟨_, rfl⟩
    have htwB : ∀ q, q ∈ tw → q ∈ B := fun q hq => by rw [htw] at hq; exact (List.takeWhile_prefix _).subset hq
    have hpa : p ∈ all := hT.sub p (by simp)
    rw [show removeD (dOf F (A ++ p :: B)) s = (0, dOf F A ++ dOf (decF F tw) B) by unfold removeD; rw [h2]; simp only; rw [htw, dOf_dec hBn]]
    simp only [ptrO]
    repeat (first | (show OpsS _ _ _ _ _ _ (_ :: _) _ _ _; first | refine ozq ?_ | refine ozn ?_) | refine c_seq ?_ | refine p_then ?_ | refine c_region ?_ | refine s_nil ?_ | refine c_cond_t rfl ?_ | refine c_cond_f rfl ?_ | refine c_block ?_ | refine c_skip ?_ | refine p_block ?_ | refine p_block_here ?_ | refine p_block_on rfl ?_ | refine c_ret ?_ | refine p_then_ret ?_ | refine p_block_ret ?_ | refine p_end ?_ | refine c_if_t rfl (by omega) ?_ | refine c_if_f rfl (by omega) ?_)
    refine t_e (e_call rfl rfl (below_any _ _ _)) rfl rfl rfl ?_
    rintro v l' ⟨C1, C2, rfl, rfl⟩
    repeat (first | (show OpsS _ _ _ _ _ _ (_ :: _) _ _ _; first | refine ozq ?_ | refine ozn ?_) | refine c_seq ?_ | refine p_then ?_ | refine c_region ?_ | refine s_nil ?_ | refine c_cond_t rfl ?_ | refine c_cond_f rfl ?_ | refine c_block ?_ | refine c_skip ?_ | refine p_block ?_ | refine p_block_here ?_ | refine p_block_on rfl ?_ | refine c_ret ?_ | refine p_then_ret ?_ | refine p_block_ret ?_ | refine p_end ?_ | refine c_if_t rfl (by omega) ?_ | refine c_if_f rfl (by omega) ?_)
    refine c_range (α := Nat) (ps := [19]) (lb := [.pointer (some ⟨C2, 0, none⟩), .pointer (some ⟨C1, 0, none⟩)]) rfl (below_iter C1 C2 b rb m p F all (A ++ p :: B) es clock lq hT (rb :: A) B rfl) (fun _ => rfl) rfl
      (fun pre l => l = bxL C1 p :: bxT C2 b :: trC b rb m :: (m, mapS encT es clock) :: chs (decF F pre) all)
      (fun c pre l => False)
      _ (slC b3 s :: G) (fun pre l2 X2 hX h => by
        subst h
        refine ⟨.head _, .tail _ (.head _), .tail _ (.tail _ (.head _)), fun q hq => ?_⟩
        have hqa : q ∈ all := by
          rcases List.mem_cons.1 hq with rfl | hq
          · exact hT.rin
          · exact hT.sub q hq
        exact ⟨decF F pre q, .tail _ (.tail _ (.tail _ (.tail _ (List.mem_append_left _ (chs_mem hqa))))), (decF_links F pre q).2.1, fun hn => by rw [decF_out hn]⟩)
      (by rw [hT.eq, chs_congr (F := F) (F' := decF F []) fun q _ => (decF_out (by simp)).symm]; exact .refl) rfl ?_ ?_ ?_
    · rintro E r0 rec pre y l' T ⟨fn, tmps, Dd, rfl⟩ hT0 rfl hsp
      have hyB : y ∈ B := htwB y (by rw [htw]; exact hsp.subset (by simp))
      have hya : y ∈ all := hT.sub y (List.mem_append_right _ (.tail _ hyB))
      have hyp : y ∉ pre := fun h => by
        have h1 : (pre ++ [y]).Nodup := (hsp.trans (List.takeWhile_prefix _)).sublist.nodup hBn
        exact (List.nodup_append.1 h1).2.2 y h y (by simp) rfl
      have hr := hd _ (List.mem_map.2 ⟨y, List.mem_append_right _ (.tail _ hyB), rfl⟩)
      simp only at hr
      simp only [putPs, List.cons_append, List.nil_append]
      repeat (first | (show OpsS _ _ _ _ _ _ (_ :: _) _ _ _; first | refine ozq ?_ | refine ozn ?_) | refine c_seq ?_ | refine p_then ?_ | refine c_region ?_ | refine s_nil ?_ | refine c_cond_t rfl ?_ | refine c_cond_f rfl ?_ | refine c_block ?_ | refine c_skip ?_ | refine p_block ?_ | refine p_block_here ?_ | refine p_block_on rfl ?_ | refine c_ret ?_ | refine p_then_ret ?_ | refine p_block_ret ?_ | refine p_end ?_ | refine c_if_t rfl (by omega) ?_ | refine c_if_f rfl (by omega) ?_)
      refine p_begin (.there (.there (.there (.there (upd_mid _ _ _ _ _))))) ?_
      generalize hX1 : (r0, Obj.loop (recOf fn tmps _ _ _ Dd .busy none)) :: T = X1
      have hmy : ndC y (F y) ∈ chs (decF F pre) all ++ X1 := List.mem_append_left _ (by have := chs_mem (F := decF F pre) hya; rw [decF_out hyp] at this; exact this)
      repeat (first | (show OpsS _ _ _ _ _ _ (_ :: _) _ _ _; first | refine ozq ?_ | refine ozn ?_) | refine c_seq ?_ | refine p_then ?_ | refine c_region ?_ | refine s_nil ?_ | refine c_cond_t rfl ?_ | refine c_cond_f rfl ?_ | refine c_block ?_ | refine c_skip ?_ | refine p_block ?_ | refine p_block_here ?_ | refine p_block_on rfl ?_ | refine c_ret ?_ | refine p_then_ret ?_ | refine p_block_ret ?_ | refine p_end ?_ | refine c_if_t rfl (by omega) ?_ | refine c_if_f rfl (by omega) ?_)
      have hu := chs_upd (F := decF F pre) { F y with dp := (F y).dp - 1 } hT.nd hya
      rw [decF_out hyp, decF_snoc hyp] at hu
      refine t_n (e_store (b := y) (off := 2) (cs := List.toArray (F y).cells) rfl rfl rfl (.there (.there (.there (.there (upd_left hu _))))) (by simp)) rfl rfl ?_
      rintro _ _ ⟨rfl, rfl⟩
      repeat (first | (show OpsS _ _ _ _ _ _ (_ :: _) _ _ _; first | refine ozq ?_ | refine ozn ?_) | refine c_seq ?_ | refine p_then ?_ | refine c_region ?_ | refine s_nil ?_ | refine c_cond_t rfl ?_ | refine c_cond_f rfl ?_ | refine c_block ?_ | refine c_skip ?_ | refine p_block ?_ | refine p_block_here ?_ | refine p_block_on rfl ?_ | refine c_ret ?_ | refine p_then_ret ?_ | refine p_block_ret ?_ | refine p_end ?_ | refine c_if_t rfl (by omega) ?_ | refine c_if_f rfl (by omega) ?_)
      rw [← hX1]
      exact p_round (_ :: _ :: _ :: _ :: chs (decF F (pre ++ [y])) all) .refl rfl
    · rintro Dd xs l' rfl rfl
      rw [← htw]
      simp only [List.cons_append, List.nil_append]
      obtain ⟨F1, hF1⟩ : ∃ F1, F1 = decF F tw := ⟨_, rfl⟩
      have e1 : ∀ q, (F1 q).sl = (F q).sl ∧ (F1 q).nx = (F q).nx ∧ (F1 q).pv = (F q).pv := fun q => by rw [hF1]; exact decF_links F tw q
      have e1o : ∀ q, q ∉ tw → F1 q = F q := fun q hq => by rw [hF1]; exact decF_out hq
      rw [← hF1]
      refine p_keep (l' := markC Dd :: trC b rb m :: (m, mapS encT es clock) :: (chs F1 all ++ (slC b3 s :: G))) (by ((try simp only [List.cons_append, List.nil_append, List.map_cons, List.map_nil]); repeat (first | with_reducible apply Keep.refl | (apply Keep.pick; · (repeat (first | apply Pick.here | apply Pick.there))) | apply Keep.drop))) ?_
      obtain ⟨X, pp, hXp⟩ : ∃ X pp, rb :: A = X ++ [pp] := ⟨_, _, (List.dropLast_concat_getLast (List.cons_ne_nil rb A)).symm⟩
      obtain ⟨nn, Z, hnZ⟩ : ∃ nn Z, B ++ [rb] = nn :: Z := by cases B with | nil => exact ⟨_, _, rfl⟩ | cons y Y => exact ⟨_, _, rfl⟩
      have hL : rb :: (A ++ p :: B ++ [rb]) = X ++ pp :: p :: nn :: Z := by
        have : rb :: (A ++ p :: B ++ [rb]) = (rb :: A) ++ (p :: (B ++ [rb])) := by simp
        rw [this, hXp, hnZ]; simp
      have hadj := hT.adj
      rw [hL] at hadj
      have hpp := (adj_at hadj).2
      have hnn : (F p).nx = nn := (adj_at (X := X ++ [pp]) (p := p) (n := nn) (Z := Z) (by simpa using hadj)).1
      have hcyc : ∀ q, q ∈ X ++ pp :: p :: nn :: Z → q ∈ all := fun q hq => by
        rw [← hL] at hq
        rcases List.mem_cons.1 hq with rfl | hq
        · exact hT.rin
        · rcases List.mem_append.1 hq with hq | hq
          · exact hT.sub q hq
          · rw [List.mem_singleton.1 hq]; exact hT.rin
      have hppa : pp ∈ all := hcyc pp (by simp)
      have hnna : nn ∈ all := hcyc nn (by simp)
      have hp1 : F1 p = F p := e1o p fun h => oB (htwB p h)
      have hmp : ∀ d : Chunk, ndC p (F p) ∈ d :: trC b rb m :: (m, mapS encT es clock) :: (chs F1 all ++ (slC b3 s :: G)) := fun d => .tail _ (.tail _ (.tail _ (List.mem_append_left _ (by have := chs_mem (F := F1) hpa; rw [hp1] at this; exact this))))
      repeat (first | (show OpsS _ _ _ _ _ _ (_ :: _) _ _ _; first | refine ozq ?_ | refine ozn ?_) | refine c_seq ?_ | refine p_then ?_ | refine c_region ?_ | refine s_nil ?_ | refine c_cond_t rfl ?_ | refine c_cond_f rfl ?_ | refine c_block ?_ | refine c_skip ?_ | refine p_block ?_ | refine p_block_here ?_ | refine p_block_on rfl ?_ | refine c_ret ?_ | refine p_then_ret ?_ | refine p_block_ret ?_ | refine p_end ?_ | refine c_if_t rfl (by omega) ?_ | refine c_if_f rfl (by omega) ?_)
      refine c_draw [(0, true), (1, true), (2, true), (3, true), (4, true), (5, true), (6, true), (7, true), (8, true), (9, true), (10, true), (11, true), (12, true), (13, true), (14, true), (15, true), (16, true), (17, true), (18, false), (19, true), (20, true), (21, false)] [[], [0], [0, 1], [0, 1, 2], [], [4], [4, 5], [4, 5, 6], [], [8], [8, 9], [8, 9, 10], [], [12], [12, 13], [12, 13, 14], [0, 1, 2, 3, 4, 5, 6, 7, 8, 9, 10, 11, 12, 13, 14, 15], [0, 1, 2, 3, 4, 5, 6, 7, 8, 9, 10, 11, 12, 13, 14, 15, 16], [0, 1, 2, 3, 4, 5, 6, 7, 8, 9, 10, 11, 12, 13, 14, 15, 16, 17], [0, 1, 2, 3, 4, 5, 6, 7, 8, 9, 10, 11, 12, 13, 14, 15, 16, 17, 18], [0, 1, 2, 3, 4, 5, 6, 7, 8, 9, 10, 11, 12, 13, 14, 15, 16, 17, 18, 19], [0, 1, 2, 3, 4, 5, 6, 7, 8, 9, 10, 11, 12, 13, 14, 15, 16, 17, 18, 19, 20]] ([]) (by kernel_rfl) (by kernel_rfl) (by (repeat (first | apply Attach.nil | (apply Attach.cons; · rfl)))) (List.Sublist.subset (by (repeat (first | with_reducible apply List.Sublist.refl | with_reducible apply List.nil_sublist | with_reducible apply List.Sublist.cons_cons | with_reducible apply List.Sublist.cons)))) ?_
      repeat (first | refine pl_nil ?_ | (show PlanS _ _ _ _ _ _ _ _ _ _ ((_, true, _) :: _) _ _ _; first | refine pzq ?_) | (show PlanS _ _ _ _ _ _ _ _ none [] ((_, false, _) :: _) _ _ _; first | refine pzn ?_ | refine pze ?_))
      apply pl_s (S := [ndC p (F p)]); (· first | exact q_load rfl (.head _) (by (first | with_reducible assumption | ((with_reducible apply cell_get); (repeat (first | with_reducible apply LGet.zero | with_reducible apply LGet.succ))))) | exact q_loadL rfl (.head _) (by (repeat (first | with_reducible apply LSub.done | with_reducible apply LSub.take | with_reducible apply LSub.drop)))); (· exact sing_mem (hmp _)); (· rfl); (· rfl); (· rfl)
      repeat (first | refine pl_nil ?_ | (show PlanS _ _ _ _ _ _ _ _ _ _ ((_, true, _) :: _) _ _ _; first | refine pzq ?_) | (show PlanS _ _ _ _ _ _ _ _ none [] ((_, false, _) :: _) _ _ _; first | refine pzn ?_ | refine pze ?_))
      apply pl_s (S := [ndC p (F p)]); (· first | exact q_load rfl (.head _) (by (first | with_reducible assumption | ((with_reducible apply cell_get); (repeat (first | with_reducible apply LGet.zero | with_reducible apply LGet.succ))))) | exact q_loadL rfl (.head _) (by (repeat (first | with_reducible apply LSub.done | with_reducible apply LSub.take | with_reducible apply LSub.drop)))); (· exact sing_mem (hmp _)); (· rfl); (· rfl); (· rfl)
      repeat (first | refine pl_nil ?_ | (show PlanS _ _ _ _ _ _ _ _ _ _ ((_, true, _) :: _) _ _ _; first | refine pzq ?_) | (show PlanS _ _ _ _ _ _ _ _ none [] ((_, false, _) :: _) _ _ _; first | refine pzn ?_ | refine pze ?_))
      apply pl_s (S := [ndC p (F p)]); (· first | exact q_load rfl (.head _) (by (first | with_reducible assumption | ((with_reducible apply cell_get); (repeat (first | with_reducible apply LGet.zero | with_reducible apply LGet.succ))))) | exact q_loadL rfl (.head _) (by (repeat (first | with_reducible apply LSub.done | with_reducible apply LSub.take | with_reducible apply LSub.drop)))); (· exact sing_mem (hmp _)); (· rfl); (· rfl); (· rfl)
      repeat (first | refine pl_nil ?_ | (show PlanS _ _ _ _ _ _ _ _ _ _ ((_, true, _) :: _) _ _ _; first | refine pzq ?_) | (show PlanS _ _ _ _ _ _ _ _ none [] ((_, false, _) :: _) _ _ _; first | refine pzn ?_ | refine pze ?_))
      apply pl_s (S := [ndC p (F p)]); (· first | exact q_load rfl (.head _) (by (first | with_reducible assumption | ((with_reducible apply cell_get); (repeat (first | with_reducible apply LGet.zero | with_reducible apply LGet.succ))))) | exact q_loadL rfl (.head _) (by (repeat (first | with_reducible apply LSub.done | with_reducible apply LSub.take | with_reducible apply LSub.drop)))); (· exact sing_mem (hmp _)); (· rfl); (· rfl); (· rfl)
      rw [hpp, hnn]
      repeat (first | refine pl_nil ?_ | (show PlanS _ _ _ _ _ _ _ _ _ _ ((_, true, _) :: _) _ _ _; first | refine pzq ?_) | (show PlanS _ _ _ _ _ _ _ _ none [] ((_, false, _) :: _) _ _ _; first | refine pzn ?_ | refine pze ?_))
      obtain ⟨F2, hF2⟩ : ∃ F2, F2 = upd F1 pp { F1 pp with nx := nn } := ⟨_, rfl⟩
      obtain ⟨F3, hF3⟩ : ∃ F3, F3 = upd F2 nn { F2 nn with pv := pp } := ⟨_, rfl⟩
      apply pl_nS
      · exact e_store (b := pp) (off := 4) (cs := List.toArray (F1 pp).cells) rfl rfl rfl (.there (.there (.there (upd_left (chs_upd { F1 pp with nx := nn } hT.nd hppa) _)))) (by simp)
      (· rfl); (· rfl); (· intro _ _ _ c hc; cases hc); (· exact fun _ _ _ x hx ha => anc_all (by kernel_rfl) hx ha)
      rintro _ _ ⟨rfl, rfl⟩
      rw [← hF2]
      repeat (first | refine pl_nil ?_ | (show PlanS _ _ _ _ _ _ _ _ _ _ ((_, true, _) :: _) _ _ _; first | refine pzq ?_) | (show PlanS _ _ _ _ _ _ _ _ none [] ((_, false, _) :: _) _ _ _; first | refine pzn ?_ | refine pze ?_))
      apply pl_nS
      · exact e_store (b := nn) (off := 3) (cs := List.toArray (F2 nn).cells) rfl rfl rfl (.there (.there (.there (upd_left (chs_upd { F2 nn with pv := pp } hT.nd hnna) _)))) (by simp)
      (· rfl); (· rfl); (· intro _ _ _ c hc; cases hc); (· exact fun _ _ _ x hx ha => anc_all (by kernel_rfl) hx ha)
      rintro _ _ ⟨rfl, rfl⟩
      rw [← hF3]
      repeat (first | refine pl_nil ?_ | (show PlanS _ _ _ _ _ _ _ _ _ _ ((_, true, _) :: _) _ _ _; first | refine pzq ?_) | (show PlanS _ _ _ _ _ _ _ _ none [] ((_, false, _) :: _) _ _ _; first | refine pzn ?_ | refine pze ?_))
      repeat (first | (show OpsS _ _ _ _ _ _ (_ :: _) _ _ _; first | refine ozq ?_ | refine ozn ?_) | refine c_seq ?_ | refine p_then ?_ | refine c_region ?_ | refine s_nil ?_ | refine c_cond_t rfl ?_ | refine c_cond_f rfl ?_ | refine c_block ?_ | refine c_skip ?_ | refine p_block ?_ | refine p_block_here ?_ | refine p_block_on rfl ?_ | refine c_ret ?_ | refine p_then_ret ?_ | refine p_block_ret ?_ | refine p_end ?_ | refine c_if_t rfl (by omega) ?_ | refine c_if_f rfl (by omega) ?_)
      refine c_draw [(0, true), (1, true), (2, true), (3, true), (4, true), (5, false)] [[], [0], [0, 1], [0, 1, 2], [], [0, 1, 2, 3, 4]] ([]) (by kernel_rfl) (by kernel_rfl) (by (repeat (first | apply Attach.nil | (apply Attach.cons; · rfl)))) (List.Sublist.subset (by (repeat (first | with_reducible apply List.Sublist.refl | with_reducible apply List.nil_sublist | with_reducible apply List.Sublist.cons_cons | with_reducible apply List.Sublist.cons)))) ?_
      repeat (first | refine pl_nil ?_ | (show PlanS _ _ _ _ _ _ _ _ _ _ ((_, true, _) :: _) _ _ _; first | refine pzq ?_) | (show PlanS _ _ _ _ _ _ _ _ none [] ((_, false, _) :: _) _ _ _; first | refine pzn ?_ | refine pze ?_))
      apply pl_s (S := [trC b rb m]); (· first | exact q_load rfl (.head _) (by (first | with_reducible assumption | ((with_reducible apply cell_get); (repeat (first | with_reducible apply LGet.zero | with_reducible apply LGet.succ))))) | exact q_loadL rfl (.head _) (by (repeat (first | with_reducible apply LSub.done | with_reducible apply LSub.take | with_reducible apply LSub.drop)))); (· exact sing_mem (.tail _ (.head _))); (· rfl); (· rfl); (· rfl)
      repeat (first | refine pl_nil ?_ | (show PlanS _ _ _ _ _ _ _ _ _ _ ((_, true, _) :: _) _ _ _; first | refine pzq ?_) | (show PlanS _ _ _ _ _ _ _ _ none [] ((_, false, _) :: _) _ _ _; first | refine pzn ?_ | refine pze ?_))
      apply pl_s (S := [slC b3 s]); (· first | exact q_load rfl (.head _) (by (first | with_reducible assumption | ((with_reducible apply cell_get); (repeat (first | with_reducible apply LGet.zero | with_reducible apply LGet.succ))))) | exact q_loadL rfl (.head _) (by (repeat (first | with_reducible apply LSub.done | with_reducible apply LSub.take | with_reducible apply LSub.drop)))); (· exact sing_mem (.tail _ (.tail _ (.tail _ (List.mem_append_right _ (.head _)))))); (· rfl); (· rfl); (· rfl)
      repeat (first | refine pl_nil ?_ | (show PlanS _ _ _ _ _ _ _ _ _ _ ((_, true, _) :: _) _ _ _; first | refine pzq ?_) | (show PlanS _ _ _ _ _ _ _ _ none [] ((_, false, _) :: _) _ _ _; first | refine pzn ?_ | refine pze ?_))
      apply pl_nS
      · apply e_deleteS (enc := encT) (a := s) (es := es) (clock := clock) (ks := [some .i64, some .i64])
        · rfl
        · rfl
        · exact encT_ok
        · (repeat (first | apply Upd.here | apply Upd.there))
      (· rfl); (· rfl); (· intro _ _ _ c hc; cases hc); (· exact fun _ _ _ x hx ha => anc_all (by kernel_rfl) hx ha)
      rintro _ _ ⟨rfl, rfl⟩
      repeat (first | refine pl_nil ?_ | (show PlanS _ _ _ _ _ _ _ _ _ _ ((_, true, _) :: _) _ _ _; first | refine pzq ?_) | (show PlanS _ _ _ _ _ _ _ _ none [] ((_, false, _) :: _) _ _ _; first | refine pzn ?_ | refine pze ?_))
      repeat (first | (show OpsS _ _ _ _ _ _ (_ :: _) _ _ _; first | refine ozq ?_ | refine ozn ?_) | refine c_seq ?_ | refine p_then ?_ | refine c_region ?_ | refine s_nil ?_ | refine c_cond_t rfl ?_ | refine c_cond_f rfl ?_ | refine c_block ?_ | refine c_skip ?_ | refine p_block ?_ | refine p_block_here ?_ | refine p_block_on rfl ?_ | refine c_ret ?_ | refine p_then_ret ?_ | refine p_block_ret ?_ | refine p_end ?_ | refine c_if_t rfl (by omega) ?_ | refine c_if_f rfl (by omega) ?_)
      have e3 : ∀ q, (F3 q).sl = (F q).sl ∧ (F3 q).dp = (F1 q).dp := fun q => by
        rw [← (e1 q).1, hF3, hF2]; unfold upd
        split <;> split <;> simp_all
      have e3n : ∀ q, (F3 q).nx = if q = pp then nn else (F q).nx := fun q => by
        rw [← (e1 q).2.1, hF3, hF2]; unfold upd
        split <;> split <;> simp_all
      have e3p : ∀ q, (F3 q).pv = if q = nn then pp else (F q).pv := fun q => by
        rw [← (e1 q).2.2, hF3, hF2]; unfold upd
        split <;> split <;> simp_all
      have eA : ∀ q, q ∈ A → (F3 q).sl = (F q).sl ∧ (F3 q).dp = (F q).dp := fun q hq => by
        refine ⟨(e3 q).1, ?_⟩
        rw [(e3 q).2, e1o q fun h => ?_]
        have hn := (List.nodup_cons.1 hT.ond).2
        exact (List.nodup_append.1 hn).2.2 q hq q (.tail _ (htwB q h)) rfl
      obtain ⟨lq', hlq'⟩ : ∃ lq', lq' = trC b rb m :: (m, mapS encT (delS s es) clock) :: chs F3 all := ⟨_, rfl⟩
      refine k_ret2 [Dd] (trC b rb m :: (m, mapS encT (delS s es) clock) :: (chs F3 all ++ (slC b3 s :: G))) rfl (l' := lq' ++ G) .refl (by (repeat (first | apply ResS.nil | (apply rs_tmp; (· rfl)) | (apply rs_cell1; (· rfl); (· ((repeat (first | with_reducible apply List.mem_cons_self | with_reducible apply List.mem_cons_of_mem)); try with_reducible assumption)); (· rfl)) | (apply rs_cellA; (· rfl); (· ((repeat (first | with_reducible apply List.mem_cons_self | with_reducible apply List.mem_cons_of_mem)); try with_reducible assumption)); (· (repeat (first | with_reducible apply LSub.done | with_reducible apply LSub.take | with_reducible apply LSub.drop))))))) ?_ ⟨rfl, lq', ⟨rb, m, F3, all, A ++ B, _, _, ?_, ⟨hlq', hT.nd, hT.rin, fun q hq => hT.sub q ?_, ?_, ?_, ?_, hT.keys.del s, fun s' => ?_⟩⟩, rfl⟩
      · have h9 := hk2 lq'; rw [hlq'] at h9; rw [hlq']; exact h9
      · show dOf F3 (A ++ B) = dOf F A ++ dOf F1 B
        have : dOf F3 (A ++ B) = dOf F3 A ++ dOf F3 B := by unfold dOf; rw [List.map_append]
        rw [this, dOf_congr (F := F) (F' := F3) (os := A) eA, dOf_congr (F := F1) (F' := F3) (os := B) fun q hq => ⟨by rw [(e3 q).1, (e1 q).1], (e3 q).2⟩]
      · rcases List.mem_append.1 hq with hq | hq
        · exact List.mem_append_left _ hq
        · exact List.mem_append_right _ (.tail _ hq)
      · exact hT.ond.sublist (List.Sublist.cons_cons _ (List.Sublist.append_left (List.sublist_cons_self _ _) _))
      · have hL2 : rb :: (A ++ B ++ [rb]) = X ++ pp :: nn :: Z := by
          have : rb :: (A ++ B ++ [rb]) = (rb :: A) ++ (B ++ [rb]) := by simp
          rw [this, hXp, hnZ]; simp
        rw [hL2]
        refine adj_remove hadj ?_ ?_ (fun u h1 => ?_) (fun v h1 => ?_) ?_ ?_
        · rw [← hL, ← List.cons_append, List.dropLast_concat]; exact hT.ond
        · rw [← hL, List.tail_cons, List.nodup_append]
          have := List.nodup_cons.1 hT.ond
          exact ⟨this.2, by simp, fun a ha c hc e => this.1 (by rw [List.mem_singleton.1 hc] at e; rw [← e]; exact ha)⟩
        · rw [e3n, if_neg h1]
        · rw [e3p, if_neg h1]
        · rw [e3n, if_pos rfl]
        · rw [e3p, if_pos rfl]
      · rw [show (A ++ B).map (fun q => (F3 q).sl) = (A ++ B).map (fun q => (F q).sl) from List.map_congr_left fun q _ => (e3 q).1]
        exact hT.snd.sublist ((List.Sublist.append_left (List.sublist_cons_self _ _) _).map _)
      · show _ = (blk F3 (A ++ B) s').map _
        rw [getS_del hT.keys, hT.get]
        show (if s' = s then none else (blk F (A ++ p :: B) s').map _) = _
        rw [blk_congr (F := F) (F' := F3) fun q _ => (e3 q).1, blk_app, hps]
        have hAB : blk F (A ++ B) s' = (blk F A s').or (blk F B s') := by unfold blk; rw [List.find?_append]
        rw [hAB]
        by_cases hss : s' = s
        · subst hss
          rw [hps] at uA uB
          rw [if_pos rfl, blk_none_iff.2 uA, blk_none_iff.2 uB]; rfl
        · rw [if_neg hss, if_neg (show ¬ s = s' from fun e => hss e.symm)]
    · rintro Dd c pre l' hsp h
      exact h.elim
end Go.Proofs.Ytidkpfkkljcnaaa
