/- The tree: the links below one. -/
import Derived.Test.YtidkpfkkljcnaaaU0
import Derived.Test.YtidkpfkkljcnaaaJ2
set_option linter.unusedVariables false
set_option linter.unusedSimpArgs false
namespace Go.Proofs.Ytidkpfkkljcnaaa
open Go.RowKit

theorem tw_take {α : Type} {P : α → Bool} {pre : List α} {y : α} {Y : List α} (h1 : pre ++ [y] <+: Y) (h2 : pre <+: Y.takeWhile P) (hy : P y = true) : pre ++ [y] <+: Y.takeWhile P := by
  obtain ⟨r, rfl⟩ := h1
  have hp : ∀ x, x ∈ pre → P x = true := fun x hx => List.all_eq_true.1 (List.all_takeWhile (p := P)) x (h2.subset hx)
  rw [List.append_assoc, List.takeWhile_append_of_pos hp]
  show pre ++ [y] <+: pre ++ List.takeWhile P (y :: r)
  rw [List.takeWhile_cons_of_pos hy]
  exact ⟨r.takeWhile P, by simp⟩
theorem tw_stop {α : Type} {P : α → Bool} {pre : List α} {y : α} {Y : List α} (h1 : pre ++ [y] <+: Y) (h2 : pre <+: Y.takeWhile P) (hy : P y = false) : pre = Y.takeWhile P := by
  obtain ⟨r, rfl⟩ := h1
  have hp : ∀ x, x ∈ pre → P x = true := fun x hx => List.all_eq_true.1 (List.all_takeWhile (p := P)) x (h2.subset hx)
  rw [List.append_assoc, List.takeWhile_append_of_pos hp]
  show pre = pre ++ List.takeWhile P (y :: r)
  rw [List.takeWhile_cons_of_neg (by rw [hy]; simp), List.append_nil]
theorem tw_all {α : Type} {P : α → Bool} {Y : List α} (h2 : Y <+: Y.takeWhile P) : Y = Y.takeWhile P := (h2.sublist.eq_of_length_le (List.takeWhile_prefix P).length_le)
theorem Keep.in_mid (A B C : List Chunk) : Keep (A ++ (B ++ C)) (B ++ (A ++ C)) := Keep.of_perm (List.perm_append_comm_assoc A B C)
set_option pp.deepTerms false
set_option pp.deepTerms.threshold 4
set_option maxHeartbeats 400000
/-- the depths of those that did not come yet are as they were -/
def Dps (F : Nat → NdT) (L pre : List Nat) (l : List Chunk) : Prop := ∀ q, q ∈ L → ∃ x : NdT, ndC q x ∈ l ∧ x.nx = (F q).nx ∧ (q ∉ pre → x.dp = (F q).dp)
theorem below_iter (B1 B2 b rb m p : Nat) (F : Nat → NdT) (all os : List Nat) (es : List (EntS SlotT)) (clock : Nat) (lq : List Chunk) (hT : TB b rb m F all os es clock lq) (X Y : List Nat) (hX : rb :: os = X ++ p :: Y) :
    IterS Try.prog 45 [.pointer (some ⟨B2, 0, none⟩), .pointer (some ⟨B1, 0, none⟩)] (fun q : Nat => [.pointer (some ⟨q, 0, none⟩)]) (fun xs => xs = Y.takeWhile fun q => decide ((F p).dp < (F q).dp)) (fun pre => pre <+: Y.takeWhile fun q => decide ((F p).dp < (F q).dp))
      (fun pre l => bxL B1 p ∈ l ∧ bxT B2 b ∈ l ∧ trC b rb m ∈ l ∧ Dps F (rb :: os) pre l) := by
  refine ⟨fun r I Ix G0 hneed hY l G hG h0 => ?_⟩
  have hnd : (p :: Y).Nodup := by have := hT.ond; rw [hX] at this; exact (List.nodup_append.1 this).2.1
  have hpc : p ∈ rb :: os := by rw [hX]; simp
  obtain ⟨tw, htw⟩ : ∃ tw, tw = Y.takeWhile fun q => decide ((F p).dp < (F q).dp) := ⟨_, rfl⟩
  rw [← htw] at hY ⊢
  obtain ⟨n1, n2, n3, n4⟩ := hneed _ _ G hG h0
  refine fn_of_body Try.func45 rfl rfl fun E => ?_
  simp only [argF, Try.ntmps45]
  repeat (first | (show OpsS _ _ _ _ _ _ (_ :: _) _ _ _; first | refine ozq ?_) | refine c_seq ?_ | refine p_then ?_ | refine c_region ?_ | refine s_nil ?_ | refine c_cond_t rfl ?_ | refine c_cond_f rfl ?_ | refine c_block ?_ | refine c_skip ?_ | refine c_exit ?_ | refine p_block ?_ | refine p_then_exit ?_ | refine p_block_here ?_ | refine p_block_on rfl ?_ | refine c_ret ?_ | refine p_then_ret ?_ | refine p_block_ret ?_ | refine c_scope ?_ | refine c_label ?_ | refine p_scope ?_ | refine p_scope_ret ?_ | refine p_scope_exit ?_ | refine p_end ?_ | refine c_if_t rfl (by omega) ?_ | refine c_if_f rfl (by omega) ?_)
  (first | refine t_e (e_box1 rfl rfl) rfl rfl rfl ?_ | refine t_e (e_boxA rfl) rfl rfl rfl ?_); rintro _ _ ⟨b3, _, rfl, rfl⟩
  repeat (first | (show OpsS _ _ _ _ _ _ (_ :: _) _ _ _; first | refine ozq ?_) | refine c_seq ?_ | refine p_then ?_ | refine c_region ?_ | refine s_nil ?_ | refine c_cond_t rfl ?_ | refine c_cond_f rfl ?_ | refine c_block ?_ | refine c_skip ?_ | refine c_exit ?_ | refine p_block ?_ | refine p_then_exit ?_ | refine p_block_here ?_ | refine p_block_on rfl ?_ | refine c_ret ?_ | refine p_then_ret ?_ | refine p_block_ret ?_ | refine c_scope ?_ | refine c_label ?_ | refine p_scope ?_ | refine p_scope_ret ?_ | refine p_scope_exit ?_ | refine p_end ?_ | refine c_if_t rfl (by omega) ?_ | refine c_if_f rfl (by omega) ?_)
  refine t_e (e_call rfl rfl (behind_any _ _ _)) rfl rfl rfl ?_
  rintro v l' ⟨C1, C2, rfl, rfl⟩
  repeat (first | (show OpsS _ _ _ _ _ _ (_ :: _) _ _ _; first | refine ozq ?_) | refine c_seq ?_ | refine p_then ?_ | refine c_region ?_ | refine s_nil ?_ | refine c_cond_t rfl ?_ | refine c_cond_f rfl ?_ | refine c_block ?_ | refine c_skip ?_ | refine c_exit ?_ | refine p_block ?_ | refine p_then_exit ?_ | refine p_block_here ?_ | refine p_block_on rfl ?_ | refine c_ret ?_ | refine p_then_ret ?_ | refine p_block_ret ?_ | refine c_scope ?_ | refine c_label ?_ | refine p_scope ?_ | refine p_scope_ret ?_ | refine p_scope_exit ?_ | refine p_end ?_ | refine c_if_t rfl (by omega) ?_ | refine c_if_f rfl (by omega) ?_)
  refine c_range (α := Nat) (ps := [8]) (lb := [.pointer (some ⟨C1, 0, none⟩), .pointer (some ⟨C2, 0, none⟩)]) rfl (behind_iter C1 C2 b rb m p F all os es clock lq hT X Y hX) (fun _ => rfl) rfl
    (fun pre l => ∃ l1, I pre l1 ∧ pre <+: tw ∧ l = [bxL C1 p, bxT C2 b, (b3, .cells #[.func (.yield r) #[] #[]] 75 (0, 0))] ++ l1)
    (fun c pre l => c = .exit 0 ∧ ∃ l1, ((pre <+: tw ∧ Ix pre l1) ∨ I tw l1) ∧ l = [bxL C1 p, bxT C2 b, (b3, .cells #[.func (.yield r) #[] #[]] 75 (0, 0))] ++ l1)
    _ G (fun pre l2 X2 hX2 h => by
      obtain ⟨l1, hI, _, rfl⟩ := h
      obtain ⟨k1, k2, k3, k4⟩ := hneed _ _ X2 (fun c hc => hX2 c (hG c hc)) hI
      refine ⟨.head _, .tail _ (.head _), .tail _ (.tail _ (.tail _ k3)), fun q hq => ?_⟩
      obtain ⟨x, h1, h2, h3⟩ := k4 q hq
      exact ⟨x, .tail _ (.tail _ (.tail _ h1)), h2⟩) (by ((try simp only [List.cons_append, List.nil_append, List.map_cons, List.map_nil]); repeat (first | with_reducible apply Keep.refl | (apply Keep.pick; · (repeat (first | apply Pick.here | apply Pick.there))) | apply Keep.drop))) ⟨l, h0, List.nil_prefix, rfl⟩ ?_ ?_ ?_
  · rintro E r0 rec pre y l' T ⟨fn, tmps, D, rfl⟩ hT0 ⟨l1, hI, hpt, rfl⟩ hsp
    simp only [putPs, List.cons_append, List.nil_append]
    repeat (first | (show OpsS _ _ _ _ _ _ (_ :: _) _ _ _; first | refine ozq ?_) | refine c_seq ?_ | refine p_then ?_ | refine c_region ?_ | refine s_nil ?_ | refine c_cond_t rfl ?_ | refine c_cond_f rfl ?_ | refine c_block ?_ | refine c_skip ?_ | refine c_exit ?_ | refine p_block ?_ | refine p_then_exit ?_ | refine p_block_here ?_ | refine p_block_on rfl ?_ | refine c_ret ?_ | refine p_then_ret ?_ | refine p_block_ret ?_ | refine c_scope ?_ | refine c_label ?_ | refine p_scope ?_ | refine p_scope_ret ?_ | refine p_scope_exit ?_ | refine p_end ?_ | refine c_if_t rfl (by omega) ?_ | refine c_if_f rfl (by omega) ?_)
    refine p_begin (.there (.there (.there (upd_mid _ _ _ _ _)))) ?_
    generalize hX1 : (r0, Obj.loop (recOf fn tmps _ _ _ D .busy none)) :: T = X1
    have hG1 : ∀ c, c ∈ G0 → c ∈ X1 := fun c hc => by rw [← hX1]; exact .tail _ (hT0 c (hG c hc))
    have hyp : y ∉ pre ∧ p ∉ pre ∧ y ∈ rb :: os := by
      obtain ⟨r9, h9⟩ := hsp
      rw [← h9] at hnd hX
      refine ⟨fun h => ?_, fun h => ?_, by rw [hX]; simp⟩
      · have := (List.nodup_append.1 (List.nodup_append.1 (List.nodup_cons.1 hnd).2).1).2.2 y h y (by simp)
        exact this rfl
      · exact (List.nodup_cons.1 hnd).1 (by simp [h])
    obtain ⟨k1, k2, k3, k4⟩ := hneed _ _ X1 hG1 hI
    obtain ⟨xy, hxy, _, hyd⟩ := k4 y hyp.2.2
    obtain ⟨xp, hxp, _, hpd⟩ := k4 p hpc
    have hyd := hyd hyp.1
    have hpd := hpd hyp.2.1
    by_cases hlt : (F p).dp < (F y).dp
    · have hpt2 : pre ++ [y] <+: tw := by rw [htw] at hpt ⊢; exact tw_take hsp hpt (decide_eq_true hlt)
      repeat (first | (show OpsS _ _ _ _ _ _ (_ :: _) _ _ _; first | refine ozq ?_) | refine c_seq ?_ | refine p_then ?_ | refine c_region ?_ | refine s_nil ?_ | refine c_cond_t rfl ?_ | refine c_cond_f rfl ?_ | refine c_block ?_ | refine c_skip ?_ | refine c_exit ?_ | refine p_block ?_ | refine p_then_exit ?_ | refine p_block_here ?_ | refine p_block_on rfl ?_ | refine c_ret ?_ | refine p_then_ret ?_ | refine p_block_ret ?_ | refine c_scope ?_ | refine c_label ?_ | refine p_scope ?_ | refine p_scope_ret ?_ | refine p_scope_exit ?_ | refine p_end ?_ | refine c_if_t rfl (by omega) ?_ | refine c_if_f rfl (by omega) ?_)
      refine c_draw [(0, true), (1, true), (2, true), (3, true), (4, true), (5, true), (6, true), (7, true), (8, true), (9, true), (10, true), (11, true), (12, false), (13, true), (14, true)] [[], [0], [0, 1], [0, 1, 2], [], [4], [4, 5], [4, 5, 6], [0, 1, 2, 3, 4, 5, 6, 7], [0, 1, 2, 3, 4, 5, 6, 7, 8], [0, 1, 2, 3, 4, 5, 6, 7, 8, 9], [0, 1, 2, 3, 4, 5, 6, 7, 8, 9], [0, 1, 2, 3, 4, 5, 6, 7, 8, 9, 10, 11], [0, 1, 2, 3, 4, 5, 6, 7, 8, 9, 10, 11, 12], [0, 1, 2, 3, 4, 5, 6, 7, 8, 9, 10, 11, 12, 13]] ([(b3, .cells #[.func (.yield r) #[] #[]] 75 (0, 0))]) (by kernel_rfl) (by kernel_rfl) (by (repeat (first | apply Attach.nil | (apply Attach.cons; · rfl)))) (List.Sublist.subset (by (repeat (first | with_reducible apply List.Sublist.refl | with_reducible apply List.nil_sublist | with_reducible apply List.Sublist.cons_cons | with_reducible apply List.Sublist.cons)))) ?_
      repeat (first | refine pl_nil ?_ | (show PlanS _ _ _ _ _ _ _ _ _ _ ((_, true, _) :: _) _ _ _; first | refine pzq ?_ | refine pzt ?_ | refine pzf ?_) | (show PlanS _ _ _ _ _ _ _ _ none [] ((_, _, _) :: _) _ _ _; first | refine pzs ?_ | refine pzs0 ?_) | (show PlanS _ _ _ _ _ _ _ _ _ _ ((_, _, _) :: _) _ _ _; first | refine pzt ?_ | refine pzf ?_) | (show PlanS _ _ _ _ _ _ _ _ none [] ((_, false, _) :: _) _ _ _; first | refine pze ?_))
      apply pl_s (S := [ndC y xy])
      · exact q_load rfl (.head _) rfl
      · intro c hc; cases hc with
        | head => exact .tail _ (.tail _ (.tail _ hxy))
        | tail _ h => cases h
      · rfl
      · rfl
      · rfl
      repeat (first | refine pl_nil ?_ | (show PlanS _ _ _ _ _ _ _ _ _ _ ((_, true, _) :: _) _ _ _; first | refine pzq ?_ | refine pzt ?_ | refine pzf ?_) | (show PlanS _ _ _ _ _ _ _ _ none [] ((_, _, _) :: _) _ _ _; first | refine pzs ?_ | refine pzs0 ?_) | (show PlanS _ _ _ _ _ _ _ _ _ _ ((_, _, _) :: _) _ _ _; first | refine pzt ?_ | refine pzf ?_) | (show PlanS _ _ _ _ _ _ _ _ none [] ((_, false, _) :: _) _ _ _; first | refine pze ?_))
      apply pl_s (S := [bxL B1 p])
      · exact q_load rfl (.head _) rfl
      · intro c hc; cases hc with
        | head => exact .tail _ (.tail _ (.tail _ k1))
        | tail _ h => cases h
      · rfl
      · rfl
      · rfl
      repeat (first | refine pl_nil ?_ | (show PlanS _ _ _ _ _ _ _ _ _ _ ((_, true, _) :: _) _ _ _; first | refine pzq ?_ | refine pzt ?_ | refine pzf ?_) | (show PlanS _ _ _ _ _ _ _ _ none [] ((_, _, _) :: _) _ _ _; first | refine pzs ?_ | refine pzs0 ?_) | (show PlanS _ _ _ _ _ _ _ _ _ _ ((_, _, _) :: _) _ _ _; first | refine pzt ?_ | refine pzf ?_) | (show PlanS _ _ _ _ _ _ _ _ none [] ((_, false, _) :: _) _ _ _; first | refine pze ?_))
      apply pl_s (S := [ndC p xp])
      · exact q_load rfl (.head _) rfl
      · intro c hc; cases hc with
        | head => exact .tail _ (.tail _ (.tail _ hxp))
        | tail _ h => cases h
      · rfl
      · rfl
      · rfl
      repeat (first | refine pl_nil ?_ | (show PlanS _ _ _ _ _ _ _ _ _ _ ((_, true, _) :: _) _ _ _; first | refine pzq ?_ | refine pzt ?_ | refine pzf ?_) | (show PlanS _ _ _ _ _ _ _ _ none [] ((_, _, _) :: _) _ _ _; first | refine pzs ?_ | refine pzs0 ?_) | (show PlanS _ _ _ _ _ _ _ _ _ _ ((_, _, _) :: _) _ _ _; first | refine pzt ?_ | refine pzf ?_) | (show PlanS _ _ _ _ _ _ _ _ none [] ((_, false, _) :: _) _ _ _; first | refine pze ?_))
      apply pl_geS
      · apply OpE.re (K' := fun v l3 => ∃ l2, l3 = bxL C1 p :: bxT C2 b :: (b3, .cells #[.func (.yield r) #[] #[]] 75 (0, 0)) :: (l2 ++ X1) ∧ ((v = .bool true ∧ I (pre ++ [y]) l2) ∨ (v = .bool false ∧ Ix (pre ++ [y]) l2))) (Keep.in_mid [bxL C1 p, bxT C2 b, (b3, .cells #[.func (.yield r) #[] #[]] 75 (0, 0))] l1 X1)
        · exact e_yield rfl rfl (hY pre y l1 _ (fun c hc => .tail _ (.tail _ (.tail _ (hG1 c hc)))) hI hpt2)
        · rintro v _ ⟨l2, rfl, hor⟩
          exact ⟨_, Keep.in_mid l2 [bxL C1 p, bxT C2 b, (b3, .cells #[.func (.yield r) #[] #[]] 75 (0, 0))] X1, l2, rfl, hor⟩
      · rfl
      · rfl
      · rfl
      · rintro _ _ ⟨l2, rfl, _⟩ c hc
        cases hc with
        | head => exact .tail _ (.tail _ (.head _))
        | tail _ h => cases h
      · exact fun _ _ _ x hx ha => anc_all (by kernel_rfl) hx ha
      rintro v _ ⟨l2, rfl, ⟨rfl, hI2⟩ | ⟨rfl, hI2⟩⟩
      · repeat (first | refine pl_nil ?_ | (show PlanS _ _ _ _ _ _ _ _ _ _ ((_, true, _) :: _) _ _ _; first | refine pzq ?_ | refine pzt ?_ | refine pzf ?_) | (show PlanS _ _ _ _ _ _ _ _ none [] ((_, _, _) :: _) _ _ _; first | refine pzs ?_ | refine pzs0 ?_) | (show PlanS _ _ _ _ _ _ _ _ _ _ ((_, _, _) :: _) _ _ _; first | refine pzt ?_ | refine pzf ?_) | (show PlanS _ _ _ _ _ _ _ _ none [] ((_, false, _) :: _) _ _ _; first | refine pze ?_))
        repeat (first | (show OpsS _ _ _ _ _ _ (_ :: _) _ _ _; first | refine ozq ?_) | refine c_seq ?_ | refine p_then ?_ | refine c_region ?_ | refine s_nil ?_ | refine c_cond_t rfl ?_ | refine c_cond_f rfl ?_ | refine c_block ?_ | refine c_skip ?_ | refine c_exit ?_ | refine p_block ?_ | refine p_then_exit ?_ | refine p_block_here ?_ | refine p_block_on rfl ?_ | refine c_ret ?_ | refine p_then_ret ?_ | refine p_block_ret ?_ | refine c_scope ?_ | refine c_label ?_ | refine p_scope ?_ | refine p_scope_ret ?_ | refine p_scope_exit ?_ | refine p_end ?_ | refine c_if_t rfl (by omega) ?_ | refine c_if_f rfl (by omega) ?_)
        rw [← hX1]
        exact p_round _ (.refl) ⟨l2, hI2, hpt2, rfl⟩
      · repeat (first | refine pl_nil ?_ | (show PlanS _ _ _ _ _ _ _ _ _ _ ((_, true, _) :: _) _ _ _; first | refine pzq ?_ | refine pzt ?_ | refine pzf ?_) | (show PlanS _ _ _ _ _ _ _ _ none [] ((_, _, _) :: _) _ _ _; first | refine pzs ?_ | refine pzs0 ?_) | (show PlanS _ _ _ _ _ _ _ _ _ _ ((_, _, _) :: _) _ _ _; first | refine pzt ?_ | refine pzf ?_) | (show PlanS _ _ _ _ _ _ _ _ none [] ((_, false, _) :: _) _ _ _; first | refine pze ?_))
        repeat (first | (show OpsS _ _ _ _ _ _ (_ :: _) _ _ _; first | refine ozq ?_) | refine c_seq ?_ | refine p_then ?_ | refine c_region ?_ | refine s_nil ?_ | refine c_cond_t rfl ?_ | refine c_cond_f rfl ?_ | refine c_block ?_ | refine c_skip ?_ | refine c_exit ?_ | refine p_block ?_ | refine p_then_exit ?_ | refine p_block_here ?_ | refine p_block_on rfl ?_ | refine c_ret ?_ | refine p_then_ret ?_ | refine p_block_ret ?_ | refine c_scope ?_ | refine c_label ?_ | refine p_scope ?_ | refine p_scope_ret ?_ | refine p_scope_exit ?_ | refine p_end ?_ | refine c_if_t rfl (by omega) ?_ | refine c_if_f rfl (by omega) ?_)
        rw [← hX1]
        exact p_round_exit _ (.refl) ⟨rfl, l2, .inl ⟨hpt2, hI2⟩, rfl⟩
    · have hpt2 : pre = tw := by rw [htw] at hpt ⊢; exact tw_stop hsp hpt (decide_eq_false hlt)
      repeat (first | (show OpsS _ _ _ _ _ _ (_ :: _) _ _ _; first | refine ozq ?_) | refine c_seq ?_ | refine p_then ?_ | refine c_region ?_ | refine s_nil ?_ | refine c_cond_t rfl ?_ | refine c_cond_f rfl ?_ | refine c_block ?_ | refine c_skip ?_ | refine c_exit ?_ | refine p_block ?_ | refine p_then_exit ?_ | refine p_block_here ?_ | refine p_block_on rfl ?_ | refine c_ret ?_ | refine p_then_ret ?_ | refine p_block_ret ?_ | refine c_scope ?_ | refine c_label ?_ | refine p_scope ?_ | refine p_scope_ret ?_ | refine p_scope_exit ?_ | refine p_end ?_ | refine c_if_t rfl (by omega) ?_ | refine c_if_f rfl (by omega) ?_)
      refine c_draw [(0, true), (1, true), (2, true), (3, true), (4, true), (5, true), (6, true), (7, true), (8, true), (9, true), (10, true), (11, true), (12, false), (13, true), (14, true)] [[], [0], [0, 1], [0, 1, 2], [], [4], [4, 5], [4, 5, 6], [0, 1, 2, 3, 4, 5, 6, 7], [0, 1, 2, 3, 4, 5, 6, 7, 8], [0, 1, 2, 3, 4, 5, 6, 7, 8, 9], [0, 1, 2, 3, 4, 5, 6, 7, 8, 9], [0, 1, 2, 3, 4, 5, 6, 7, 8, 9, 10, 11], [0, 1, 2, 3, 4, 5, 6, 7, 8, 9, 10, 11, 12], [0, 1, 2, 3, 4, 5, 6, 7, 8, 9, 10, 11, 12, 13]] _ (by kernel_rfl) (by kernel_rfl) (by (repeat (first | apply Attach.nil | (apply Attach.cons; · rfl)))) (fun _ h => h) ?_
      repeat (first | refine pl_nil ?_ | (show PlanS _ _ _ _ _ _ _ _ _ _ ((_, true, _) :: _) _ _ _; first | refine pzq ?_ | refine pzt ?_ | refine pzf ?_) | (show PlanS _ _ _ _ _ _ _ _ none [] ((_, _, _) :: _) _ _ _; first | refine pzs ?_ | refine pzs0 ?_) | (show PlanS _ _ _ _ _ _ _ _ _ _ ((_, _, _) :: _) _ _ _; first | refine pzt ?_ | refine pzf ?_) | (show PlanS _ _ _ _ _ _ _ _ none [] ((_, false, _) :: _) _ _ _; first | refine pze ?_))
      repeat (first | (show OpsS _ _ _ _ _ _ (_ :: _) _ _ _; first | refine ozq ?_) | refine c_seq ?_ | refine p_then ?_ | refine c_region ?_ | refine s_nil ?_ | refine c_cond_t rfl ?_ | refine c_cond_f rfl ?_ | refine c_block ?_ | refine c_skip ?_ | refine c_exit ?_ | refine p_block ?_ | refine p_then_exit ?_ | refine p_block_here ?_ | refine p_block_on rfl ?_ | refine c_ret ?_ | refine p_then_ret ?_ | refine p_block_ret ?_ | refine c_scope ?_ | refine c_label ?_ | refine p_scope ?_ | refine p_scope_ret ?_ | refine p_scope_exit ?_ | refine p_end ?_ | refine c_if_t rfl (by omega) ?_ | refine c_if_f rfl (by omega) ?_)
      rw [← hX1]
      exact p_round_exit _ (.refl) ⟨rfl, l1, .inr (hpt2 ▸ hI), rfl⟩
  · rintro D xs l' rfl ⟨l1, hI, hpt, rfl⟩
    simp only [List.cons_append, List.nil_append]
    have hall : xs = tw := by rw [htw] at hpt ⊢; exact tw_all hpt
    repeat (first | (show OpsS _ _ _ _ _ _ (_ :: _) _ _ _; first | refine ozq ?_) | refine c_seq ?_ | refine p_then ?_ | refine c_region ?_ | refine s_nil ?_ | refine c_cond_t rfl ?_ | refine c_cond_f rfl ?_ | refine c_block ?_ | refine c_skip ?_ | refine c_exit ?_ | refine p_block ?_ | refine p_then_exit ?_ | refine p_block_here ?_ | refine p_block_on rfl ?_ | refine c_ret ?_ | refine p_then_ret ?_ | refine p_block_ret ?_ | refine c_scope ?_ | refine c_label ?_ | refine p_scope ?_ | refine p_scope_ret ?_ | refine p_scope_exit ?_ | refine p_end ?_ | refine c_if_t rfl (by omega) ?_ | refine c_if_f rfl (by omega) ?_)
    exact k_ret2 [D] (l1 ++ G) rfl (l' := l1 ++ G) (by ((try simp only [List.cons_append, List.nil_append, List.map_cons, List.map_nil]); repeat (first | with_reducible apply Keep.refl | (apply Keep.pick; · (repeat (first | apply Pick.here | apply Pick.there))) | apply Keep.drop))) (by (repeat (first | apply ResS.nil | (apply rs_tmp; (· rfl)) | (apply rs_cell1; (· rfl); (· ((repeat (first | with_reducible apply List.mem_cons_self | with_reducible apply List.mem_cons_of_mem)); try with_reducible assumption)); (· rfl)) | (apply rs_cellA; (· rfl); (· ((repeat (first | with_reducible apply List.mem_cons_self | with_reducible apply List.mem_cons_of_mem)); try with_reducible assumption)); (· (repeat (first | with_reducible apply LSub.done | with_reducible apply LSub.take | with_reducible apply LSub.drop))))))) .refl ⟨l1, rfl, .inl ⟨_, rfl, hall ▸ hI⟩⟩
  · rintro D c pre l' hsp ⟨rfl, l1, hor, rfl⟩
    simp only [List.cons_append, List.nil_append]
    repeat (first | (show OpsS _ _ _ _ _ _ (_ :: _) _ _ _; first | refine ozq ?_) | refine c_seq ?_ | refine p_then ?_ | refine c_region ?_ | refine s_nil ?_ | refine c_cond_t rfl ?_ | refine c_cond_f rfl ?_ | refine c_block ?_ | refine c_skip ?_ | refine c_exit ?_ | refine p_block ?_ | refine p_then_exit ?_ | refine p_block_here ?_ | refine p_block_on rfl ?_ | refine c_ret ?_ | refine p_then_ret ?_ | refine p_block_ret ?_ | refine c_scope ?_ | refine c_label ?_ | refine p_scope ?_ | refine p_scope_ret ?_ | refine p_scope_exit ?_ | refine p_end ?_ | refine c_if_t rfl (by omega) ?_ | refine c_if_f rfl (by omega) ?_)
    refine k_ret2 [D] (l1 ++ G) rfl (l' := l1 ++ G) (by ((try simp only [List.cons_append, List.nil_append, List.map_cons, List.map_nil]); repeat (first | with_reducible apply Keep.refl | (apply Keep.pick; · (repeat (first | apply Pick.here | apply Pick.there))) | apply Keep.drop))) (by (repeat (first | apply ResS.nil | (apply rs_tmp; (· rfl)) | (apply rs_cell1; (· rfl); (· ((repeat (first | with_reducible apply List.mem_cons_self | with_reducible apply List.mem_cons_of_mem)); try with_reducible assumption)); (· rfl)) | (apply rs_cellA; (· rfl); (· ((repeat (first | with_reducible apply List.mem_cons_self | with_reducible apply List.mem_cons_of_mem)); try with_reducible assumption)); (· (repeat (first | with_reducible apply LSub.done | with_reducible apply LSub.take | with_reducible apply LSub.drop))))))) .refl ⟨l1, rfl, ?_⟩
    rcases hor with ⟨h1, h2⟩ | h
    · exact .inr ⟨_, h1, h2⟩
    · exact .inl ⟨_, rfl, h⟩
end Go.Proofs.Ytidkpfkkljcnaaa
