/- The tree: Parent, Move. -/
import Derived.Test.YtidkpfkkljcnaaaU0
import Derived.Test.YtidkpfkkljcnaaaJ5
set_option linter.unusedVariables false
set_option linter.unusedSimpArgs false
namespace Go.Proofs.Ytidkpfkkljcnaaa
open Go.RowKit

theorem blk_none_iff {F : Nat → NdT} {os : List Nat} {s : SlotT} : blk F os s = none ↔ ∀ p, p ∈ os → (F p).sl ≠ s :=
  ⟨blk_none, fun h => List.find?_eq_none.2 fun q hq => by simpa using h q hq⟩
theorem blk_app {F : Nat → NdT} {A B : List Nat} {p : Nat} {s : SlotT} : blk F (A ++ p :: B) s = (blk F A s).or (if (F p).sl = s then some p else blk F B s) := by
  unfold blk
  rw [List.find?_append, List.find?_cons]
  congr 1
  by_cases h : (F p).sl = s
  · rw [decide_eq_true h, if_pos h]
  · rw [decide_eq_false h, if_neg h]
theorem blk_congr {F F' : Nat → NdT} {s : SlotT} : ∀ {os : List Nat}, (∀ q, q ∈ os → (F' q).sl = (F q).sl) → blk F' os s = blk F os s
  | [], _ => rfl
  | q :: os, h => by
    have ih := blk_congr (s := s) (os := os) fun z hz => h z (List.mem_cons_of_mem _ hz)
    unfold blk at ih ⊢
    rw [List.find?_cons, List.find?_cons, h q List.mem_cons_self, ih]
theorem dOf_congr {F F' : Nat → NdT} {os : List Nat} (h : ∀ q, q ∈ os → (F' q).sl = (F q).sl ∧ (F' q).dp = (F q).dp) : dOf F' os = dOf F os := by
  unfold dOf
  exact List.map_congr_left fun q hq => by rw [(h q hq).1, (h q hq).2]
theorem TB.uniq {b rb m : Nat} {F : Nat → NdT} {all A B : List Nat} {p : Nat} {es : List (EntS SlotT)} {clock : Nat} {lq : List Chunk} (h : TB b rb m F all (A ++ p :: B) es clock lq) : (∀ q, q ∈ A → (F q).sl ≠ (F p).sl) ∧ (∀ q, q ∈ B → (F q).sl ≠ (F p).sl) := by
  have hn := h.snd
  rw [List.map_append, List.map_cons] at hn
  refine ⟨fun q hq e => ?_, fun q hq e => ?_⟩
  · exact (List.nodup_append.1 hn).2.2 _ (List.mem_map.2 ⟨q, hq, rfl⟩) _ List.mem_cons_self e
  · exact (List.nodup_cons.1 (List.nodup_append.1 hn).2.1).1 (List.mem_map.2 ⟨q, hq, e⟩)
theorem TB.out {b rb m : Nat} {F : Nat → NdT} {all A B : List Nat} {p : Nat} {es : List (EntS SlotT)} {clock : Nat} {lq : List Chunk} (h : TB b rb m F all (A ++ p :: B) es clock lq) : p ∉ A ∧ p ∉ B ∧ rb ∉ A ∧ rb ∉ B ∧ p ≠ rb := by
  have hn := List.nodup_cons.1 h.ond
  have h2 := List.nodup_append.1 hn.2
  refine ⟨fun hp => h2.2.2 p hp p List.mem_cons_self rfl, (List.nodup_cons.1 h2.2.1).1, fun hr => hn.1 (List.mem_append_left _ hr), fun hr => hn.1 (List.mem_append_right _ (.tail _ hr)), fun e => hn.1 (by rw [← e]; simp)⟩
def parentD (D : DT) (s : SlotT) : SlotT × Bool := match splitD s D with
  | none => ((0, 0), false)
  | some (A, d, _) => match A.reverse.find? fun x => decide (x.2 < d) with
    | some y => (y.1, true)
    | none => ((0, 0), false)
def moveD (D : DT) (a c : SlotT) : Int × DT := match splitD a D with
  | none => (10, D)
  | some (A, d, B) => if hasD D c = true then (11, D) else (0, A ++ (c, d) :: B)
theorem TB.pvr {b rb m : Nat} {F : Nat → NdT} {all : List Nat} {es : List (EntS SlotT)} {clock : Nat} {lq : List Chunk} {A B : List Nat} {p : Nat} (h : TB b rb m F all (A ++ p :: B) es clock lq) : (F p).pv = A.reverse.headD rb := by
  rcases List.eq_nil_or_concat A with rfl | ⟨A', q, rfl⟩
  · exact h.prv (X := []) (Y := p :: B) rfl
  · have := h.prv (X := rb :: A') (Y := p :: B) (p := q) (by simp)
    rw [List.concat_eq_append, List.reverse_append]; exact this
set_option pp.deepTerms false
set_option pp.deepTerms.threshold 4
set_option maxHeartbeats 400000
theorem parent_any (b : Nat) (D : DT) (lq : List Chunk) (hq : IsT b D lq) (s : SlotT) (l : List Chunk) (hsub : ∀ c, c ∈ lq → c ∈ l) :
    Fn Try.prog 24 [.pointer (some ⟨b, 0, none⟩), .agg (List.toArray (encT s))] l fun v l' => v = .tuple #[.agg (List.toArray (encT (parentD D s).1)), .bool (parentD D s).2] ∧ l' = l := by
  obtain ⟨rb, m, F, all, os, es, clock, rfl, hT⟩ := hq
  refine fn_of_body Try.func24 rfl rfl fun E => ?_
  simp only [argF, Try.ntmps24]
  repeat (first | (show OpsS _ _ _ _ _ _ (_ :: _) _ _ _; first | refine ozq ?_ | refine ozn ?_) | refine c_seq ?_ | refine p_then ?_ | refine c_region ?_ | refine s_nil ?_ | refine c_cond_t rfl ?_ | refine c_cond_f rfl ?_ | refine c_block ?_ | refine c_skip ?_ | refine c_exit ?_ | refine p_block ?_ | refine p_then_exit ?_ | refine p_block_here ?_ | refine p_block_on rfl ?_ | refine c_ret ?_ | refine p_then_ret ?_ | refine p_block_ret ?_ | refine p_end ?_ | refine c_if_t rfl (by omega) ?_ | refine c_if_f rfl (by omega) ?_)
  refine t_e (e_boxA rfl) rfl rfl rfl ?_
  rintro _ _ ⟨b3, hb3, rfl, rfl⟩
  repeat (first | (show OpsS _ _ _ _ _ _ (_ :: _) _ _ _; first | refine ozq ?_ | refine ozn ?_) | refine c_seq ?_ | refine p_then ?_ | refine c_region ?_ | refine s_nil ?_ | refine c_cond_t rfl ?_ | refine c_cond_f rfl ?_ | refine c_block ?_ | refine c_skip ?_ | refine c_exit ?_ | refine p_block ?_ | refine p_then_exit ?_ | refine p_block_here ?_ | refine p_block_on rfl ?_ | refine c_ret ?_ | refine p_then_ret ?_ | refine p_block_ret ?_ | refine p_end ?_ | refine c_if_t rfl (by omega) ?_ | refine c_if_f rfl (by omega) ?_)
  refine t_e e_alloc rfl rfl rfl ?_; rintro _ _ ⟨b4, _, rfl, rfl⟩
  repeat (first | (show OpsS _ _ _ _ _ _ (_ :: _) _ _ _; first | refine ozq ?_ | refine ozn ?_) | refine c_seq ?_ | refine p_then ?_ | refine c_region ?_ | refine s_nil ?_ | refine c_cond_t rfl ?_ | refine c_cond_f rfl ?_ | refine c_block ?_ | refine c_skip ?_ | refine c_exit ?_ | refine p_block ?_ | refine p_then_exit ?_ | refine p_block_here ?_ | refine p_block_on rfl ?_ | refine c_ret ?_ | refine p_then_ret ?_ | refine p_block_ret ?_ | refine p_end ?_ | refine c_if_t rfl (by omega) ?_ | refine c_if_f rfl (by omega) ?_)
  refine t_q (q_call rfl rfl fun l2 hl2 => of_any b rb m F all os es clock lq s hT l2 fun c hc => hl2 c (.tail _ (.tail _ (hsub c hc)))) rfl rfl rfl ?_
  cases hbk : blk F os s with
  | none =>
    rw [show parentD (dOf F os) s = ((0, 0), false) by unfold parentD; rw [split_none hbk]]
    simp only [ptrO]
    repeat (first | (show OpsS _ _ _ _ _ _ (_ :: _) _ _ _; first | refine ozq ?_ | refine ozn ?_) | refine c_seq ?_ | refine p_then ?_ | refine c_region ?_ | refine s_nil ?_ | refine c_cond_t rfl ?_ | refine c_cond_f rfl ?_ | refine c_block ?_ | refine c_skip ?_ | refine c_exit ?_ | refine p_block ?_ | refine p_then_exit ?_ | refine p_block_here ?_ | refine p_block_on rfl ?_ | refine c_ret ?_ | refine p_then_ret ?_ | refine p_block_ret ?_ | refine p_end ?_ | refine c_if_t rfl (by omega) ?_ | refine c_if_f rfl (by omega) ?_)
    exact k_ret2 [] ((b4, .cells (List.toArray (encT (0, 0))) 29 (0, 0)) :: slC b3 s :: l) rfl (l' := l) .refl (by (repeat (first | apply ResS.nil | (apply rs_tmp; (· rfl)) | (apply rs_cell1; (· rfl); (· ((repeat (first | with_reducible apply List.mem_cons_self | with_reducible apply List.mem_cons_of_mem)); try with_reducible assumption)); (· rfl)) | (apply rs_cellA; (· rfl); (· ((repeat (first | with_reducible apply List.mem_cons_self | with_reducible apply List.mem_cons_of_mem)); try with_reducible assumption)); (· (repeat (first | with_reducible apply LSub.done | with_reducible apply LSub.take | with_reducible apply LSub.drop))))))) (.drop (.drop .refl)) ⟨rfl, rfl⟩
  | some p =>
    obtain ⟨A, B, rfl, h2⟩ := split_blk hbk
    have hps := (blk_some hbk).2
    have hmt := hsub _ hT.m1
    have hmr := hsub _ (hT.m3 hT.rin)
    have hmp := hsub _ (hT.m3 (hT.sub p (by simp)))
    simp only [ptrO]
    repeat (first | (show OpsS _ _ _ _ _ _ (_ :: _) _ _ _; first | refine ozq ?_ | refine ozn ?_) | refine c_seq ?_ | refine p_then ?_ | refine c_region ?_ | refine s_nil ?_ | refine c_cond_t rfl ?_ | refine c_cond_f rfl ?_ | refine c_block ?_ | refine c_skip ?_ | refine c_exit ?_ | refine p_block ?_ | refine p_then_exit ?_ | refine p_block_here ?_ | refine p_block_on rfl ?_ | refine c_ret ?_ | refine p_then_ret ?_ | refine p_block_ret ?_ | refine p_end ?_ | refine c_if_t rfl (by omega) ?_ | refine c_if_f rfl (by omega) ?_)
    rw [hT.pvr]
    repeat (first | (show OpsS _ _ _ _ _ _ (_ :: _) _ _ _; first | refine ozq ?_ | refine ozn ?_) | refine c_seq ?_ | refine p_then ?_ | refine c_region ?_ | refine s_nil ?_ | refine c_cond_t rfl ?_ | refine c_cond_f rfl ?_ | refine c_block ?_ | refine c_skip ?_ | refine c_exit ?_ | refine p_block ?_ | refine p_then_exit ?_ | refine p_block_here ?_ | refine p_block_on rfl ?_ | refine c_ret ?_ | refine p_then_ret ?_ | refine p_block_ret ?_ | refine p_end ?_ | refine c_if_t rfl (by omega) ?_ | refine c_if_f rfl (by omega) ?_)
    refine k_loop (α := List Nat × List Nat) (fun x => [(0, .pointer (some ⟨b, 0, none⟩)), (4, .pointer (some ⟨b4, 0, none⟩)), (6, .pointer (some ⟨p, 0, none⟩)), (7, .pointer (some ⟨x.2.headD rb, 0, none⟩))]) (fun x => (b4, .cells (List.toArray (encT (0, 0))) 29 (0, 0)) :: slC b3 s :: l) (fun x => A.reverse = x.1 ++ x.2 ∧ ∀ q, q ∈ x.1 → ¬ (F q).dp < (F p).dp) (fun x => x.2.length) ([], A.reverse) ⟨rfl, by simp⟩ ⟨rfl, rfl, rfl, rfl, trivial⟩ .refl ?_
    rintro ⟨seen, todo⟩ ⟨hst, hse⟩
    simp only at hst hse ⊢
    cases todo with
    | nil =>
      rw [List.append_nil] at hst
      rw [show parentD (dOf F (A ++ p :: B)) s = ((0, 0), false) by
        unfold parentD; rw [h2]; simp only
        rw [show (dOf F A).reverse.find? (fun x => decide (x.2 < (F p).dp)) = none from List.find?_eq_none.2 fun x hx => by
          unfold dOf at hx
          rw [← List.map_reverse, hst] at hx
          obtain ⟨q, hq, rfl⟩ := List.mem_map.1 hx
          simpa using hse q hq]]
      simp only [List.headD_nil]
      repeat (first | (show OpsS _ _ _ _ _ _ (_ :: _) _ _ _; first | refine ozq ?_ | refine ozn ?_) | refine c_seq ?_ | refine p_then ?_ | refine c_region ?_ | refine s_nil ?_ | refine c_cond_t rfl ?_ | refine c_cond_f rfl ?_ | refine c_block ?_ | refine c_skip ?_ | refine c_exit ?_ | refine p_block ?_ | refine p_then_exit ?_ | refine p_block_here ?_ | refine p_block_on rfl ?_ | refine c_ret ?_ | refine p_then_ret ?_ | refine p_block_ret ?_ | refine p_end ?_ | refine c_if_t rfl (by omega) ?_ | refine c_if_f rfl (by omega) ?_)
      refine t_q (q_neptr rfl rfl (by decide) (.tail _ (.tail _ hmr)) (.tail _ (.tail _ hmr))) rfl rfl rfl ?_
      rw [nep_f]
      repeat (first | (show OpsS _ _ _ _ _ _ (_ :: _) _ _ _; first | refine ozq ?_ | refine ozn ?_) | refine c_seq ?_ | refine p_then ?_ | refine c_region ?_ | refine s_nil ?_ | refine c_cond_t rfl ?_ | refine c_cond_f rfl ?_ | refine c_block ?_ | refine c_skip ?_ | refine c_exit ?_ | refine p_block ?_ | refine p_then_exit ?_ | refine p_block_here ?_ | refine p_block_on rfl ?_ | refine c_ret ?_ | refine p_then_ret ?_ | refine p_block_ret ?_ | refine p_end ?_ | refine c_if_t rfl (by omega) ?_ | refine c_if_f rfl (by omega) ?_)
      exact k_ret2 [] ((b4, .cells (List.toArray (encT (0, 0))) 29 (0, 0)) :: slC b3 s :: l) rfl (l' := l) .refl (by (repeat (first | apply ResS.nil | (apply rs_tmp; (· rfl)) | (apply rs_cell1; (· rfl); (· ((repeat (first | with_reducible apply List.mem_cons_self | with_reducible apply List.mem_cons_of_mem)); try with_reducible assumption)); (· rfl)) | (apply rs_cellA; (· rfl); (· ((repeat (first | with_reducible apply List.mem_cons_self | with_reducible apply List.mem_cons_of_mem)); try with_reducible assumption)); (· (repeat (first | with_reducible apply LSub.done | with_reducible apply LSub.take | with_reducible apply LSub.drop))))))) (.drop (.drop .refl)) ⟨rfl, rfl⟩
    | cons q todo =>
      have hA : A = todo.reverse ++ q :: seen.reverse := by
        have := congrArg List.reverse hst
        simpa using this
      have hqA : q ∈ A := by rw [hA]; simp
      have hmq := hsub _ (hT.m3 (hT.sub q (List.mem_append_left _ hqA)))
      have hqr : q ≠ rb := fun e => hT.out.2.2.1 (e ▸ hqA)
      simp only [List.headD_cons]
      repeat (first | (show OpsS _ _ _ _ _ _ (_ :: _) _ _ _; first | refine ozq ?_ | refine ozn ?_) | refine c_seq ?_ | refine p_then ?_ | refine c_region ?_ | refine s_nil ?_ | refine c_cond_t rfl ?_ | refine c_cond_f rfl ?_ | refine c_block ?_ | refine c_skip ?_ | refine c_exit ?_ | refine p_block ?_ | refine p_then_exit ?_ | refine p_block_here ?_ | refine p_block_on rfl ?_ | refine c_ret ?_ | refine p_then_ret ?_ | refine p_block_ret ?_ | refine p_end ?_ | refine c_if_t rfl (by omega) ?_ | refine c_if_f rfl (by omega) ?_)
      refine t_q (q_neptr rfl rfl (by decide) (.tail _ (.tail _ hmq)) (.tail _ (.tail _ hmr))) rfl rfl rfl ?_
      rw [nep_t hqr]
      repeat (first | (show OpsS _ _ _ _ _ _ (_ :: _) _ _ _; first | refine ozq ?_ | refine ozn ?_) | refine c_seq ?_ | refine p_then ?_ | refine c_region ?_ | refine s_nil ?_ | refine c_cond_t rfl ?_ | refine c_cond_f rfl ?_ | refine c_block ?_ | refine c_skip ?_ | refine c_exit ?_ | refine p_block ?_ | refine p_then_exit ?_ | refine p_block_here ?_ | refine p_block_on rfl ?_ | refine c_ret ?_ | refine p_then_ret ?_ | refine p_block_ret ?_ | refine p_end ?_ | refine c_if_t rfl (by omega) ?_ | refine c_if_f rfl (by omega) ?_)
      refine c_draw [(0, true), (1, true), (2, true), (3, true), (4, true), (5, true), (6, true), (7, true), (8, true)] [[], [0], [0, 1], [0, 1, 2], [], [4], [4, 5], [4, 5, 6], [0, 1, 2, 3, 4, 5, 6, 7]] _ (by kernel_rfl) (by kernel_rfl) (by (repeat (first | apply Attach.nil | (apply Attach.cons; · rfl)))) (fun _ h => h) ?_
      repeat (first | refine pl_nil ?_ | (show PlanS _ _ _ _ _ _ _ _ _ _ ((_, true, _) :: _) _ _ _; first | refine pzq ?_) | (show PlanS _ _ _ _ _ _ _ _ none [] ((_, false, _) :: _) _ _ _; first | refine pze ?_))
      by_cases hlt : (F q).dp < (F p).dp
      · rw [show parentD (dOf F (A ++ p :: B)) s = ((F q).sl, true) by
          unfold parentD; rw [h2]; simp only
          unfold dOf
          rw [← List.map_reverse, hst, List.map_append, List.find?_append]
          rw [show (seen.map fun q => ((F q).sl, (F q).dp)).find? (fun x => decide (x.2 < (F p).dp)) = none from List.find?_eq_none.2 fun x hx => by
            obtain ⟨z, hz, rfl⟩ := List.mem_map.1 hx
            simpa using hse z hz]
          rw [List.map_cons, List.find?_cons, decide_eq_true hlt]; rfl]
        repeat (first | (show OpsS _ _ _ _ _ _ (_ :: _) _ _ _; first | refine ozq ?_ | refine ozn ?_) | refine c_seq ?_ | refine p_then ?_ | refine c_region ?_ | refine s_nil ?_ | refine c_cond_t rfl ?_ | refine c_cond_f rfl ?_ | refine c_block ?_ | refine c_skip ?_ | refine c_exit ?_ | refine p_block ?_ | refine p_then_exit ?_ | refine p_block_here ?_ | refine p_block_on rfl ?_ | refine c_ret ?_ | refine p_then_ret ?_ | refine p_block_ret ?_ | refine p_end ?_ | refine c_if_t rfl (by omega) ?_ | refine c_if_f rfl (by omega) ?_)
        exact k_ret2 [] ((b4, .cells (List.toArray (encT (F q).sl)) 29 (0, 0)) :: slC b3 s :: l) rfl (l' := l) .refl (by (repeat (first | apply ResS.nil | (apply rs_tmp; (· rfl)) | (apply rs_cell1; (· rfl); (· ((repeat (first | with_reducible apply List.mem_cons_self | with_reducible apply List.mem_cons_of_mem)); try with_reducible assumption)); (· rfl)) | (apply rs_cellA; (· rfl); (· ((repeat (first | with_reducible apply List.mem_cons_self | with_reducible apply List.mem_cons_of_mem)); try with_reducible assumption)); (· (repeat (first | with_reducible apply LSub.done | with_reducible apply LSub.take | with_reducible apply LSub.drop))))))) (.drop (.drop .refl)) ⟨rfl, rfl⟩
      · repeat (first | (show OpsS _ _ _ _ _ _ (_ :: _) _ _ _; first | refine ozq ?_ | refine ozn ?_) | refine c_seq ?_ | refine p_then ?_ | refine c_region ?_ | refine s_nil ?_ | refine c_cond_t rfl ?_ | refine c_cond_f rfl ?_ | refine c_block ?_ | refine c_skip ?_ | refine c_exit ?_ | refine p_block ?_ | refine p_then_exit ?_ | refine p_block_here ?_ | refine p_block_on rfl ?_ | refine c_ret ?_ | refine p_then_ret ?_ | refine p_block_ret ?_ | refine p_end ?_ | refine c_if_t rfl (by omega) ?_ | refine c_if_f rfl (by omega) ?_)
        have hT2 := hT
        rw [hA, List.append_assoc, List.cons_append] at hT2
        rw [hT2.pvr, List.reverse_reverse]
        repeat (first | (show OpsS _ _ _ _ _ _ (_ :: _) _ _ _; first | refine ozq ?_ | refine ozn ?_) | refine c_seq ?_ | refine p_then ?_ | refine c_region ?_ | refine s_nil ?_ | refine c_cond_t rfl ?_ | refine c_cond_f rfl ?_ | refine c_block ?_ | refine c_skip ?_ | refine c_exit ?_ | refine p_block ?_ | refine p_then_exit ?_ | refine p_block_here ?_ | refine p_block_on rfl ?_ | refine c_ret ?_ | refine p_then_ret ?_ | refine p_block_ret ?_ | refine p_end ?_ | refine c_if_t rfl (by omega) ?_ | refine c_if_f rfl (by omega) ?_)
        exact k_next (seen ++ [q], todo) ⟨by rw [hst]; simp, fun z hz => by
          rcases List.mem_append.1 hz with hz | hz
          · exact hse z hz
          · rw [List.mem_singleton.1 hz]; exact hlt⟩ (by simp) ⟨rfl, rfl, rfl, rfl, trivial⟩ .refl
end Go.Proofs.Ytidkpfkkljcnaaa
