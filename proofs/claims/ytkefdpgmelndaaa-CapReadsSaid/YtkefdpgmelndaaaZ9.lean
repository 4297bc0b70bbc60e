/- Capabilities' laws: awake, CapAlike, CapLays. -/
-- GU
import Derived.Test.YtkefdpgmelndaaaU0
import Derived.Test.YtkefdpgmelndaaaZ8
import Derived.Test.YtkefdpgmelndaaaL0
set_option linter.unusedVariables false
set_option linter.unusedSimpArgs false
namespace Go.Proofs.Ytkefdpgmelndaaa
open Go.RowKit

theorem lit_words {l : List Chunk} {b : Nat} {ws : List Nat} (hm : (b, Obj.cells (List.toArray (ws.map wV)) 22 (0, 0)) ∈ l) : WSl l (.slice (some ⟨b, 0, none⟩) ws.length ws.length) ws :=
  ⟨_, _, rfl, fun _ => ⟨b, 0, _, _, _, rfl, hm, fun i x hx => by
    rw [Nat.zero_add, Nat.mul_one, List.getElem?_toArray, List.getElem?_map, hx]; rfl⟩⟩
abbrev aC : CapT := ⟨3, 2, 1, 0, 0, 0, 3, 5⟩
theorem aC_may : mayC aC = true := rfl
theorem aC_w : CapW aC := ⟨by decide, by decide⟩
theorem aC_words : wordsC aC = [3298618769939, 0] := by rw [words_eq (may_rng aC_may aC_w)]; rfl
theorem dec01 : decC [0, 1] = (capZ', 5) := by rw [decC_eq (by omega)]; rfl
theorem alike_comm (a b : CapT) : alikeB a b = alikeB b a := by
  unfold alikeB
  by_cases h : a.kind = b.kind
  · rw [h, decide_eq_true (show b.kind = b.kind from rfl), show decide (a.obj = b.obj) = decide (b.obj = a.obj) from decide_eq_decide.2 eq_comm, Bool.and_comm (mayC a)]
  · rw [decide_eq_false h, decide_eq_false (Ne.symm h)]; simp
theorem alike_self (a : CapT) : alikeB a a = (mayC a && !decide (a.kind = 0)) := by
  unfold alikeB
  rw [decide_eq_true (show a.kind = a.kind from rfl), decide_eq_true (show a.obj = a.obj from rfl)]
  cases mayC a <;> simp
set_option pp.deepTerms false
set_option pp.deepTerms.threshold 4
set_option maxHeartbeats 400000
set_option maxRecDepth 20000 in
theorem awake_any (l : List Chunk) : Fn Try.prog 14 [] l fun v l' => v = .bool true ∧ ∃ c, l' = c ++ l := by
  have hE := fun l2 => encode_any aC aC_w l2
  rw [aC_may] at hE
  simp only [if_true, aC_words] at hE
  refine fn_of_body Try.func14 rfl rfl fun E => ?_
  simp only [argF, Try.ntmps14]
  repeat (first | (show OpsS _ _ _ _ _ _ (_ :: _) _ _ _; first | refine ozq ?_ | refine ozs ?_ | refine ozs0 ?_ | refine ozt ?_ | refine ozf ?_ | refine t_hu rfl rfl rfl rfl rfl rfl ?_ | refine ozn ?_) | refine c_seq ?_ | refine p_then ?_ | refine c_region ?_ | refine s_nil ?_ | refine c_ret ?_ | refine p_then_ret ?_ | refine p_end ?_)
  refine t_e (e_call0 rfl rfl (hE _)) rfl rfl rfl ?_
  rintro _ _ ⟨v, cs, rfl, ho, rfl⟩
  have hv : v.oneCell' = true := ho.one
  repeat (first | (show OpsS _ _ _ _ _ _ (_ :: _) _ _ _; first | refine ozq ?_ | refine ozs ?_ | refine ozs0 ?_ | refine ozt ?_ | refine ozf ?_ | refine t_hu rfl rfl rfl rfl rfl rfl ?_ | refine ozn ?_) | refine c_seq ?_ | refine p_then ?_ | refine c_region ?_ | refine s_nil ?_ | refine c_ret ?_ | refine p_then_ret ?_ | refine p_end ?_)
  refine t_e (e_litN (n := 2) (z0 := .int .u64 0) (cs := [0, 1].map wV) rfl (by omega) (by omega) rfl) rfl rfl rfl ?_
  rintro _ _ ⟨b1, hb1, rfl, rfl⟩
  have hD := fun l2 (hl : ∀ x, x ∈ (b1, Obj.cells (List.toArray ([0, 1].map wV)) 22 (0, 0)) :: (cs ++ l) → x ∈ l2) => decode_any (.slice (some ⟨b1, 0, none⟩) 2 2) [0, 1] l2 (lit_words (ws := [0, 1]) (hl _ (.head _))) (by simp)
  rw [dec01] at hD
  repeat (first | (show OpsS _ _ _ _ _ _ (_ :: _) _ _ _; first | refine ozq ?_ | refine ozs ?_ | refine ozs0 ?_ | refine ozt ?_ | refine ozf ?_ | refine t_hu rfl rfl rfl rfl rfl rfl ?_ | refine ozn ?_) | refine c_seq ?_ | refine p_then ?_ | refine c_region ?_ | refine s_nil ?_ | refine c_ret ?_ | refine p_then_ret ?_ | refine p_end ?_)
  refine t_q (q_call rfl rfl hD) rfl rfl rfl ?_
  repeat (first | (show OpsS _ _ _ _ _ _ (_ :: _) _ _ _; first | refine ozq ?_ | refine ozs ?_ | refine ozs0 ?_ | refine ozt ?_ | refine ozf ?_ | refine t_hu rfl rfl rfl rfl rfl rfl ?_ | refine ozn ?_) | refine c_seq ?_ | refine p_then ?_ | refine c_region ?_ | refine s_nil ?_ | refine c_ret ?_ | refine p_then_ret ?_ | refine p_end ?_)
  refine t_e e_alloc rfl rfl rfl ?_; rintro _ _ ⟨b3, _, rfl, rfl⟩
  repeat (first | (show OpsS _ _ _ _ _ _ (_ :: _) _ _ _; first | refine ozq ?_ | refine ozs ?_ | refine ozs0 ?_ | refine ozt ?_ | refine ozf ?_ | refine t_hu rfl rfl rfl rfl rfl rfl ?_ | refine ozn ?_) | refine c_seq ?_ | refine p_then ?_ | refine c_region ?_ | refine s_nil ?_ | refine c_ret ?_ | refine p_then_ret ?_ | refine p_end ?_)
  refine t_eh (e_litN (n := 2) (z0 := .int .u64 0) (cs := [3298618769939, 0].map wV) rfl (by omega) (by omega) rfl) rfl rfl rfl ?_
  rintro _ _ ⟨b4, hb4, rfl, rfl⟩
  have hS := fun l2 (hl : ∀ x, x ∈ (b4, Obj.cells (List.toArray ([3298618769939, 0].map wV)) 22 (0, 0)) :: (capC b3 capZ' :: (b1, Obj.cells (List.toArray ([0, 1].map wV)) 22 (0, 0)) :: (cs ++ l)) → x ∈ l2) => sameWords_any v (.slice (some ⟨b4, 0, none⟩) 2 2) [3298618769939, 0] [3298618769939, 0] l2 (ho.words fun c hc => hl _ (.tail _ (.tail _ (.tail _ (List.mem_append_left _ hc))))) (lit_words (ws := [3298618769939, 0]) (hl _ (.head _))) (by simp)
  rw [decide_eq_true rfl] at hS
  repeat (first | (show OpsS _ _ _ _ _ _ (_ :: _) _ _ _; first | refine ozq ?_ | refine ozs ?_ | refine ozs0 ?_ | refine ozt ?_ | refine ozf ?_ | refine t_hu rfl rfl rfl rfl rfl rfl ?_ | refine ozn ?_) | refine c_seq ?_ | refine p_then ?_ | refine c_region ?_ | refine s_nil ?_ | refine c_ret ?_ | refine p_then_ret ?_ | refine p_end ?_)
  refine t_gq (q_call rfl rfl hS) rfl rfl rfl rfl rfl rfl ?_
  repeat (first | (show OpsS _ _ _ _ _ _ (_ :: _) _ _ _; first | refine ozq ?_ | refine ozs ?_ | refine ozs0 ?_ | refine ozt ?_ | refine ozf ?_ | refine t_hu rfl rfl rfl rfl rfl rfl ?_ | refine ozn ?_) | refine c_seq ?_ | refine p_then ?_ | refine c_region ?_ | refine s_nil ?_ | refine c_ret ?_ | refine p_then_ret ?_ | refine p_end ?_)
  exact k_ret [] rfl (l' := cs ++ l) (.drop (.drop (.drop .refl))) (by (repeat (first | apply ResS.nil | (apply rs_tmp; (· rfl)) | (apply rs_cell1; (· rfl); (· ((repeat (first | with_reducible apply List.mem_cons_self | with_reducible apply List.mem_cons_of_mem)); try with_reducible assumption)); (· rfl)) | (apply rs_cellA; (· rfl); (· ((repeat (first | with_reducible apply List.mem_cons_self | with_reducible apply List.mem_cons_of_mem)); try with_reducible assumption)); (· (repeat (first | with_reducible apply LSub.done | with_reducible apply LSub.take | with_reducible apply LSub.drop))))))) ⟨rfl, _, rfl⟩
theorem capAlike_any (a b : CapT) (hwa : CapW a) (hwb : CapW b) (l : List Chunk) : Fn Try.prog 6 [.agg (List.toArray (encC a)), .agg (List.toArray (encC b))] l fun v l' => v = .bool true ∧ ∃ c, l' = c ++ l := by
  refine fn_of_body Try.func6 rfl rfl fun E => ?_
  simp only [argF, Try.ntmps6]
  repeat (first | (show OpsS _ _ _ _ _ _ (_ :: _) _ _ _; first | refine ozq ?_) | refine c_seq ?_ | refine p_then ?_ | refine c_region ?_ | refine s_nil ?_ | refine c_ret ?_ | refine p_then_ret ?_ | refine p_end ?_)
  (first | refine t_e (e_box1 rfl rfl) rfl rfl rfl ?_ | refine t_e (e_boxA rfl) rfl rfl rfl ?_); rintro _ _ ⟨b2, _, rfl, rfl⟩
  repeat (first | (show OpsS _ _ _ _ _ _ (_ :: _) _ _ _; first | refine ozq ?_) | refine c_seq ?_ | refine p_then ?_ | refine c_region ?_ | refine s_nil ?_ | refine c_ret ?_ | refine p_then_ret ?_ | refine p_end ?_)
  (first | refine t_e (e_box1 rfl rfl) rfl rfl rfl ?_ | refine t_e (e_boxA rfl) rfl rfl rfl ?_); rintro _ _ ⟨b3, _, rfl, rfl⟩
  repeat (first | (show OpsS _ _ _ _ _ _ (_ :: _) _ _ _; first | refine ozq ?_) | refine c_seq ?_ | refine p_then ?_ | refine c_region ?_ | refine s_nil ?_ | refine c_ret ?_ | refine p_then_ret ?_ | refine p_end ?_)
  refine c_draw [(0, true), (1, true), (2, true), (3, true), (4, true), (5, true), (6, true), (7, true), (8, true), (9, true), (10, true), (11, true), (12, true), (13, true), (14, true), (15, true), (16, true), (17, true), (18, true), (19, true), (20, true), (21, true), (22, true), (23, true), (24, true), (25, true), (26, true), (27, true), (28, true), (29, true), (30, false), (31, true), (32, true)] [[], [], [0, 1], [], [], [0, 1, 2, 3, 4], [0, 1, 2, 3, 4, 5], [0, 1, 2, 3, 4, 5, 6], [0, 1, 2, 3, 4, 5, 6, 7], [0, 1, 2, 3, 4, 5, 6, 7], [0, 1, 2, 3, 4, 5, 6, 7, 8, 9], [0, 1, 2, 3, 4, 5, 6, 7], [0, 1, 2, 3, 4, 5, 6, 7], [0, 1, 2, 3, 4, 5, 6, 7, 8, 9, 10, 11, 12], [0, 1, 2, 3, 4, 5, 6, 7, 8, 9, 10, 11, 12, 13], [0, 1, 2, 3, 4, 5, 6, 7, 8, 9, 10, 11, 12, 13, 14], [0, 1, 2, 3, 4, 5, 6, 7, 8, 9, 10, 11, 12, 13, 14, 15], [0, 1, 2, 3, 4, 5, 6, 7, 8, 9, 10, 11, 12, 13, 14, 15, 16], [0, 1, 2, 3, 4, 5, 6, 7, 8, 9, 10, 11, 12, 13, 14, 15, 16], [0, 1, 2, 3, 4, 5, 6, 7, 8, 9, 10, 11, 12, 13, 14, 15, 16, 17, 18], [0, 1, 2, 3, 4, 5, 6, 7, 8, 9, 10, 11, 12, 13, 14, 15, 16], [0, 1, 2, 3, 4, 5, 6, 7, 8, 9, 10, 11, 12, 13, 14, 15, 16, 17, 18, 19, 20], [0, 1, 2, 3, 4, 5, 6, 7, 8, 9, 10, 11, 12, 13, 14, 15, 16, 17, 18, 19, 20, 21], [0, 1, 2, 3, 4, 5, 6, 7, 8, 9, 10, 11, 12, 13, 14, 15, 16, 17, 18, 19, 20, 21, 22], [0, 1, 2, 3, 4, 5, 6, 7, 8, 9, 10, 11, 12, 13, 14, 15, 16, 17, 18, 19, 20, 21, 22, 23], [0, 1, 2, 3, 4, 5, 6, 7, 8, 9, 10, 11, 12, 13, 14, 15, 16, 17, 18, 19, 20, 21, 22, 23, 24], [0, 1, 2, 3, 4, 5, 6, 7, 8, 9, 10, 11, 12, 13, 14, 15, 16, 17, 18, 19, 20, 21, 22, 23, 24, 25], [0, 1, 2, 3, 4, 5, 6, 7, 8, 9, 10, 11, 12, 13, 14, 15, 16, 17, 18, 19, 20, 21, 22, 23, 24, 25, 26], [0, 1, 2, 3, 4, 5, 6, 7, 8, 9, 10, 11, 12, 13, 14, 15, 16, 17, 18, 19, 20, 21, 22, 23, 24, 25, 26, 27], [0, 1, 2, 3, 4, 5, 6, 7, 8, 9, 10, 11, 12, 13, 14, 15, 16, 17, 18, 19, 20, 21, 22, 23, 24, 25, 26, 27, 28], [0, 1, 2, 3, 4, 5, 6, 7, 8, 9, 10, 11, 12, 13, 14, 15, 16, 17, 18, 19, 20, 21, 22, 23, 24, 25, 26, 27, 28, 29], [0, 1, 2, 3, 4, 5, 6, 7, 8, 9, 10, 11, 12, 13, 14, 15, 16, 17, 18, 19, 20, 21, 22, 23, 24, 25, 26, 27, 28, 29, 30], [0, 1, 2, 3, 4, 5, 6, 7, 8, 9, 10, 11, 12, 13, 14, 15, 16, 17, 18, 19, 20, 21, 22, 23, 24, 25, 26, 27, 28, 29, 30, 31]] _ (by kernel_rfl) (by kernel_rfl) (by (repeat (first | apply Attach.nil | (apply Attach.cons; · rfl)))) (fun _ h => h) ?_
  repeat (first | refine pl_nil ?_ | (show PlanS _ _ _ _ _ _ _ _ _ _ ((_, true, _) :: _) _ _ _; first | refine pzq ?_ | refine pzt ?_ | refine pzf ?_) | (show PlanS _ _ _ _ _ _ _ _ none [] ((_, _, _) :: _) _ _ _; first | refine pzs ?_ | refine pzs0 ?_ | refine pl_hu (List.Sublist.subset (by (repeat (first | with_reducible apply List.Sublist.refl | with_reducible apply List.nil_sublist | with_reducible apply List.Sublist.cons_cons | with_reducible apply List.Sublist.cons)))) rfl rfl rfl rfl rfl rfl ?_) | (show PlanS _ _ _ _ _ _ _ _ _ _ ((_, _, _) :: _) _ _ _; first | refine pzt ?_ | refine pzf ?_) | (show PlanS _ _ _ _ _ _ _ _ none [] ((_, false, _) :: _) _ _ _; first | refine pze ?_))
  refine pl_h (q_call rfl rfl fun l2 _ => alike_any a b l2) rfl rfl rfl ?_
  repeat (first | refine pl_nil ?_ | (show PlanS _ _ _ _ _ _ _ _ _ _ ((_, true, _) :: _) _ _ _; first | refine pzq ?_ | refine pzt ?_ | refine pzf ?_) | (show PlanS _ _ _ _ _ _ _ _ none [] ((_, _, _) :: _) _ _ _; first | refine pzs ?_ | refine pzs0 ?_ | refine pl_hu (List.Sublist.subset (by (repeat (first | with_reducible apply List.Sublist.refl | with_reducible apply List.nil_sublist | with_reducible apply List.Sublist.cons_cons | with_reducible apply List.Sublist.cons)))) rfl rfl rfl rfl rfl rfl ?_) | (show PlanS _ _ _ _ _ _ _ _ _ _ ((_, _, _) :: _) _ _ _; first | refine pzt ?_ | refine pzf ?_) | (show PlanS _ _ _ _ _ _ _ _ none [] ((_, false, _) :: _) _ _ _; first | refine pze ?_))
  refine pl_h (q_call rfl rfl fun l2 _ => ralike_any a b hwa hwb l2) rfl rfl rfl ?_
  repeat (first | refine pl_nil ?_ | (show PlanS _ _ _ _ _ _ _ _ _ _ ((_, true, _) :: _) _ _ _; first | refine pzq ?_ | refine pzt ?_ | refine pzf ?_) | (show PlanS _ _ _ _ _ _ _ _ none [] ((_, _, _) :: _) _ _ _; first | refine pzs ?_ | refine pzs0 ?_ | refine pl_hu (List.Sublist.subset (by (repeat (first | with_reducible apply List.Sublist.refl | with_reducible apply List.nil_sublist | with_reducible apply List.Sublist.cons_cons | with_reducible apply List.Sublist.cons)))) rfl rfl rfl rfl rfl rfl ?_) | (show PlanS _ _ _ _ _ _ _ _ _ _ ((_, _, _) :: _) _ _ _; first | refine pzt ?_ | refine pzf ?_) | (show PlanS _ _ _ _ _ _ _ _ none [] ((_, false, _) :: _) _ _ _; first | refine pze ?_))
  rw [beq_self_eq_true]
  repeat (first | refine pl_nil ?_ | (show PlanS _ _ _ _ _ _ _ _ _ _ ((_, true, _) :: _) _ _ _; first | refine pzq ?_ | refine pzt ?_ | refine pzf ?_) | (show PlanS _ _ _ _ _ _ _ _ none [] ((_, _, _) :: _) _ _ _; first | refine pzs ?_ | refine pzs0 ?_ | refine pl_hu (List.Sublist.subset (by (repeat (first | with_reducible apply List.Sublist.refl | with_reducible apply List.nil_sublist | with_reducible apply List.Sublist.cons_cons | with_reducible apply List.Sublist.cons)))) rfl rfl rfl rfl rfl rfl ?_) | (show PlanS _ _ _ _ _ _ _ _ _ _ ((_, _, _) :: _) _ _ _; first | refine pzt ?_ | refine pzf ?_) | (show PlanS _ _ _ _ _ _ _ _ none [] ((_, false, _) :: _) _ _ _; first | refine pze ?_))
  refine pl_h (q_call rfl rfl fun l2 _ => alike_any b a l2) rfl rfl rfl ?_
  repeat (first | refine pl_nil ?_ | (show PlanS _ _ _ _ _ _ _ _ _ _ ((_, true, _) :: _) _ _ _; first | refine pzq ?_ | refine pzt ?_ | refine pzf ?_) | (show PlanS _ _ _ _ _ _ _ _ none [] ((_, _, _) :: _) _ _ _; first | refine pzs ?_ | refine pzs0 ?_ | refine pl_hu (List.Sublist.subset (by (repeat (first | with_reducible apply List.Sublist.refl | with_reducible apply List.nil_sublist | with_reducible apply List.Sublist.cons_cons | with_reducible apply List.Sublist.cons)))) rfl rfl rfl rfl rfl rfl ?_) | (show PlanS _ _ _ _ _ _ _ _ _ _ ((_, _, _) :: _) _ _ _; first | refine pzt ?_ | refine pzf ?_) | (show PlanS _ _ _ _ _ _ _ _ none [] ((_, false, _) :: _) _ _ _; first | refine pze ?_))
  refine pl_h (q_call rfl rfl fun l2 _ => alike_any a b l2) rfl rfl rfl ?_
  repeat (first | refine pl_nil ?_ | (show PlanS _ _ _ _ _ _ _ _ _ _ ((_, true, _) :: _) _ _ _; first | refine pzq ?_ | refine pzt ?_ | refine pzf ?_) | (show PlanS _ _ _ _ _ _ _ _ none [] ((_, _, _) :: _) _ _ _; first | refine pzs ?_ | refine pzs0 ?_ | refine pl_hu (List.Sublist.subset (by (repeat (first | with_reducible apply List.Sublist.refl | with_reducible apply List.nil_sublist | with_reducible apply List.Sublist.cons_cons | with_reducible apply List.Sublist.cons)))) rfl rfl rfl rfl rfl rfl ?_) | (show PlanS _ _ _ _ _ _ _ _ _ _ ((_, _, _) :: _) _ _ _; first | refine pzt ?_ | refine pzf ?_) | (show PlanS _ _ _ _ _ _ _ _ none [] ((_, false, _) :: _) _ _ _; first | refine pze ?_))
  rw [alike_comm b a, beq_self_eq_true]
  repeat (first | refine pl_nil ?_ | (show PlanS _ _ _ _ _ _ _ _ _ _ ((_, true, _) :: _) _ _ _; first | refine pzq ?_ | refine pzt ?_ | refine pzf ?_) | (show PlanS _ _ _ _ _ _ _ _ none [] ((_, _, _) :: _) _ _ _; first | refine pzs ?_ | refine pzs0 ?_ | refine pl_hu (List.Sublist.subset (by (repeat (first | with_reducible apply List.Sublist.refl | with_reducible apply List.nil_sublist | with_reducible apply List.Sublist.cons_cons | with_reducible apply List.Sublist.cons)))) rfl rfl rfl rfl rfl rfl ?_) | (show PlanS _ _ _ _ _ _ _ _ _ _ ((_, _, _) :: _) _ _ _; first | refine pzt ?_ | refine pzf ?_) | (show PlanS _ _ _ _ _ _ _ _ none [] ((_, false, _) :: _) _ _ _; first | refine pze ?_))
  refine pl_h (q_call rfl rfl fun l2 _ => alike_any a a l2) rfl rfl rfl ?_
  repeat (first | refine pl_nil ?_ | (show PlanS _ _ _ _ _ _ _ _ _ _ ((_, true, _) :: _) _ _ _; first | refine pzq ?_ | refine pzt ?_ | refine pzf ?_) | (show PlanS _ _ _ _ _ _ _ _ none [] ((_, _, _) :: _) _ _ _; first | refine pzs ?_ | refine pzs0 ?_ | refine pl_hu (List.Sublist.subset (by (repeat (first | with_reducible apply List.Sublist.refl | with_reducible apply List.nil_sublist | with_reducible apply List.Sublist.cons_cons | with_reducible apply List.Sublist.cons)))) rfl rfl rfl rfl rfl rfl ?_) | (show PlanS _ _ _ _ _ _ _ _ _ _ ((_, _, _) :: _) _ _ _; first | refine pzt ?_ | refine pzf ?_) | (show PlanS _ _ _ _ _ _ _ _ none [] ((_, false, _) :: _) _ _ _; first | refine pze ?_))
  refine pl_h (q_call rfl rfl fun l2 _ => mayC_any a l2) rfl rfl rfl ?_
  rw [alike_self a]
  cases hM : mayC a with
  | false =>
    rw [Bool.false_and]
    repeat (first | refine pl_nil ?_ | (show PlanS _ _ _ _ _ _ _ _ _ _ ((_, true, _) :: _) _ _ _; first | refine pzq ?_ | refine pzt ?_ | refine pzf ?_) | (show PlanS _ _ _ _ _ _ _ _ none [] ((_, _, _) :: _) _ _ _; first | refine pzs ?_ | refine pzs0 ?_ | refine pl_hu (List.Sublist.subset (by (repeat (first | with_reducible apply List.Sublist.refl | with_reducible apply List.nil_sublist | with_reducible apply List.Sublist.cons_cons | with_reducible apply List.Sublist.cons)))) rfl rfl rfl rfl rfl rfl ?_) | (show PlanS _ _ _ _ _ _ _ _ _ _ ((_, _, _) :: _) _ _ _; first | refine pzt ?_ | refine pzf ?_) | (show PlanS _ _ _ _ _ _ _ _ none [] ((_, false, _) :: _) _ _ _; first | refine pze ?_))
    rw [show (false == false) = true from rfl]
    repeat (first | refine pl_nil ?_ | (show PlanS _ _ _ _ _ _ _ _ _ _ ((_, true, _) :: _) _ _ _; first | refine pzq ?_ | refine pzt ?_ | refine pzf ?_) | (show PlanS _ _ _ _ _ _ _ _ none [] ((_, _, _) :: _) _ _ _; first | refine pzs ?_ | refine pzs0 ?_ | refine pl_hu (List.Sublist.subset (by (repeat (first | with_reducible apply List.Sublist.refl | with_reducible apply List.nil_sublist | with_reducible apply List.Sublist.cons_cons | with_reducible apply List.Sublist.cons)))) rfl rfl rfl rfl rfl rfl ?_) | (show PlanS _ _ _ _ _ _ _ _ _ _ ((_, _, _) :: _) _ _ _; first | refine pzt ?_ | refine pzf ?_) | (show PlanS _ _ _ _ _ _ _ _ none [] ((_, false, _) :: _) _ _ _; first | refine pze ?_))
    apply pl_geS
    · exact e_call0 rfl rfl (awake_any _)
    · rfl
    · rfl
    · rfl
    · rintro _ _ ⟨_, cx, rfl⟩ c hc; exact List.mem_append_right _ hc
    · intro _ _ _ x hx; cases hx
    rintro _ _ ⟨rfl, cx, rfl⟩
    repeat (first | refine pl_nil ?_ | (show PlanS _ _ _ _ _ _ _ _ _ _ ((_, true, _) :: _) _ _ _; first | refine pzq ?_ | refine pzt ?_ | refine pzf ?_) | (show PlanS _ _ _ _ _ _ _ _ none [] ((_, _, _) :: _) _ _ _; first | refine pzs ?_ | refine pzs0 ?_ | refine pl_hu (List.Sublist.subset (by (repeat (first | with_reducible apply List.Sublist.refl | with_reducible apply List.nil_sublist | with_reducible apply List.Sublist.cons_cons | with_reducible apply List.Sublist.cons)))) rfl rfl rfl rfl rfl rfl ?_) | (show PlanS _ _ _ _ _ _ _ _ _ _ ((_, _, _) :: _) _ _ _; first | refine pzt ?_ | refine pzf ?_) | (show PlanS _ _ _ _ _ _ _ _ none [] ((_, false, _) :: _) _ _ _; first | refine pze ?_))
    repeat (first | (show OpsS _ _ _ _ _ _ (_ :: _) _ _ _; first | refine ozq ?_) | refine c_seq ?_ | refine p_then ?_ | refine c_region ?_ | refine s_nil ?_ | refine c_ret ?_ | refine p_then_ret ?_ | refine p_end ?_)
    exact k_ret [] rfl (l' := cx ++ l) (Keep.trans (Keep.of_perm (List.perm_append_comm_assoc cx [_, _] l)) (.drop (.drop .refl))) (by (repeat (first | apply ResS.nil | (apply rs_tmp; (· rfl)) | (apply rs_cell1; (· rfl); (· ((repeat (first | with_reducible apply List.mem_cons_self | with_reducible apply List.mem_cons_of_mem)); try with_reducible assumption)); (· rfl)) | (apply rs_cellA; (· rfl); (· ((repeat (first | with_reducible apply List.mem_cons_self | with_reducible apply List.mem_cons_of_mem)); try with_reducible assumption)); (· (repeat (first | with_reducible apply LSub.done | with_reducible apply LSub.take | with_reducible apply LSub.drop))))))) ⟨rfl, _, rfl⟩
  | true =>
    rw [Bool.true_and]
    repeat (first | refine pl_nil ?_ | (show PlanS _ _ _ _ _ _ _ _ _ _ ((_, true, _) :: _) _ _ _; first | refine pzq ?_ | refine pzt ?_ | refine pzf ?_) | (show PlanS _ _ _ _ _ _ _ _ none [] ((_, _, _) :: _) _ _ _; first | refine pzs ?_ | refine pzs0 ?_ | refine pl_hu (List.Sublist.subset (by (repeat (first | with_reducible apply List.Sublist.refl | with_reducible apply List.nil_sublist | with_reducible apply List.Sublist.cons_cons | with_reducible apply List.Sublist.cons)))) rfl rfl rfl rfl rfl rfl ?_) | (show PlanS _ _ _ _ _ _ _ _ _ _ ((_, _, _) :: _) _ _ _; first | refine pzt ?_ | refine pzf ?_) | (show PlanS _ _ _ _ _ _ _ _ none [] ((_, false, _) :: _) _ _ _; first | refine pze ?_))
    rw [show decide (a.kind ≠ 0) = !decide (a.kind = 0) by simp, beq_self_eq_true]
    repeat (first | refine pl_nil ?_ | (show PlanS _ _ _ _ _ _ _ _ _ _ ((_, true, _) :: _) _ _ _; first | refine pzq ?_ | refine pzt ?_ | refine pzf ?_) | (show PlanS _ _ _ _ _ _ _ _ none [] ((_, _, _) :: _) _ _ _; first | refine pzs ?_ | refine pzs0 ?_ | refine pl_hu (List.Sublist.subset (by (repeat (first | with_reducible apply List.Sublist.refl | with_reducible apply List.nil_sublist | with_reducible apply List.Sublist.cons_cons | with_reducible apply List.Sublist.cons)))) rfl rfl rfl rfl rfl rfl ?_) | (show PlanS _ _ _ _ _ _ _ _ _ _ ((_, _, _) :: _) _ _ _; first | refine pzt ?_ | refine pzf ?_) | (show PlanS _ _ _ _ _ _ _ _ none [] ((_, false, _) :: _) _ _ _; first | refine pze ?_))
    apply pl_geS
    · exact e_call0 rfl rfl (awake_any _)
    · rfl
    · rfl
    · rfl
    · rintro _ _ ⟨_, cx, rfl⟩ c hc; exact List.mem_append_right _ hc
    · intro _ _ _ x hx; cases hx
    rintro _ _ ⟨rfl, cx, rfl⟩
    repeat (first | refine pl_nil ?_ | (show PlanS _ _ _ _ _ _ _ _ _ _ ((_, true, _) :: _) _ _ _; first | refine pzq ?_ | refine pzt ?_ | refine pzf ?_) | (show PlanS _ _ _ _ _ _ _ _ none [] ((_, _, _) :: _) _ _ _; first | refine pzs ?_ | refine pzs0 ?_ | refine pl_hu (List.Sublist.subset (by (repeat (first | with_reducible apply List.Sublist.refl | with_reducible apply List.nil_sublist | with_reducible apply List.Sublist.cons_cons | with_reducible apply List.Sublist.cons)))) rfl rfl rfl rfl rfl rfl ?_) | (show PlanS _ _ _ _ _ _ _ _ _ _ ((_, _, _) :: _) _ _ _; first | refine pzt ?_ | refine pzf ?_) | (show PlanS _ _ _ _ _ _ _ _ none [] ((_, false, _) :: _) _ _ _; first | refine pze ?_))
    repeat (first | (show OpsS _ _ _ _ _ _ (_ :: _) _ _ _; first | refine ozq ?_) | refine c_seq ?_ | refine p_then ?_ | refine c_region ?_ | refine s_nil ?_ | refine c_ret ?_ | refine p_then_ret ?_ | refine p_end ?_)
    exact k_ret [] rfl (l' := cx ++ l) (Keep.trans (Keep.of_perm (List.perm_append_comm_assoc cx [_, _] l)) (.drop (.drop .refl))) (by (repeat (first | apply ResS.nil | (apply rs_tmp; (· rfl)) | (apply rs_cell1; (· rfl); (· ((repeat (first | with_reducible apply List.mem_cons_self | with_reducible apply List.mem_cons_of_mem)); try with_reducible assumption)); (· rfl)) | (apply rs_cellA; (· rfl); (· ((repeat (first | with_reducible apply List.mem_cons_self | with_reducible apply List.mem_cons_of_mem)); try with_reducible assumption)); (· (repeat (first | with_reducible apply LSub.done | with_reducible apply LSub.take | with_reducible apply LSub.drop))))))) ⟨rfl, _, rfl⟩
end Go.Proofs.Ytkefdpgmelndaaa
