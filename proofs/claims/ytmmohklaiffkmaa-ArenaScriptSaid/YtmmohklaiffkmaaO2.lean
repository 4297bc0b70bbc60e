/- slices.Delete of one struct; cells laid over a row. -/
import Derived.Test.YtmmohklaiffkmaaU0
import Derived.Test.YtmmohklaiffkmaaO1
set_option linter.unusedVariables false
set_option linter.unusedSimpArgs false
namespace Go.Proofs.Ytmmohklaiffkmaa
open Go.RowKit

theorem setFrom_mid (ys' : List Value) : ∀ (X Y Z : List Value), ys'.length = Y.length → setFrom (List.toArray (X ++ Y ++ Z)) X.length ys' = List.toArray (X ++ ys' ++ Z) := by
  induction ys' with
  | nil => intro X Y Z h; cases Y with
    | nil => rfl
    | cons a b => simp at h
  | cons y r ih => intro X Y Z h; cases Y with
    | nil => simp at h
    | cons a b =>
      show setFrom ((List.toArray (X ++ (a :: b) ++ Z)).setIfInBounds X.length y) (X.length + 1) r = _
      have e1 : (List.toArray (X ++ (a :: b) ++ Z)).setIfInBounds X.length y = List.toArray ((X ++ [y]) ++ b ++ Z) := by
        rw [List.setIfInBounds_toArray]
        congr 1
        rw [List.append_assoc, List.set_append_right _ _ (Nat.le_refl _), Nat.sub_self]
        simp
      rw [e1, show X.length + 1 = (X ++ [y]).length by simp, ih (X ++ [y]) b Z (by simpa using h)]
      simp
set_option pp.deepTerms false
set_option pp.deepTerms.threshold 4
set_option maxHeartbeats 400000
theorem delete9_any (v : Value) (i m : Nat) (A W B : List Value) (hA : A.length = i * 9) (hW : W.length = 9) (hB : B.length = m * 9) (hB1 : ∀ u ∈ B, u.oneCell' = true) (cs F : List Chunk) (h : OwnSl 40 9 v (i + m + 1) (A ++ W ++ B) cs) (hn : i + m ≤ 90000) :
    Fn Try.prog 29 [v, .int .i64 (i : Nat), .int .i64 ((i : Int) + 1)] (cs ++ F) fun r l' => ∃ cs', OwnSl 40 9 r (i + m) (A ++ B) cs' ∧ l' = cs' ++ F := by
  obtain ⟨hlen, h⟩ := h
  rcases h with ⟨rfl, h0, rfl⟩ | ⟨gb, cap, sp, rfl, rfl, hnc, hcm, hcl⟩
  · omega
  have hcl' : sp.length + (i + m + 1) * 9 = cap * 9 := by rw [List.length_append, hlen] at hcl; omega
  obtain ⟨cur, hcur⟩ : ∃ cur, A ++ W ++ B ++ sp = cur := ⟨_, rfl⟩
  have hcurl : cur.length = cap * 9 := by rw [← hcur]; exact hcl
  obtain ⟨off', hoff⟩ : ∃ o, (if cap = i + 1 then 0 else 0 + (i + 1) * 9) = o := ⟨_, rfl⟩
  have htk : cur.take (i * 9) = A := by rw [← hcur, List.append_assoc, List.append_assoc, List.take_left' hA]
  obtain ⟨T, hT⟩ : ∃ T, cur.drop (i * 9 + m * 9) = T := ⟨_, rfl⟩
  have hTl : T.length = cap * 9 - (i * 9 + m * 9) := by rw [← hT, List.length_drop, hcurl]
  rw [hcur]
  refine fn_of_body Try.func29 rfl rfl fun E => ?_
  simp only [argF, Try.ntmps29]
  simp only [List.cons_append, List.nil_append]
  repeat (first | (show OpsS _ _ _ _ _ _ (_ :: _) _ _ _; first | refine ozq ?_) | refine c_seq ?_ | refine p_then ?_ | refine c_region ?_ | refine s_nil ?_ | refine c_cond_t rfl ?_ | refine c_cond_f rfl ?_ | refine c_skip ?_ | refine c_ret ?_ | refine p_then_ret ?_ | refine p_end ?_ | refine c_if_t rfl (by omega) ?_ | refine c_if_f rfl (by omega) ?_)
  refine t_q (q_slice (l0 := i) (h0 := i + 1) (m0 := i + m + 1) rfl (.some rfl (by omega) rfl) (.some rfl (by omega) (by omega)) (.some rfl (by omega) rfl) (fun _ => rfl) (by omega) (by omega) (by omega) rfl rfl rfl) rfl rfl rfl ?_
  repeat (first | (show OpsS _ _ _ _ _ _ (_ :: _) _ _ _; first | refine ozq ?_) | refine c_seq ?_ | refine p_then ?_ | refine c_region ?_ | refine s_nil ?_ | refine c_cond_t rfl ?_ | refine c_cond_f rfl ?_ | refine c_skip ?_ | refine c_ret ?_ | refine p_then_ret ?_ | refine p_end ?_ | refine c_if_t rfl (by omega) ?_ | refine c_if_f rfl (by omega) ?_)
  refine c_draw [(0, true), (1, true), (2, true), (3, true), (4, true), (5, true), (6, false), (7, true)] [[], [], [0, 1], [], [], [3, 4], [0, 1, 2, 3, 4, 5], [0, 1, 2, 3, 4, 5, 6]] ([]) (by kernel_rfl) (by kernel_rfl) (by (repeat (first | apply Attach.nil | (apply Attach.cons; · rfl)))) (List.Sublist.subset (by (repeat (first | with_reducible apply List.Sublist.refl | with_reducible apply List.nil_sublist | with_reducible apply List.Sublist.cons_cons | with_reducible apply List.Sublist.cons)))) ?_
  repeat (first | refine pl_nil ?_ | (show PlanS _ _ _ _ _ _ _ _ _ _ ((_, true, _) :: _) _ _ _; first | refine pzq ?_))
  apply pl_q
  · exact q_slice (l0 := 0) (h0 := i) (m0 := cap) (off' := 0) (n' := i) (c' := cap) rfl (.none) (.some rfl (by omega) rfl) (.none) (by simp) (by omega) (by omega) (by omega) (by simp) (by omega) (by omega)
  · rfl
  · rfl
  · rfl
  repeat (first | refine pl_nil ?_ | (show PlanS _ _ _ _ _ _ _ _ _ _ ((_, true, _) :: _) _ _ _; first | refine pzq ?_))
  apply pl_q
  · exact q_slice (l0 := i + 1) (h0 := i + m + 1) (m0 := cap) (off' := off') (n' := m) rfl (.some rfl (by omega) (by omega)) (.none) (.none) (by simp) (by omega) (by omega) (by omega) hoff (by omega) rfl
  · rfl
  · rfl
  · rfl
  repeat (first | refine pl_nil ?_ | (show PlanS _ _ _ _ _ _ _ _ _ _ ((_, true, _) :: _) _ _ _; first | refine pzq ?_))
  apply pl_e
  · apply e_appendR (news := B) (cl := List.toArray cur) (cur := List.toArray cur)
    · rfl
    · rfl
    · exact List.mem_cons_self
    · intro j u hj
      have hjl := (List.getElem?_eq_some_iff.1 hj).1
      rw [← hoff, if_neg (by omega), List.getElem?_toArray, ← hcur, List.getElem?_append_left (by simp; omega), List.getElem?_append_right (by simp; omega), show 0 + (i + 1) * 9 + j - (A ++ W).length = j by rw [List.length_append, hA, hW]; omega]; exact hj
    · exact hB
    · exact hB1
    · omega
    · rw [hB]; simp only [List.size_toArray]; omega
  · rfl
  · rfl
  · rfl
  · intro _ _ _ c hc; cases hc
  rintro _ _ ⟨rfl, rfl⟩
  have e1 : (List.toArray cur).toList.take (i * 9) ++ B ++ (List.toArray cur).toList.drop (i * 9 + B.length) = A ++ B ++ T := by
    rw [hB]
    show cur.take (i * 9) ++ B ++ cur.drop (i * 9 + m * 9) = _
    rw [htk, hT]
  rw [e1]
  repeat (first | refine pl_nil ?_ | (show PlanS _ _ _ _ _ _ _ _ _ _ ((_, true, _) :: _) _ _ _; first | refine pzq ?_))
  repeat (first | (show OpsS _ _ _ _ _ _ (_ :: _) _ _ _; first | refine ozq ?_) | refine c_seq ?_ | refine p_then ?_ | refine c_region ?_ | refine s_nil ?_ | refine c_cond_t rfl ?_ | refine c_cond_f rfl ?_ | refine c_skip ?_ | refine c_ret ?_ | refine p_then_ret ?_ | refine p_end ?_ | refine c_if_t rfl (by omega) ?_ | refine c_if_f rfl (by omega) ?_)
  refine t_q (q_slice (l0 := i + m) (h0 := i + m + 1) (m0 := cap) (off' := i * 9 + m * 9) (n' := 1) rfl (.some rfl (by omega) rfl) (.some rfl (by omega) rfl) (.none) (by simp) (by omega) (by omega) (by omega) (by rw [if_neg (by omega)]; omega) (by omega) rfl) rfl rfl rfl ?_
  repeat (first | (show OpsS _ _ _ _ _ _ (_ :: _) _ _ _; first | refine ozq ?_) | refine c_seq ?_ | refine p_then ?_ | refine c_region ?_ | refine s_nil ?_ | refine c_cond_t rfl ?_ | refine c_cond_f rfl ?_ | refine c_skip ?_ | refine c_ret ?_ | refine p_then_ret ?_ | refine p_end ?_ | refine c_if_t rfl (by omega) ?_ | refine c_if_f rfl (by omega) ?_)
  have hABl : (A ++ B).length = i * 9 + m * 9 := by rw [List.length_append]; omega
  have eS : setFrom (List.toArray (A ++ B ++ T)) (i * 9 + m * 9) (List.replicate 1 obZ).flatten = List.toArray (A ++ B ++ (obZ ++ T.drop 9)) := by
    rw [← hABl]
    have := setFrom_mid (List.replicate 1 obZ).flatten (A ++ B) (T.take 9) (T.drop 9) (by rw [List.length_take]; show 9 = _; omega)
    rw [List.append_assoc (A ++ B), List.take_append_drop] at this
    rw [this]
    show _ = List.toArray (A ++ B ++ (obZ ++ List.drop 9 T))
    rw [List.append_assoc (A ++ B)]
    rfl
  apply t_n
  · apply e_clear (zs := obZ) (cs := List.toArray (A ++ B ++ T))
    · rfl
    · omega
    · simp [Value.oneCell']
    · rw [eS]; exact .here
    · simp; omega
  · rfl
  · rfl
  rintro _ _ ⟨rfl, rfl⟩
  repeat (first | (show OpsS _ _ _ _ _ _ (_ :: _) _ _ _; first | refine ozq ?_) | refine c_seq ?_ | refine p_then ?_ | refine c_region ?_ | refine s_nil ?_ | refine c_cond_t rfl ?_ | refine c_cond_f rfl ?_ | refine c_skip ?_ | refine c_ret ?_ | refine p_then_ret ?_ | refine p_end ?_ | refine c_if_t rfl (by omega) ?_ | refine c_if_f rfl (by omega) ?_)
  refine k_ret [] rfl .refl (by (repeat (first | apply ResS.nil | (apply rs_tmp; (· rfl)) | (apply rs_cell1; (· rfl); (· ((repeat (first | with_reducible apply List.mem_cons_self | with_reducible apply List.mem_cons_of_mem)); try with_reducible assumption)); (· rfl)) | (apply rs_cellA; (· rfl); (· ((repeat (first | with_reducible apply List.mem_cons_self | with_reducible apply List.mem_cons_of_mem)); try with_reducible assumption)); (· (repeat (first | with_reducible apply LSub.done | with_reducible apply LSub.take | with_reducible apply LSub.drop))))))) ⟨[(gb, _)], ⟨by omega, .inr ⟨gb, cap, obZ ++ T.drop 9, rfl, rfl, by omega, hcm, ?_⟩⟩, rfl⟩
  rw [List.length_append, hABl, List.length_append, List.length_drop]
  show i * 9 + m * 9 + (9 + (T.length - 9)) = _
  omega
end Go.Proofs.Ytmmohklaiffkmaa
