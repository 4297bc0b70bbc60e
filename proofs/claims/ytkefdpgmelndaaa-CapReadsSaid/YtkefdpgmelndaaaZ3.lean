/- The statements' helpers for lists of words: SameWords, OverWords. -/
import Derived.Test.YtkefdpgmelndaaaU0
import Derived.Test.YtkefdpgmelndaaaZ2
set_option linter.unusedVariables false
set_option linter.unusedSimpArgs false
namespace Go.Proofs.Ytkefdpgmelndaaa
open Go.RowKit

/-- v is a slice whose numbers xs can be read in l -/
def WSl (l : List Chunk) (v : Value) (xs : List Nat) : Prop :=
  ∃ a cap, v = .slice a xs.length cap ∧ (0 < xs.length → ∃ b off cs t fz, a = some ⟨b, off, none⟩ ∧ (b, Obj.cells cs t fz) ∈ l ∧ ∀ i x, xs[i]? = some x → cs[off + i * 1]? = some (.int .u64 (x : Nat)))
def wV (x : Nat) : Value := .int .u64 (x : Nat)
theorem OwnSl.words {e : Nat} {v : Value} {xs : List Nat} {cs l : List Chunk} (h : OwnSl e 1 v xs.length (xs.map wV) cs) (hs : ∀ c, c ∈ cs → c ∈ l) : WSl l v xs := by
  rcases h.2 with ⟨rfl, h0, rfl⟩ | ⟨b, cap, sp, rfl, rfl, _⟩
  · exact ⟨none, 0, by rw [h0], fun h => by omega⟩
  · refine ⟨_, cap, rfl, fun h0 => ⟨b, 0, _, e, (0, 0), rfl, hs _ List.mem_cons_self, fun i x hx => ?_⟩⟩
    have hlt := (List.getElem?_eq_some_iff.1 hx).1
    rw [Nat.zero_add, Nat.mul_one, List.getElem?_toArray, List.getElem?_append_left (by simpa using hlt), List.getElem?_map, hx]; rfl
set_option pp.deepTerms false
set_option pp.deepTerms.threshold 4
set_option maxHeartbeats 400000 in
theorem sameWords_any (v u : Value) (xs ys : List Nat) (l : List Chunk) (h1 : WSl l v xs) (h2 : WSl l u ys) (hx : xs.length ≤ 1000000) :
    Fn Try.prog 9 [v, u] l fun r l' => r = .bool (decide (xs = ys)) ∧ l' = l := by
  obtain ⟨a, ca, rfl, h1⟩ := h1
  obtain ⟨a', ca', rfl, h2⟩ := h2
  refine fn_of_body Try.func9 rfl rfl fun E => ?_
  simp only [argF, Try.ntmps9]
  by_cases hl : xs.length = ys.length
  · repeat (first | (show OpsS _ _ _ _ _ _ (_ :: _) _ _ _; first | refine ozq ?_) | refine c_seq ?_ | refine p_then ?_ | refine c_region ?_ | refine s_nil ?_ | refine c_cond_t rfl ?_ | refine c_cond_f rfl ?_ | refine c_block ?_ | refine c_skip ?_ | refine c_exit ?_ | refine p_block ?_ | refine p_then_exit ?_ | refine p_block_here ?_ | refine p_block_on rfl ?_ | refine c_ret ?_ | refine p_then_ret ?_ | refine p_block_ret ?_ | refine p_end ?_ | refine c_if_t rfl (by omega) ?_ | refine c_if_f rfl (by omega) ?_)
    refine k_loop (α := Nat) (fun k => [(0, .slice a xs.length ca), (1, .slice a' ys.length ca'), (5, .int .i64 k)]) (fun k => l) (fun k => k ≤ xs.length ∧ ∀ j, j < k → xs[j]? = ys[j]?) (fun k => xs.length - k) 0 ⟨Nat.zero_le _, fun j h => by omega⟩ ⟨rfl, rfl, rfl, trivial⟩ .refl ?_
    rintro k ⟨hk, hj⟩
    by_cases hlt : k < xs.length
    · obtain ⟨b, off, cs, t, fz, rfl, hm, hc⟩ := h1 (by omega)
      obtain ⟨b', off', cs', t', fz', rfl, hm', hc'⟩ := h2 (by omega)
      have g1 := hc k _ (List.getElem?_eq_getElem hlt)
      have g2 := hc' k _ (List.getElem?_eq_getElem (show k < ys.length by omega))
      obtain ⟨x, hx0⟩ : ∃ x, xs[k] = x := ⟨_, rfl⟩
      obtain ⟨y, hy0⟩ : ∃ y, ys[k]'(by omega) = y := ⟨_, rfl⟩
      rw [hx0] at g1
      rw [hy0] at g2
      have e1 : xs[k]? = some x := by rw [List.getElem?_eq_getElem hlt, hx0]
      have e2 : ys[k]? = some y := by rw [List.getElem?_eq_getElem (show k < ys.length by omega), hy0]
      repeat (first | (show OpsS _ _ _ _ _ _ (_ :: _) _ _ _; first | refine ozq ?_) | refine c_seq ?_ | refine p_then ?_ | refine c_region ?_ | refine s_nil ?_ | refine c_cond_t rfl ?_ | refine c_cond_f rfl ?_ | refine c_block ?_ | refine c_skip ?_ | refine c_exit ?_ | refine p_block ?_ | refine p_then_exit ?_ | refine p_block_here ?_ | refine p_block_on rfl ?_ | refine c_ret ?_ | refine p_then_ret ?_ | refine p_block_ret ?_ | refine p_end ?_ | refine c_if_t rfl (by omega) ?_ | refine c_if_f rfl (by omega) ?_)
      refine c_draw [(0, true), (1, true), (2, true), (3, true), (4, true), (5, true), (6, true), (7, true), (8, true)] [[], [], [0, 1], [0, 1, 2], [], [], [4, 5], [4, 5, 6], [0, 1, 2, 3, 4, 5, 6, 7]] _ (by kernel_rfl) (by kernel_rfl) (by (repeat (first | apply Attach.nil | (apply Attach.cons; · rfl)))) (fun _ h => h) ?_
      repeat (first | refine pl_nil ?_ | (show PlanS _ _ _ _ _ _ _ _ _ _ ((_, true, _) :: _) _ _ _; first | refine pzq ?_) | (show PlanS _ _ _ _ _ _ _ _ none [] ((_, false, _) :: _) _ _ _; first | refine pze ?_))
      by_cases hxy : x = y
      · repeat (first | (show OpsS _ _ _ _ _ _ (_ :: _) _ _ _; first | refine ozq ?_) | refine c_seq ?_ | refine p_then ?_ | refine c_region ?_ | refine s_nil ?_ | refine c_cond_t rfl ?_ | refine c_cond_f rfl ?_ | refine c_block ?_ | refine c_skip ?_ | refine c_exit ?_ | refine p_block ?_ | refine p_then_exit ?_ | refine p_block_here ?_ | refine p_block_on rfl ?_ | refine c_ret ?_ | refine p_then_ret ?_ | refine p_block_ret ?_ | refine p_end ?_ | refine c_if_t rfl (by omega) ?_ | refine c_if_f rfl (by omega) ?_)
        exact k_next (k + 1) ⟨by omega, fun j hjk => by
          by_cases e : j = k
          · subst e; rw [e1, e2, hxy]
          · exact hj j (by omega)⟩ (by omega) ⟨rfl, rfl, rfl, trivial⟩ .refl
      · repeat (first | (show OpsS _ _ _ _ _ _ (_ :: _) _ _ _; first | refine ozq ?_) | refine c_seq ?_ | refine p_then ?_ | refine c_region ?_ | refine s_nil ?_ | refine c_cond_t rfl ?_ | refine c_cond_f rfl ?_ | refine c_block ?_ | refine c_skip ?_ | refine c_exit ?_ | refine p_block ?_ | refine p_then_exit ?_ | refine p_block_here ?_ | refine p_block_on rfl ?_ | refine c_ret ?_ | refine p_then_ret ?_ | refine p_block_ret ?_ | refine p_end ?_ | refine c_if_t rfl (by omega) ?_ | refine c_if_f rfl (by omega) ?_)
        refine k_ret [] rfl .refl (by (repeat (first | apply ResS.nil | (apply rs_tmp; (· rfl)) | (apply rs_cell1; (· rfl); (· ((repeat (first | with_reducible apply List.mem_cons_self | with_reducible apply List.mem_cons_of_mem)); try with_reducible assumption)); (· rfl)) | (apply rs_cellA; (· rfl); (· ((repeat (first | with_reducible apply List.mem_cons_self | with_reducible apply List.mem_cons_of_mem)); try with_reducible assumption)); (· (repeat (first | with_reducible apply LSub.done | with_reducible apply LSub.take | with_reducible apply LSub.drop))))))) ⟨?_, rfl⟩
        rw [show decide (xs = ys) = false from decide_eq_false fun e => by subst e; rw [e1] at e2; exact hxy (by cases e2; rfl)]; rfl
    · obtain rfl : k = xs.length := by omega
      repeat (first | (show OpsS _ _ _ _ _ _ (_ :: _) _ _ _; first | refine ozq ?_) | refine c_seq ?_ | refine p_then ?_ | refine c_region ?_ | refine s_nil ?_ | refine c_cond_t rfl ?_ | refine c_cond_f rfl ?_ | refine c_block ?_ | refine c_skip ?_ | refine c_exit ?_ | refine p_block ?_ | refine p_then_exit ?_ | refine p_block_here ?_ | refine p_block_on rfl ?_ | refine c_ret ?_ | refine p_then_ret ?_ | refine p_block_ret ?_ | refine p_end ?_ | refine c_if_t rfl (by omega) ?_ | refine c_if_f rfl (by omega) ?_)
      refine k_ret [] rfl .refl (by (repeat (first | apply ResS.nil | (apply rs_tmp; (· rfl)) | (apply rs_cell1; (· rfl); (· ((repeat (first | with_reducible apply List.mem_cons_self | with_reducible apply List.mem_cons_of_mem)); try with_reducible assumption)); (· rfl)) | (apply rs_cellA; (· rfl); (· ((repeat (first | with_reducible apply List.mem_cons_self | with_reducible apply List.mem_cons_of_mem)); try with_reducible assumption)); (· (repeat (first | with_reducible apply LSub.done | with_reducible apply LSub.take | with_reducible apply LSub.drop))))))) ⟨?_, rfl⟩
      rw [show decide (xs = ys) = true from decide_eq_true (List.ext_getElem? fun j => by
        by_cases h : j < xs.length
        · exact hj j h
        · rw [List.getElem?_eq_none (by omega), List.getElem?_eq_none (by omega)])]; rfl
  · repeat (first | (show OpsS _ _ _ _ _ _ (_ :: _) _ _ _; first | refine ozq ?_) | refine c_seq ?_ | refine p_then ?_ | refine c_region ?_ | refine s_nil ?_ | refine c_cond_t rfl ?_ | refine c_cond_f rfl ?_ | refine c_block ?_ | refine c_skip ?_ | refine c_exit ?_ | refine p_block ?_ | refine p_then_exit ?_ | refine p_block_here ?_ | refine p_block_on rfl ?_ | refine c_ret ?_ | refine p_then_ret ?_ | refine p_block_ret ?_ | refine p_end ?_ | refine c_if_t rfl (by omega) ?_ | refine c_if_f rfl (by omega) ?_)
    refine k_ret [] rfl .refl (by (repeat (first | apply ResS.nil | (apply rs_tmp; (· rfl)) | (apply rs_cell1; (· rfl); (· ((repeat (first | with_reducible apply List.mem_cons_self | with_reducible apply List.mem_cons_of_mem)); try with_reducible assumption)); (· rfl)) | (apply rs_cellA; (· rfl); (· ((repeat (first | with_reducible apply List.mem_cons_self | with_reducible apply List.mem_cons_of_mem)); try with_reducible assumption)); (· (repeat (first | with_reducible apply LSub.done | with_reducible apply LSub.take | with_reducible apply LSub.drop))))))) ⟨?_, rfl⟩
    rw [show decide (xs = ys) = false from decide_eq_false fun e => hl (by rw [e])]; rfl
set_option pp.deepTerms false
set_option pp.deepTerms.threshold 4
set_option maxHeartbeats 400000 in
theorem overWords_any (v : Value) (n : Nat) (xs : List Value) (cs F : List Chunk) (h : OwnSl 22 1 v n xs cs) (hn : n ≤ 1000000) :
    Fn Try.prog 13 [v] (cs ++ F) fun r l' => r = .tuple #[] ∧ ∃ X, l' = X ++ F := by
  refine fn_of_body Try.func13 rfl rfl fun E => ?_
  simp only [argF, Try.ntmps13]
  obtain ⟨hlen, h⟩ := h
  rcases h with ⟨rfl, rfl, rfl⟩ | ⟨gb, cap, sp, rfl, rfl, hnc, hcm, hcl⟩
  · repeat (first | (show OpsS _ _ _ _ _ _ (_ :: _) _ _ _; first | refine ozq ?_ | refine ozn ?_) | refine c_seq ?_ | refine p_then ?_ | refine c_region ?_ | refine s_nil ?_ | refine c_cond_t rfl ?_ | refine c_cond_f rfl ?_ | refine c_block ?_ | refine c_skip ?_ | refine c_exit ?_ | refine p_block ?_ | refine p_then_exit ?_ | refine p_block_here ?_ | refine p_block_on rfl ?_ | refine c_ret ?_ | refine p_then_ret ?_ | refine p_block_ret ?_ | refine p_end ?_ | refine c_if_t rfl (by omega) ?_ | refine c_if_f rfl (by omega) ?_)
    refine k_loop (α := Unit) (fun k => [(0, .slice none 0 0), (2, .int .i64 0)]) (fun k => F) (fun k => True) (fun k => 0) () trivial ⟨rfl, rfl, trivial⟩ .refl ?_
    rintro _ _
    repeat (first | (show OpsS _ _ _ _ _ _ (_ :: _) _ _ _; first | refine ozq ?_ | refine ozn ?_) | refine c_seq ?_ | refine p_then ?_ | refine c_region ?_ | refine s_nil ?_ | refine c_cond_t rfl ?_ | refine c_cond_f rfl ?_ | refine c_block ?_ | refine c_skip ?_ | refine c_exit ?_ | refine p_block ?_ | refine p_then_exit ?_ | refine p_block_here ?_ | refine p_block_on rfl ?_ | refine c_ret ?_ | refine p_then_ret ?_ | refine p_block_ret ?_ | refine p_end ?_ | refine c_if_t rfl (by omega) ?_ | refine c_if_f rfl (by omega) ?_)
    refine t_e (e_lit1 rfl rfl) rfl rfl rfl ?_
    rintro _ _ ⟨bl, _, rfl, rfl⟩
    apply t_e
    · apply ce_append (xs := []) (news := [.int .u64 3735928559]) (zs := [.int .u64 0]) (cs := []) (n := 0)
      · rfl
      · rfl
      · rfl
      · exact OwnSl.nil _ _
      · exact List.mem_cons_self
      · intro j u hj; simpa using hj
      · rfl
      · simp [Value.oneCell']
      · unfold maxLen; omega
      · omega
    · rfl
    · rfl
    · rfl
    rintro v' _ ⟨cs', hown', rfl⟩
    have hv1 : v'.oneCell' = true := hown'.one
    repeat (first | (show OpsS _ _ _ _ _ _ (_ :: _) _ _ _; first | refine ozq ?_ | refine ozn ?_) | refine c_seq ?_ | refine p_then ?_ | refine c_region ?_ | refine s_nil ?_ | refine c_cond_t rfl ?_ | refine c_cond_f rfl ?_ | refine c_block ?_ | refine c_skip ?_ | refine c_exit ?_ | refine p_block ?_ | refine p_then_exit ?_ | refine p_block_here ?_ | refine p_block_on rfl ?_ | refine c_ret ?_ | refine p_then_ret ?_ | refine p_block_ret ?_ | refine p_end ?_ | refine c_if_t rfl (by omega) ?_ | refine c_if_f rfl (by omega) ?_)
    exact k_ret [] rfl .refl (by (repeat (first | apply ResS.nil | (apply rs_tmp; (· rfl)) | (apply rs_cell1; (· rfl); (· ((repeat (first | with_reducible apply List.mem_cons_self | with_reducible apply List.mem_cons_of_mem)); try with_reducible assumption)); (· rfl)) | (apply rs_cellA; (· rfl); (· ((repeat (first | with_reducible apply List.mem_cons_self | with_reducible apply List.mem_cons_of_mem)); try with_reducible assumption)); (· (repeat (first | with_reducible apply LSub.done | with_reducible apply LSub.take | with_reducible apply LSub.drop))))))) ⟨rfl, cs' ++ [(bl, _)], by simp; rfl⟩
  · simp only [List.cons_append, List.nil_append]
    repeat (first | (show OpsS _ _ _ _ _ _ (_ :: _) _ _ _; first | refine ozq ?_ | refine ozn ?_) | refine c_seq ?_ | refine p_then ?_ | refine c_region ?_ | refine s_nil ?_ | refine c_cond_t rfl ?_ | refine c_cond_f rfl ?_ | refine c_block ?_ | refine c_skip ?_ | refine c_exit ?_ | refine p_block ?_ | refine p_then_exit ?_ | refine p_block_here ?_ | refine p_block_on rfl ?_ | refine c_ret ?_ | refine p_then_ret ?_ | refine p_block_ret ?_ | refine p_end ?_ | refine c_if_t rfl (by omega) ?_ | refine c_if_f rfl (by omega) ?_)
    refine k_loop (α := Nat × List Value) (fun x => [(0, .slice (some ⟨gb, 0, none⟩) n cap), (2, .int .i64 x.1)]) (fun x => (gb, .cells (List.toArray x.2) 22 (0, 0)) :: F) (fun x => x.1 ≤ n ∧ x.2.length = cap * 1) (fun x => n - x.1) (0, xs ++ sp) ⟨Nat.zero_le _, hcl⟩ ⟨rfl, rfl, trivial⟩ .refl ?_
    rintro ⟨k, ys⟩ ⟨hk, hy⟩
    simp only at hk hy ⊢
    by_cases hlt : k < n
    · repeat (first | (show OpsS _ _ _ _ _ _ (_ :: _) _ _ _; first | refine ozq ?_ | refine ozn ?_) | refine c_seq ?_ | refine p_then ?_ | refine c_region ?_ | refine s_nil ?_ | refine c_cond_t rfl ?_ | refine c_cond_f rfl ?_ | refine c_block ?_ | refine c_skip ?_ | refine c_exit ?_ | refine p_block ?_ | refine p_then_exit ?_ | refine p_block_here ?_ | refine p_block_on rfl ?_ | refine c_ret ?_ | refine p_then_ret ?_ | refine p_block_ret ?_ | refine p_end ?_ | refine c_if_t rfl (by omega) ?_ | refine c_if_f rfl (by omega) ?_)
      refine t_n (e_store (cs := List.toArray ys) rfl rfl rfl (by (repeat (first | apply Upd.here | apply Upd.there))) (by simp; omega)) rfl rfl ?_
      rintro _ _ ⟨rfl, rfl⟩
      rw [List.setIfInBounds_toArray]
      repeat (first | (show OpsS _ _ _ _ _ _ (_ :: _) _ _ _; first | refine ozq ?_ | refine ozn ?_) | refine c_seq ?_ | refine p_then ?_ | refine c_region ?_ | refine s_nil ?_ | refine c_cond_t rfl ?_ | refine c_cond_f rfl ?_ | refine c_block ?_ | refine c_skip ?_ | refine c_exit ?_ | refine p_block ?_ | refine p_then_exit ?_ | refine p_block_here ?_ | refine p_block_on rfl ?_ | refine c_ret ?_ | refine p_then_ret ?_ | refine p_block_ret ?_ | refine p_end ?_ | refine c_if_t rfl (by omega) ?_ | refine c_if_f rfl (by omega) ?_)
      exact k_next (k + 1, ys.set (k * 1) (.int .u64 3735928559)) ⟨by simp only; omega, by simp only [List.length_set]; exact hy⟩ (by simp only; omega) ⟨rfl, rfl, trivial⟩ .refl
    · obtain rfl : k = n := by omega
      repeat (first | (show OpsS _ _ _ _ _ _ (_ :: _) _ _ _; first | refine ozq ?_ | refine ozn ?_) | refine c_seq ?_ | refine p_then ?_ | refine c_region ?_ | refine s_nil ?_ | refine c_cond_t rfl ?_ | refine c_cond_f rfl ?_ | refine c_block ?_ | refine c_skip ?_ | refine c_exit ?_ | refine p_block ?_ | refine p_then_exit ?_ | refine p_block_here ?_ | refine p_block_on rfl ?_ | refine c_ret ?_ | refine p_then_ret ?_ | refine p_block_ret ?_ | refine p_end ?_ | refine c_if_t rfl (by omega) ?_ | refine c_if_f rfl (by omega) ?_)
      refine t_e (e_lit1 rfl rfl) rfl rfl rfl ?_
      rintro _ _ ⟨bl, _, rfl, rfl⟩
      refine s_keep (Keep.of_perm (List.Perm.swap _ _ _)) ?_
      apply t_e
      · apply ce_append (xs := ys.take k) (news := [.int .u64 3735928559]) (zs := [.int .u64 0]) (cs := [(gb, _)]) (n := k)
        · rfl
        · rfl
        · rfl
        · exact ⟨by simp; omega, .inr ⟨gb, cap, ys.drop k, rfl, by rw [List.take_append_drop], hnc, hcm, by rw [List.take_append_drop]; exact hy⟩⟩
        · exact List.mem_cons_of_mem _ List.mem_cons_self
        · intro j u hj; simpa using hj
        · rfl
        · simp [Value.oneCell']
        · unfold maxLen; omega
        · omega
      · rfl
      · rfl
      · rfl
      rintro v' _ ⟨cs', hown', rfl⟩
      have hv1 : v'.oneCell' = true := hown'.one
      repeat (first | (show OpsS _ _ _ _ _ _ (_ :: _) _ _ _; first | refine ozq ?_ | refine ozn ?_) | refine c_seq ?_ | refine p_then ?_ | refine c_region ?_ | refine s_nil ?_ | refine c_cond_t rfl ?_ | refine c_cond_f rfl ?_ | refine c_block ?_ | refine c_skip ?_ | refine c_exit ?_ | refine p_block ?_ | refine p_then_exit ?_ | refine p_block_here ?_ | refine p_block_on rfl ?_ | refine c_ret ?_ | refine p_then_ret ?_ | refine p_block_ret ?_ | refine p_end ?_ | refine c_if_t rfl (by omega) ?_ | refine c_if_f rfl (by omega) ?_)
      exact k_ret [] rfl .refl (by (repeat (first | apply ResS.nil | (apply rs_tmp; (· rfl)) | (apply rs_cell1; (· rfl); (· ((repeat (first | with_reducible apply List.mem_cons_self | with_reducible apply List.mem_cons_of_mem)); try with_reducible assumption)); (· rfl)) | (apply rs_cellA; (· rfl); (· ((repeat (first | with_reducible apply List.mem_cons_self | with_reducible apply List.mem_cons_of_mem)); try with_reducible assumption)); (· (repeat (first | with_reducible apply LSub.done | with_reducible apply LSub.take | with_reducible apply LSub.drop))))))) ⟨rfl, cs' ++ [(bl, _)], by simp; rfl⟩
end Go.Proofs.Ytkefdpgmelndaaa
