/- slices.Index and slices.Delete on lists of numbers that are owned. -/
import Derived.Test.YthhaldgpddmolaaS10
import Derived.Test.YthhaldgpddmolaaV0
set_option linter.unusedVariables false
set_option linter.unusedSimpArgs false
namespace Go.Proofs.Ythhaldgpddmolaa
open Go.RowKit

theorem idxOf_at (id : Int) : ∀ (xs : List Int) (k : Nat), xs[k]? = some id → (∀ j, j < k → xs[j]? ≠ some id) → xs.idxOf id = k ∧ id ∈ xs
  | [], k, h, _ => by simp at h
  | x :: xs, 0, h, _ => by
    simp only [List.getElem?_cons_zero, Option.some.injEq] at h
    subst h; simp
  | x :: xs, k + 1, h, hn => by
    have h0 : x ≠ id := fun e => hn 0 (by omega) (by simp [e])
    have ih := idxOf_at id xs k (by simpa using h) fun j hj => by simpa using hn (j + 1) (by omega)
    refine ⟨?_, List.mem_cons_of_mem _ ih.2⟩
    rw [List.idxOf_cons, show (x == id) = false by simpa using h0, ih.1]; rfl
def indexI (xs : List Int) (id : Int) : Int := if id ∈ xs then (xs.idxOf id : Nat) else -1
set_option pp.deepTerms false
set_option pp.deepTerms.threshold 4
set_option maxHeartbeats 400000
theorem index_any (v : Value) (xs : List Int) (id : Int) (l : List Chunk) (h1 : IntSl l v xs) (hx : xs.length ≤ 1000000) :
    Fn Try.prog 31 [v, .int .i64 id] l fun r l' => r = .int .i64 (indexI xs id) ∧ l' = l := by
  obtain ⟨a, ca, rfl, h1⟩ := h1
  refine fn_of_body Try.func31 rfl rfl fun E => ?_
  simp only [argF, Try.ntmps31]
  repeat (first | (show OpsS _ _ _ _ _ _ (_ :: _) _ _ _; first | (apply t_h; (· first | (show OpQ _ _ _ _ _ ⟨_, .move _, _, _, _, _⟩ _; exact q_move rfl) | (show OpQ _ _ _ _ _ ⟨_, .load _ _, _, _, _, _⟩ _; first | exact q_load rfl (by ((repeat (first | with_reducible apply List.mem_cons_self | with_reducible apply List.mem_cons_of_mem)); try with_reducible assumption)) (by (first | with_reducible assumption | ((with_reducible apply cell_get); (repeat (first | with_reducible apply LGet.zero | with_reducible apply LGet.succ))))) | exact q_loadL rfl (by ((repeat (first | with_reducible apply List.mem_cons_self | with_reducible apply List.mem_cons_of_mem)); try with_reducible assumption)) (by (repeat (first | with_reducible apply LSub.done | with_reducible apply LSub.take | with_reducible apply LSub.drop)))) | (show OpQ _ _ _ _ _ ⟨_, .assign _, _, _, _, _⟩ _; exact q_assign rfl) | (show OpQ _ _ _ _ _ ⟨_, .indexAddr _ _ _, _, _, _, _⟩ _; first | exact q_indexArrN rfl rfl (by omega) (by (first | with_reducible exact Nat.zero_add _ | with_reducible exact Nat.add_zero _ | exact rfl)) | exact q_indexSlN rfl rfl (by omega) (by (first | with_reducible exact Nat.zero_add _ | with_reducible exact Nat.add_zero _ | exact rfl)) | exact q_indexArr rfl rfl (by omega) | exact q_indexSl rfl rfl (by omega)) | (show OpQ _ _ _ _ _ ⟨_, .binOp .eql _ _ _ _, _, _, _, _⟩ _; first | exact q_eql rfl rfl | exact q_eqnil rfl rfl | exact q_eqb rfl rfl Try.underlying4 | exact q_eqnilsl rfl rfl) | (show OpQ _ _ _ _ _ ⟨_, .binOp .add _ _ _ _, _, _, _, _⟩ _; exact q_add rfl rfl (rng_i64 (by omega) (by omega))) | (show OpQ _ _ _ _ _ ⟨_, .binOp .lss _ _ _ _, _, _, _, _⟩ _; exact q_lss rfl rfl) | (show OpQ _ _ _ _ _ ⟨_, .call { callee := .builtin .len, args := _, argTypes := _ }, _, _, _, _⟩ _; first | exact q_len_sl rfl | exact q_len_map rfl (by ((repeat (first | with_reducible apply List.mem_cons_self | with_reducible apply List.mem_cons_of_mem)); try with_reducible assumption)))); (· rfl); (· rfl); (· rfl))) | refine c_seq ?_ | refine p_then ?_ | refine c_region ?_ | refine s_nil ?_ | refine c_cond_t rfl ?_ | refine c_cond_f rfl ?_ | refine c_block ?_ | refine c_skip ?_ | refine c_exit ?_ | refine p_block ?_ | refine p_then_exit ?_ | refine p_block_here ?_ | refine p_block_on rfl ?_ | refine c_ret ?_ | refine p_then_ret ?_ | refine p_block_ret ?_ | refine p_end ?_ | refine c_if_t rfl (by omega) ?_ | refine c_if_f rfl (by omega) ?_)
  refine k_loop (α := Nat) (fun k => [(0, .slice a xs.length ca), (1, .int .i64 id), (7, .int .i64 xs.length), (8, .int .i64 k)]) (fun k => l) (fun k => k ≤ xs.length ∧ ∀ j, j < k → xs[j]? ≠ some id) (fun k => xs.length - k) 0 ⟨Nat.zero_le _, fun j h => by omega⟩ ⟨rfl, rfl, rfl, rfl, trivial⟩ .refl ?_
  rintro k ⟨hk, hj⟩
  by_cases hlt : k < xs.length
  · obtain ⟨b, off, cs, t, fz, rfl, hm, hc⟩ := h1 (by omega)
    have g1 := hc k _ (List.getElem?_eq_getElem hlt)
    obtain ⟨x, hx0⟩ : ∃ x, xs[k] = x := ⟨_, rfl⟩
    rw [hx0] at g1
    have e1 : xs[k]? = some x := by rw [List.getElem?_eq_getElem hlt, hx0]
    by_cases hxy : id = x
    · subst hxy
      obtain ⟨i1, i2⟩ := idxOf_at id xs k e1 hj
      repeat (first | (show OpsS _ _ _ _ _ _ (_ :: _) _ _ _; first | (apply t_h; (· first | (show OpQ _ _ _ _ _ ⟨_, .move _, _, _, _, _⟩ _; exact q_move rfl) | (show OpQ _ _ _ _ _ ⟨_, .load _ _, _, _, _, _⟩ _; first | exact q_load rfl (by ((repeat (first | with_reducible apply List.mem_cons_self | with_reducible apply List.mem_cons_of_mem)); try with_reducible assumption)) (by (first | with_reducible assumption | ((with_reducible apply cell_get); (repeat (first | with_reducible apply LGet.zero | with_reducible apply LGet.succ))))) | exact q_loadL rfl (by ((repeat (first | with_reducible apply List.mem_cons_self | with_reducible apply List.mem_cons_of_mem)); try with_reducible assumption)) (by (repeat (first | with_reducible apply LSub.done | with_reducible apply LSub.take | with_reducible apply LSub.drop)))) | (show OpQ _ _ _ _ _ ⟨_, .assign _, _, _, _, _⟩ _; exact q_assign rfl) | (show OpQ _ _ _ _ _ ⟨_, .indexAddr _ _ _, _, _, _, _⟩ _; first | exact q_indexArrN rfl rfl (by omega) (by (first | with_reducible exact Nat.zero_add _ | with_reducible exact Nat.add_zero _ | exact rfl)) | exact q_indexSlN rfl rfl (by omega) (by (first | with_reducible exact Nat.zero_add _ | with_reducible exact Nat.add_zero _ | exact rfl)) | exact q_indexArr rfl rfl (by omega) | exact q_indexSl rfl rfl (by omega)) | (show OpQ _ _ _ _ _ ⟨_, .binOp .eql _ _ _ _, _, _, _, _⟩ _; first | exact q_eql rfl rfl | exact q_eqnil rfl rfl | exact q_eqb rfl rfl Try.underlying4 | exact q_eqnilsl rfl rfl) | (show OpQ _ _ _ _ _ ⟨_, .binOp .add _ _ _ _, _, _, _, _⟩ _; exact q_add rfl rfl (rng_i64 (by omega) (by omega))) | (show OpQ _ _ _ _ _ ⟨_, .binOp .lss _ _ _ _, _, _, _, _⟩ _; exact q_lss rfl rfl) | (show OpQ _ _ _ _ _ ⟨_, .call { callee := .builtin .len, args := _, argTypes := _ }, _, _, _, _⟩ _; first | exact q_len_sl rfl | exact q_len_map rfl (by ((repeat (first | with_reducible apply List.mem_cons_self | with_reducible apply List.mem_cons_of_mem)); try with_reducible assumption)))); (· rfl); (· rfl); (· rfl))) | refine c_seq ?_ | refine p_then ?_ | refine c_region ?_ | refine s_nil ?_ | refine c_cond_t rfl ?_ | refine c_cond_f rfl ?_ | refine c_block ?_ | refine c_skip ?_ | refine c_exit ?_ | refine p_block ?_ | refine p_then_exit ?_ | refine p_block_here ?_ | refine p_block_on rfl ?_ | refine c_ret ?_ | refine p_then_ret ?_ | refine p_block_ret ?_ | refine p_end ?_ | refine c_if_t rfl (by omega) ?_ | refine c_if_f rfl (by omega) ?_)
      refine k_ret [] rfl .refl (by (repeat (first | apply ResS.nil | (apply rs_tmp; (· rfl)) | (apply rs_cell1; (· rfl); (· ((repeat (first | with_reducible apply List.mem_cons_self | with_reducible apply List.mem_cons_of_mem)); try with_reducible assumption)); (· rfl)) | (apply rs_cellA; (· rfl); (· ((repeat (first | with_reducible apply List.mem_cons_self | with_reducible apply List.mem_cons_of_mem)); try with_reducible assumption)); (· (repeat (first | with_reducible apply LSub.done | with_reducible apply LSub.take | with_reducible apply LSub.drop))))))) ⟨?_, rfl⟩
      simp only [tup, indexI, if_pos i2, i1]
    · repeat (first | (show OpsS _ _ _ _ _ _ (_ :: _) _ _ _; first | (apply t_h; (· first | (show OpQ _ _ _ _ _ ⟨_, .move _, _, _, _, _⟩ _; exact q_move rfl) | (show OpQ _ _ _ _ _ ⟨_, .load _ _, _, _, _, _⟩ _; first | exact q_load rfl (by ((repeat (first | with_reducible apply List.mem_cons_self | with_reducible apply List.mem_cons_of_mem)); try with_reducible assumption)) (by (first | with_reducible assumption | ((with_reducible apply cell_get); (repeat (first | with_reducible apply LGet.zero | with_reducible apply LGet.succ))))) | exact q_loadL rfl (by ((repeat (first | with_reducible apply List.mem_cons_self | with_reducible apply List.mem_cons_of_mem)); try with_reducible assumption)) (by (repeat (first | with_reducible apply LSub.done | with_reducible apply LSub.take | with_reducible apply LSub.drop)))) | (show OpQ _ _ _ _ _ ⟨_, .assign _, _, _, _, _⟩ _; exact q_assign rfl) | (show OpQ _ _ _ _ _ ⟨_, .indexAddr _ _ _, _, _, _, _⟩ _; first | exact q_indexArrN rfl rfl (by omega) (by (first | with_reducible exact Nat.zero_add _ | with_reducible exact Nat.add_zero _ | exact rfl)) | exact q_indexSlN rfl rfl (by omega) (by (first | with_reducible exact Nat.zero_add _ | with_reducible exact Nat.add_zero _ | exact rfl)) | exact q_indexArr rfl rfl (by omega) | exact q_indexSl rfl rfl (by omega)) | (show OpQ _ _ _ _ _ ⟨_, .binOp .eql _ _ _ _, _, _, _, _⟩ _; first | exact q_eql rfl rfl | exact q_eqnil rfl rfl | exact q_eqb rfl rfl Try.underlying4 | exact q_eqnilsl rfl rfl) | (show OpQ _ _ _ _ _ ⟨_, .binOp .add _ _ _ _, _, _, _, _⟩ _; exact q_add rfl rfl (rng_i64 (by omega) (by omega))) | (show OpQ _ _ _ _ _ ⟨_, .binOp .lss _ _ _ _, _, _, _, _⟩ _; exact q_lss rfl rfl) | (show OpQ _ _ _ _ _ ⟨_, .call { callee := .builtin .len, args := _, argTypes := _ }, _, _, _, _⟩ _; first | exact q_len_sl rfl | exact q_len_map rfl (by ((repeat (first | with_reducible apply List.mem_cons_self | with_reducible apply List.mem_cons_of_mem)); try with_reducible assumption)))); (· rfl); (· rfl); (· rfl))) | refine c_seq ?_ | refine p_then ?_ | refine c_region ?_ | refine s_nil ?_ | refine c_cond_t rfl ?_ | refine c_cond_f rfl ?_ | refine c_block ?_ | refine c_skip ?_ | refine c_exit ?_ | refine p_block ?_ | refine p_then_exit ?_ | refine p_block_here ?_ | refine p_block_on rfl ?_ | refine c_ret ?_ | refine p_then_ret ?_ | refine p_block_ret ?_ | refine p_end ?_ | refine c_if_t rfl (by omega) ?_ | refine c_if_f rfl (by omega) ?_)
      exact k_next (k + 1) ⟨by omega, fun j hjk => by
        by_cases e : j = k
        · subst e; rw [e1]; intro h; exact hxy (by cases h; rfl)
        · exact hj j (by omega)⟩ (by omega) ⟨rfl, rfl, rfl, rfl, trivial⟩ .refl
  · obtain rfl : k = xs.length := by omega
    repeat (first | (show OpsS _ _ _ _ _ _ (_ :: _) _ _ _; first | (apply t_h; (· first | (show OpQ _ _ _ _ _ ⟨_, .move _, _, _, _, _⟩ _; exact q_move rfl) | (show OpQ _ _ _ _ _ ⟨_, .load _ _, _, _, _, _⟩ _; first | exact q_load rfl (by ((repeat (first | with_reducible apply List.mem_cons_self | with_reducible apply List.mem_cons_of_mem)); try with_reducible assumption)) (by (first | with_reducible assumption | ((with_reducible apply cell_get); (repeat (first | with_reducible apply LGet.zero | with_reducible apply LGet.succ))))) | exact q_loadL rfl (by ((repeat (first | with_reducible apply List.mem_cons_self | with_reducible apply List.mem_cons_of_mem)); try with_reducible assumption)) (by (repeat (first | with_reducible apply LSub.done | with_reducible apply LSub.take | with_reducible apply LSub.drop)))) | (show OpQ _ _ _ _ _ ⟨_, .assign _, _, _, _, _⟩ _; exact q_assign rfl) | (show OpQ _ _ _ _ _ ⟨_, .indexAddr _ _ _, _, _, _, _⟩ _; first | exact q_indexArrN rfl rfl (by omega) (by (first | with_reducible exact Nat.zero_add _ | with_reducible exact Nat.add_zero _ | exact rfl)) | exact q_indexSlN rfl rfl (by omega) (by (first | with_reducible exact Nat.zero_add _ | with_reducible exact Nat.add_zero _ | exact rfl)) | exact q_indexArr rfl rfl (by omega) | exact q_indexSl rfl rfl (by omega)) | (show OpQ _ _ _ _ _ ⟨_, .binOp .eql _ _ _ _, _, _, _, _⟩ _; first | exact q_eql rfl rfl | exact q_eqnil rfl rfl | exact q_eqb rfl rfl Try.underlying4 | exact q_eqnilsl rfl rfl) | (show OpQ _ _ _ _ _ ⟨_, .binOp .add _ _ _ _, _, _, _, _⟩ _; exact q_add rfl rfl (rng_i64 (by omega) (by omega))) | (show OpQ _ _ _ _ _ ⟨_, .binOp .lss _ _ _ _, _, _, _, _⟩ _; exact q_lss rfl rfl) | (show OpQ _ _ _ _ _ ⟨_, .call { callee := .builtin .len, args := _, argTypes := _ }, _, _, _, _⟩ _; first | exact q_len_sl rfl | exact q_len_map rfl (by ((repeat (first | with_reducible apply List.mem_cons_self | with_reducible apply List.mem_cons_of_mem)); try with_reducible assumption)))); (· rfl); (· rfl); (· rfl))) | refine c_seq ?_ | refine p_then ?_ | refine c_region ?_ | refine s_nil ?_ | refine c_cond_t rfl ?_ | refine c_cond_f rfl ?_ | refine c_block ?_ | refine c_skip ?_ | refine c_exit ?_ | refine p_block ?_ | refine p_then_exit ?_ | refine p_block_here ?_ | refine p_block_on rfl ?_ | refine c_ret ?_ | refine p_then_ret ?_ | refine p_block_ret ?_ | refine p_end ?_ | refine c_if_t rfl (by omega) ?_ | refine c_if_f rfl (by omega) ?_)
    refine k_ret [] rfl .refl (by (repeat (first | apply ResS.nil | (apply rs_tmp; (· rfl)) | (apply rs_cell1; (· rfl); (· ((repeat (first | with_reducible apply List.mem_cons_self | with_reducible apply List.mem_cons_of_mem)); try with_reducible assumption)); (· rfl)) | (apply rs_cellA; (· rfl); (· ((repeat (first | with_reducible apply List.mem_cons_self | with_reducible apply List.mem_cons_of_mem)); try with_reducible assumption)); (· (repeat (first | with_reducible apply LSub.done | with_reducible apply LSub.take | with_reducible apply LSub.drop))))))) ⟨?_, rfl⟩
    have : id ∉ xs := fun hm => by
      obtain ⟨j, hjl, hj2⟩ := List.getElem_of_mem hm
      exact hj j hjl (by rw [List.getElem?_eq_getElem hjl, hj2])
    simp only [tup, indexI, if_neg this]
theorem delete_any (v : Value) (xs : List Int) (i : Nat) (hi : i < xs.length) (cs F : List Chunk) (h : OwnSl 3 1 v xs.length (xs.map intV) cs) (hn : xs.length ≤ 1000000) :
    Fn Try.prog 26 [v, .int .i64 (i : Nat), .int .i64 ((i : Int) + 1)] (cs ++ F) fun r l' => ∃ cs', OwnSl 3 1 r (xs.eraseIdx i).length ((xs.eraseIdx i).map intV) cs' ∧ l' = cs' ++ F := by
  obtain ⟨hlen, h⟩ := h
  rcases h with ⟨rfl, h0, rfl⟩ | ⟨gb, cap, sp, rfl, rfl, hnc, hcm, hcl⟩
  · omega
  obtain ⟨cur, hcur⟩ : ∃ cur, xs.map intV ++ sp = cur := ⟨_, rfl⟩
  obtain ⟨ys, hys⟩ : ∃ ys, (xs.eraseIdx i).map intV = ys := ⟨_, rfl⟩
  obtain ⟨m, hm⟩ : ∃ m, xs.length = i + m + 1 := ⟨xs.length - (i + 1), by omega⟩
  have hel : (xs.eraseIdx i).length = i + m := by rw [List.length_eraseIdx, if_pos hi]; omega
  have hnew : ((xs.drop (i + 1)).map intV).length = m := by simp; omega
  have htake : cur.take (i * 1) ++ (xs.drop (i + 1)).map intV = ys := by
    rw [← hcur, ← hys, List.eraseIdx_eq_take_drop_succ, List.map_append, Nat.mul_one, List.take_append_of_le_length (by simp; omega), List.map_take]
  obtain ⟨off', hoff⟩ : ∃ o, (if cap = i + 1 then 0 else 0 + (i + 1) * 1) = o := ⟨_, rfl⟩
  rw [hcur] at hcl ⊢
  rw [hel, hys]
  refine fn_of_body Try.func26 rfl rfl fun E => ?_
  simp only [argF, Try.ntmps26]
  simp only [List.cons_append, List.nil_append]
  repeat (first | (show OpsS _ _ _ _ _ _ (_ :: _) _ _ _; first | (apply t_h; (· first | (show OpQ _ _ _ _ _ ⟨_, .move _, _, _, _, _⟩ _; exact q_move rfl) | (show OpQ _ _ _ _ _ ⟨_, .assign _, _, _, _, _⟩ _; exact q_assign rfl) | (show OpQ _ _ _ _ _ ⟨_, .binOp .eql _ _ _ _, _, _, _, _⟩ _; first | exact q_eql rfl rfl | exact q_eqnil rfl rfl | exact q_eqb rfl rfl Try.underlying4 | exact q_eqnilsl rfl rfl) | (show OpQ _ _ _ _ _ ⟨_, .call { callee := .builtin .len, args := _, argTypes := _ }, _, _, _, _⟩ _; first | exact q_len_sl rfl | exact q_len_map rfl (by ((repeat (first | with_reducible apply List.mem_cons_self | with_reducible apply List.mem_cons_of_mem)); try with_reducible assumption)))); (· rfl); (· rfl); (· rfl))) | refine c_seq ?_ | refine p_then ?_ | refine c_region ?_ | refine s_nil ?_ | refine c_cond_t rfl ?_ | refine c_cond_f rfl ?_ | refine c_skip ?_ | refine c_ret ?_ | refine p_then_ret ?_ | refine p_end ?_ | refine c_if_t rfl (by omega) ?_ | refine c_if_f rfl (by omega) ?_)
  refine t_q (q_slice (l0 := i) (h0 := i + 1) (m0 := xs.length) rfl (.some rfl (by omega) rfl) (.some rfl (by omega) (by omega)) (.some rfl (by omega) rfl) (fun _ => rfl) (by omega) (by omega) (by omega) rfl rfl rfl) rfl rfl rfl ?_
  repeat (first | (show OpsS _ _ _ _ _ _ (_ :: _) _ _ _; first | (apply t_h; (· first | (show OpQ _ _ _ _ _ ⟨_, .move _, _, _, _, _⟩ _; exact q_move rfl) | (show OpQ _ _ _ _ _ ⟨_, .assign _, _, _, _, _⟩ _; exact q_assign rfl) | (show OpQ _ _ _ _ _ ⟨_, .binOp .eql _ _ _ _, _, _, _, _⟩ _; first | exact q_eql rfl rfl | exact q_eqnil rfl rfl | exact q_eqb rfl rfl Try.underlying4 | exact q_eqnilsl rfl rfl) | (show OpQ _ _ _ _ _ ⟨_, .call { callee := .builtin .len, args := _, argTypes := _ }, _, _, _, _⟩ _; first | exact q_len_sl rfl | exact q_len_map rfl (by ((repeat (first | with_reducible apply List.mem_cons_self | with_reducible apply List.mem_cons_of_mem)); try with_reducible assumption)))); (· rfl); (· rfl); (· rfl))) | refine c_seq ?_ | refine p_then ?_ | refine c_region ?_ | refine s_nil ?_ | refine c_cond_t rfl ?_ | refine c_cond_f rfl ?_ | refine c_skip ?_ | refine c_ret ?_ | refine p_then_ret ?_ | refine p_end ?_ | refine c_if_t rfl (by omega) ?_ | refine c_if_f rfl (by omega) ?_)
  refine c_draw [(0, true), (1, true), (2, true), (3, true), (4, true), (5, true), (6, false), (7, true)] [[], [], [0, 1], [], [], [3, 4], [0, 1, 2, 3, 4, 5], [0, 1, 2, 3, 4, 5, 6]] ([]) (by kernel_rfl) (by kernel_rfl) (by (repeat (first | apply Attach.nil | (apply Attach.cons; · rfl)))) (List.Sublist.subset (by (repeat (first | with_reducible apply List.Sublist.refl | with_reducible apply List.nil_sublist | with_reducible apply List.Sublist.cons_cons | with_reducible apply List.Sublist.cons)))) ?_
  repeat (first | (refine pl_nil ?_) | (show PlanS _ _ _ _ _ _ _ _ _ _ (_ :: _) _ _ _; first | (apply pl_h; (· first | (show OpQ _ _ _ _ _ ⟨_, .move _, _, _, _, _⟩ _; exact q_move rfl) | (show OpQ _ _ _ _ _ ⟨_, .assign _, _, _, _, _⟩ _; exact q_assign rfl)); (· rfl); (· rfl); (· rfl))))
  apply pl_q
  · exact q_slice (l0 := 0) (h0 := i) (m0 := cap) (off' := 0) (n' := i) (c' := cap) rfl (.none) (.some rfl (by omega) rfl) (.none) (by simp) (by omega) (by omega) (by omega) (by simp) (by omega) (by omega)
  · rfl
  · rfl
  · rfl
  repeat (first | (refine pl_nil ?_) | (show PlanS _ _ _ _ _ _ _ _ _ _ (_ :: _) _ _ _; first | (apply pl_h; (· first | (show OpQ _ _ _ _ _ ⟨_, .move _, _, _, _, _⟩ _; exact q_move rfl) | (show OpQ _ _ _ _ _ ⟨_, .assign _, _, _, _, _⟩ _; exact q_assign rfl)); (· rfl); (· rfl); (· rfl))))
  apply pl_q
  · exact q_slice (l0 := i + 1) (h0 := xs.length) (m0 := cap) (off' := off') (n' := m) rfl (.some rfl (by omega) (by omega)) (.none) (.none) (by simp) (by omega) (by omega) (by omega) hoff (by omega) rfl
  · rfl
  · rfl
  · rfl
  repeat (first | (refine pl_nil ?_) | (show PlanS _ _ _ _ _ _ _ _ _ _ (_ :: _) _ _ _; first | (apply pl_h; (· first | (show OpQ _ _ _ _ _ ⟨_, .move _, _, _, _, _⟩ _; exact q_move rfl) | (show OpQ _ _ _ _ _ ⟨_, .assign _, _, _, _, _⟩ _; exact q_assign rfl)); (· rfl); (· rfl); (· rfl))))
  apply pl_e
  · apply e_appendR (news := (xs.drop (i + 1)).map intV) (cl := List.toArray cur) (cur := List.toArray cur)
    · rfl
    · rfl
    · exact List.mem_cons_self
    · intro j u hj
      have hjl := (List.getElem?_eq_some_iff.1 hj).1
      rw [hnew] at hjl
      rw [List.getElem?_map, List.getElem?_drop] at hj
      rw [← hoff, if_neg (by omega), List.getElem?_toArray, ← hcur, List.getElem?_append_left (by simp; omega), List.getElem?_map, show 0 + (i + 1) * 1 + j = i + 1 + j by omega]; exact hj
    · rw [hnew]; omega
    · intro u hu; rw [List.mem_map] at hu; obtain ⟨a, _, rfl⟩ := hu; rfl
    · omega
    · rw [hnew]; simp only [List.size_toArray]; omega
  · rfl
  · rfl
  · rfl
  · intro _ _ _ c hc; cases hc
  rintro _ _ ⟨rfl, rfl⟩
  have e1 : (List.toArray cur).toList.take (i * 1) ++ (xs.drop (i + 1)).map intV ++ (List.toArray cur).toList.drop (i * 1 + ((xs.drop (i + 1)).map intV).length) = ys ++ cur.drop (i + m) := by
    rw [hnew, Nat.mul_one] at *
    rw [← htake]
  rw [e1]
  repeat (first | (refine pl_nil ?_) | (show PlanS _ _ _ _ _ _ _ _ _ _ (_ :: _) _ _ _; first | (apply pl_h; (· first | (show OpQ _ _ _ _ _ ⟨_, .move _, _, _, _, _⟩ _; exact q_move rfl) | (show OpQ _ _ _ _ _ ⟨_, .assign _, _, _, _, _⟩ _; exact q_assign rfl)); (· rfl); (· rfl); (· rfl))))
  repeat (first | (show OpsS _ _ _ _ _ _ (_ :: _) _ _ _; first | (apply t_h; (· first | (show OpQ _ _ _ _ _ ⟨_, .move _, _, _, _, _⟩ _; exact q_move rfl) | (show OpQ _ _ _ _ _ ⟨_, .assign _, _, _, _, _⟩ _; exact q_assign rfl) | (show OpQ _ _ _ _ _ ⟨_, .binOp .eql _ _ _ _, _, _, _, _⟩ _; first | exact q_eql rfl rfl | exact q_eqnil rfl rfl | exact q_eqb rfl rfl Try.underlying4 | exact q_eqnilsl rfl rfl) | (show OpQ _ _ _ _ _ ⟨_, .call { callee := .builtin .len, args := _, argTypes := _ }, _, _, _, _⟩ _; first | exact q_len_sl rfl | exact q_len_map rfl (by ((repeat (first | with_reducible apply List.mem_cons_self | with_reducible apply List.mem_cons_of_mem)); try with_reducible assumption)))); (· rfl); (· rfl); (· rfl))) | refine c_seq ?_ | refine p_then ?_ | refine c_region ?_ | refine s_nil ?_ | refine c_cond_t rfl ?_ | refine c_cond_f rfl ?_ | refine c_skip ?_ | refine c_ret ?_ | refine p_then_ret ?_ | refine p_end ?_ | refine c_if_t rfl (by omega) ?_ | refine c_if_f rfl (by omega) ?_)
  refine t_q (q_slice (l0 := i + m) (h0 := xs.length) (m0 := cap) (off' := i + m) (n' := 1) rfl (.some rfl (by omega) rfl) (.some rfl (by omega) rfl) (.none) (by simp) (by omega) (by omega) (by omega) (by rw [if_neg (by omega)]; omega) (by omega) rfl) rfl rfl rfl ?_
  repeat (first | (show OpsS _ _ _ _ _ _ (_ :: _) _ _ _; first | (apply t_h; (· first | (show OpQ _ _ _ _ _ ⟨_, .move _, _, _, _, _⟩ _; exact q_move rfl) | (show OpQ _ _ _ _ _ ⟨_, .assign _, _, _, _, _⟩ _; exact q_assign rfl) | (show OpQ _ _ _ _ _ ⟨_, .binOp .eql _ _ _ _, _, _, _, _⟩ _; first | exact q_eql rfl rfl | exact q_eqnil rfl rfl | exact q_eqb rfl rfl Try.underlying4 | exact q_eqnilsl rfl rfl) | (show OpQ _ _ _ _ _ ⟨_, .call { callee := .builtin .len, args := _, argTypes := _ }, _, _, _, _⟩ _; first | exact q_len_sl rfl | exact q_len_map rfl (by ((repeat (first | with_reducible apply List.mem_cons_self | with_reducible apply List.mem_cons_of_mem)); try with_reducible assumption)))); (· rfl); (· rfl); (· rfl))) | refine c_seq ?_ | refine p_then ?_ | refine c_region ?_ | refine s_nil ?_ | refine c_cond_t rfl ?_ | refine c_cond_f rfl ?_ | refine c_skip ?_ | refine c_ret ?_ | refine p_then_ret ?_ | refine p_end ?_ | refine c_if_t rfl (by omega) ?_ | refine c_if_f rfl (by omega) ?_)
  have hyl : ys.length = i + m := by rw [← hys, List.length_map, hel]
  have hdl : (cur.drop (i + m)).length = cap - (i + m) := by rw [List.length_drop]; omega
  apply t_n
  · apply e_clear (zs := [.int .i64 0]) (cs := List.toArray (ys ++ cur.drop (i + m)))
    · rfl
    · omega
    · simp [Value.oneCell']
    · (repeat (first | apply Upd.here | apply Upd.there))
    · simp; omega
  · rfl
  · rfl
  rintro _ _ ⟨rfl, rfl⟩
  repeat (first | (show OpsS _ _ _ _ _ _ (_ :: _) _ _ _; first | (apply t_h; (· first | (show OpQ _ _ _ _ _ ⟨_, .move _, _, _, _, _⟩ _; exact q_move rfl) | (show OpQ _ _ _ _ _ ⟨_, .assign _, _, _, _, _⟩ _; exact q_assign rfl) | (show OpQ _ _ _ _ _ ⟨_, .binOp .eql _ _ _ _, _, _, _, _⟩ _; first | exact q_eql rfl rfl | exact q_eqnil rfl rfl | exact q_eqb rfl rfl Try.underlying4 | exact q_eqnilsl rfl rfl) | (show OpQ _ _ _ _ _ ⟨_, .call { callee := .builtin .len, args := _, argTypes := _ }, _, _, _, _⟩ _; first | exact q_len_sl rfl | exact q_len_map rfl (by ((repeat (first | with_reducible apply List.mem_cons_self | with_reducible apply List.mem_cons_of_mem)); try with_reducible assumption)))); (· rfl); (· rfl); (· rfl))) | refine c_seq ?_ | refine p_then ?_ | refine c_region ?_ | refine s_nil ?_ | refine c_cond_t rfl ?_ | refine c_cond_f rfl ?_ | refine c_skip ?_ | refine c_ret ?_ | refine p_then_ret ?_ | refine p_end ?_ | refine c_if_t rfl (by omega) ?_ | refine c_if_f rfl (by omega) ?_)
  refine k_ret [] rfl .refl (by (repeat (first | apply ResS.nil | (apply rs_tmp; (· rfl)) | (apply rs_cell1; (· rfl); (· ((repeat (first | with_reducible apply List.mem_cons_self | with_reducible apply List.mem_cons_of_mem)); try with_reducible assumption)); (· rfl)) | (apply rs_cellA; (· rfl); (· ((repeat (first | with_reducible apply List.mem_cons_self | with_reducible apply List.mem_cons_of_mem)); try with_reducible assumption)); (· (repeat (first | with_reducible apply LSub.done | with_reducible apply LSub.take | with_reducible apply LSub.drop))))))) ⟨[(gb, _)], ⟨by rw [hyl]; omega, .inr ⟨gb, cap, .int .i64 0 :: (cur.drop (i + m)).drop 1, rfl, ?_, by omega, hcm, ?_⟩⟩, rfl⟩
  · congr 3
    simp only [List.replicate_succ, List.replicate_zero, List.flatten_cons, List.flatten_nil, List.append_nil, setFrom, List.setIfInBounds_toArray]
    congr 1
    rw [List.set_append_right _ _ (by omega), show i + m - ys.length = 0 by omega]
    cases hd : cur.drop (i + m) with
    | nil => rw [hd] at hdl; simp at hdl; omega
    | cons c r => rfl
  · simp only [List.length_append, List.length_cons, List.length_drop]; omega
end Go.Proofs.Ythhaldgpddmolaa
