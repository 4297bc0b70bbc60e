/- LendWords, KeptWords; CapReads. -/
-- GU
import Derived.Test.YtkefdpgmelndaaaU0
import Derived.Test.YtkefdpgmelndaaaZ12
set_option linter.unusedVariables false
set_option linter.unusedSimpArgs false
namespace Go.Proofs.Ytkefdpgmelndaaa
open Go.RowKit

theorem wV_one (x : Nat) : (wV x).oneCell' = true := rfl
def lendL (ws : List Nat) (i : Nat) : List Nat := ws ++ (List.replicate i 777 ++ List.replicate (3 - i) 0)
theorem lendL_len (ws : List Nat) {i : Nat} (h : i ≤ 3) : (lendL ws i).length = ws.length + 3 := by
  unfold lendL
  rw [List.length_append, List.length_append, List.length_replicate, List.length_replicate]; omega
theorem lendL_set (ws : List Nat) {i : Nat} (h : i < 3) : (lendL ws i).set (ws.length + i) 777 = lendL ws (i + 1) := by
  unfold lendL
  rw [List.set_append_right _ _ (by omega), Nat.add_sub_cancel_left]
  obtain rfl | rfl | rfl : i = 0 ∨ i = 1 ∨ i = 2 := by omega
  all_goals rfl
theorem lendL_at (ws : List Nat) {i : Nat} (h : i < 3) : (lendL ws 3)[ws.length + i]? = some 777 := by
  unfold lendL
  rw [List.getElem?_append_right (by omega), Nat.add_sub_cancel_left]
  obtain rfl | rfl | rfl : i = 0 ∨ i = 1 ∨ i = 2 := by omega
  all_goals rfl
theorem lendL_fst (ws : List Nat) {i : Nat} {x : Nat} (h : ws[i]? = some x) : (lendL ws 3)[i]? = some x := by
  unfold lendL
  rw [List.getElem?_append_left (List.getElem?_eq_some_iff.1 h).1]; exact h
abbrev lendC (b : Nat) (ws : List Nat) (i : Nat) : Chunk := (b, .cells (List.toArray ((lendL ws i).map wV)) 22 (0, 0))
theorem WSl.mono {l l' : List Chunk} {v : Value} {ws : List Nat} (h : WSl l v ws) (hs : ∀ c, c ∈ l → c ∈ l') : WSl l' v ws := by
  obtain ⟨p, cap, h1, h2⟩ := h
  exact ⟨p, cap, h1, fun h0 => by
    obtain ⟨b, off, cs, t, fz, k1, k2, k3⟩ := h2 h0
    exact ⟨b, off, cs, t, fz, k1, hs _ k2, k3⟩⟩
set_option pp.deepTerms false
set_option pp.deepTerms.threshold 4
set_option maxHeartbeats 400000
theorem lendWords_any (v : Value) (ws : List Nat) (l : List Chunk) (h : WSl l v ws) (hn : ws.length ≤ 8) :
    Fn Try.prog 15 [v] l fun r l' => ∃ b, r = .slice (some ⟨b, 0, none⟩) ws.length (ws.length + 3) ∧ l' = lendC b ws 3 :: l := by
  obtain ⟨p, cp, rfl, hW⟩ := h
  refine fn_of_body Try.func15 rfl rfl fun E => ?_
  simp only [argF, Try.ntmps15]
  repeat (first | (show OpsS _ _ _ _ _ _ (_ :: _) _ _ _; first | refine ozq ?_ | refine ozn ?_) | refine c_seq ?_ | refine p_then ?_ | refine c_region ?_ | refine s_nil ?_ | refine c_cond_t rfl ?_ | refine c_cond_f rfl ?_ | refine c_block ?_ | refine c_skip ?_ | refine c_exit ?_ | refine p_block ?_ | refine p_then_exit ?_ | refine p_block_here ?_ | refine p_block_on rfl ?_ | refine c_ret ?_ | refine p_then_ret ?_ | refine p_block_ret ?_ | refine p_end ?_ | refine c_if_t rfl (by omega) ?_ | refine c_if_f rfl (by omega) ?_)
  refine t_e (e_makeSliceC (n := 0) (m := ws.length + 3) (kk := 1) (zs := [.int .u64 0]) (xs := (List.replicate (ws.length + 3) 0).map wV) rfl rfl rfl (by omega) (by omega) (by omega) (by decide) (by rw [List.map_replicate, List.flatten_replicate_singleton]; rfl)) rfl rfl rfl ?_
  rintro _ _ ⟨b, hb, rfl, rfl⟩
  repeat (first | (show OpsS _ _ _ _ _ _ (_ :: _) _ _ _; first | refine ozq ?_ | refine ozn ?_) | refine c_seq ?_ | refine p_then ?_ | refine c_region ?_ | refine s_nil ?_ | refine c_cond_t rfl ?_ | refine c_cond_f rfl ?_ | refine c_block ?_ | refine c_skip ?_ | refine c_exit ?_ | refine p_block ?_ | refine p_then_exit ?_ | refine p_block_here ?_ | refine p_block_on rfl ?_ | refine c_ret ?_ | refine p_then_ret ?_ | refine p_block_ret ?_ | refine p_end ?_ | refine c_if_t rfl (by omega) ?_ | refine c_if_f rfl (by omega) ?_)
  by_cases h0 : ws.length = 0
  · have hw0 : ws = [] := List.eq_nil_of_length_eq_zero h0
    subst hw0
    refine t_e (e_appendNo rfl rfl (by omega)) rfl rfl rfl ?_
    rintro _ _ ⟨rfl, rfl⟩
    repeat (first | (show OpsS _ _ _ _ _ _ (_ :: _) _ _ _; first | refine ozq ?_ | refine ozn ?_) | refine c_seq ?_ | refine p_then ?_ | refine c_region ?_ | refine s_nil ?_ | refine c_cond_t rfl ?_ | refine c_cond_f rfl ?_ | refine c_block ?_ | refine c_skip ?_ | refine c_exit ?_ | refine p_block ?_ | refine p_then_exit ?_ | refine p_block_here ?_ | refine p_block_on rfl ?_ | refine c_ret ?_ | refine p_then_ret ?_ | refine p_block_ret ?_ | refine p_end ?_ | refine c_if_t rfl (by omega) ?_ | refine c_if_f rfl (by omega) ?_)
    refine t_q (q_slice (l0 := ([] : List Nat).length) (h0 := ([] : List Nat).length + 3) (m0 := ([] : List Nat).length + 3) (off' := ([] : List Nat).length) (n' := 3) (c' := 3) rfl (.some rfl (by omega) (by omega)) (.some rfl (by omega) (by omega)) .none (by simp) (by omega) (by omega) (by omega) (by rw [if_neg (by omega)]; omega) (by omega) (by omega)) rfl rfl rfl ?_
    repeat (first | (show OpsS _ _ _ _ _ _ (_ :: _) _ _ _; first | refine ozq ?_ | refine ozn ?_) | refine c_seq ?_ | refine p_then ?_ | refine c_region ?_ | refine s_nil ?_ | refine c_cond_t rfl ?_ | refine c_cond_f rfl ?_ | refine c_block ?_ | refine c_skip ?_ | refine c_exit ?_ | refine p_block ?_ | refine p_then_exit ?_ | refine p_block_here ?_ | refine p_block_on rfl ?_ | refine c_ret ?_ | refine p_then_ret ?_ | refine p_block_ret ?_ | refine p_end ?_ | refine c_if_t rfl (by omega) ?_ | refine c_if_f rfl (by omega) ?_)
    refine k_loop (α := Nat) (fun i => [(3, .slice (some ⟨b, 0, none⟩) ([] : List Nat).length (([] : List Nat).length + 3)), (4, .slice (some ⟨b, ([] : List Nat).length, none⟩) 3 3), (5, .int .i64 i)]) (fun i => lendC b ([] : List Nat) i :: l) (fun i => i ≤ 3) (fun i => 3 - i) 0 (Nat.zero_le _) ⟨rfl, rfl, rfl, trivial⟩ .refl ?_
    intro i hi
    by_cases hlt : i < 3
    · repeat (first | (show OpsS _ _ _ _ _ _ (_ :: _) _ _ _; first | refine ozq ?_ | refine ozn ?_) | refine c_seq ?_ | refine p_then ?_ | refine c_region ?_ | refine s_nil ?_ | refine c_cond_t rfl ?_ | refine c_cond_f rfl ?_ | refine c_block ?_ | refine c_skip ?_ | refine c_exit ?_ | refine p_block ?_ | refine p_then_exit ?_ | refine p_block_here ?_ | refine p_block_on rfl ?_ | refine c_ret ?_ | refine p_then_ret ?_ | refine p_block_ret ?_ | refine p_end ?_ | refine c_if_t rfl (by omega) ?_ | refine c_if_f rfl (by omega) ?_)
      refine t_n (e_store (b := b) (off := ([] : List Nat).length + i * 1) (v := wV 777) (cs := List.toArray ((lendL ([] : List Nat) i).map wV)) rfl rfl rfl .here (by simp [lendL_len ([] : List Nat) hi]; omega)) rfl rfl ?_
      rintro _ _ ⟨rfl, rfl⟩
      rw [Nat.mul_one, List.setIfInBounds_toArray, ← List.map_set, lendL_set ([] : List Nat) hlt]
      repeat (first | (show OpsS _ _ _ _ _ _ (_ :: _) _ _ _; first | refine ozq ?_ | refine ozn ?_) | refine c_seq ?_ | refine p_then ?_ | refine c_region ?_ | refine s_nil ?_ | refine c_cond_t rfl ?_ | refine c_cond_f rfl ?_ | refine c_block ?_ | refine c_skip ?_ | refine c_exit ?_ | refine p_block ?_ | refine p_then_exit ?_ | refine p_block_here ?_ | refine p_block_on rfl ?_ | refine c_ret ?_ | refine p_then_ret ?_ | refine p_block_ret ?_ | refine p_end ?_ | refine c_if_t rfl (by omega) ?_ | refine c_if_f rfl (by omega) ?_)
      exact k_next (i + 1) (by show i + 1 ≤ 3; omega) (by omega) ⟨rfl, rfl, rfl, trivial⟩ .refl
    · obtain rfl : i = 3 := by omega
      repeat (first | (show OpsS _ _ _ _ _ _ (_ :: _) _ _ _; first | refine ozq ?_ | refine ozn ?_) | refine c_seq ?_ | refine p_then ?_ | refine c_region ?_ | refine s_nil ?_ | refine c_cond_t rfl ?_ | refine c_cond_f rfl ?_ | refine c_block ?_ | refine c_skip ?_ | refine c_exit ?_ | refine p_block ?_ | refine p_then_exit ?_ | refine p_block_here ?_ | refine p_block_on rfl ?_ | refine c_ret ?_ | refine p_then_ret ?_ | refine p_block_ret ?_ | refine p_end ?_ | refine c_if_t rfl (by omega) ?_ | refine c_if_f rfl (by omega) ?_)
      exact k_ret [] rfl (l' := lendC b ([] : List Nat) 3 :: l) .refl (by (repeat (first | apply ResS.nil | (apply rs_tmp; (· rfl)) | (apply rs_cell1; (· rfl); (· ((repeat (first | with_reducible apply List.mem_cons_self | with_reducible apply List.mem_cons_of_mem)); try with_reducible assumption)); (· rfl)) | (apply rs_cellA; (· rfl); (· ((repeat (first | with_reducible apply List.mem_cons_self | with_reducible apply List.mem_cons_of_mem)); try with_reducible assumption)); (· (repeat (first | with_reducible apply LSub.done | with_reducible apply LSub.take | with_reducible apply LSub.drop))))))) ⟨b, rfl, rfl⟩
  · obtain ⟨bB, off, xs, ty, fz, rfl, hm, hc⟩ := hW (by omega)
    refine t_e (e_appendIn (k := 1) (gb := b) (n := 0) (m := ws.length) (xs := []) (news := ws.map wV) (sp := (List.replicate (ws.length + 3) 0).map wV) (F := l) rfl rfl rfl (by omega) (by simp) (.tail _ hm) (fun j u hj => ?_) (by simp) (fun u hu => ?_)) rfl rfl rfl ?_
    · rw [List.getElem?_map] at hj
      cases hx : ws[j]? with
      | none => rw [hx] at hj; cases hj
      | some x => rw [hx] at hj; cases hj; have := hc j x hx; rw [Nat.mul_one] at this; exact this
    · obtain ⟨x, _, rfl⟩ := List.mem_map.1 hu; rfl
    rintro _ _ ⟨rfl, rfl⟩
    rw [show [] ++ ws.map wV ++ ((List.replicate (ws.length + 3) 0).map wV).drop (ws.length * 1) = (lendL ws 0).map wV by
      unfold lendL
      rw [Nat.mul_one, List.nil_append, List.map_append, ← List.map_drop, List.drop_replicate, show ws.length + 3 - ws.length = 3 by omega]; rfl, Nat.zero_add]
    repeat (first | (show OpsS _ _ _ _ _ _ (_ :: _) _ _ _; first | refine ozq ?_ | refine ozn ?_) | refine c_seq ?_ | refine p_then ?_ | refine c_region ?_ | refine s_nil ?_ | refine c_cond_t rfl ?_ | refine c_cond_f rfl ?_ | refine c_block ?_ | refine c_skip ?_ | refine c_exit ?_ | refine p_block ?_ | refine p_then_exit ?_ | refine p_block_here ?_ | refine p_block_on rfl ?_ | refine c_ret ?_ | refine p_then_ret ?_ | refine p_block_ret ?_ | refine p_end ?_ | refine c_if_t rfl (by omega) ?_ | refine c_if_f rfl (by omega) ?_)
    refine t_q (q_slice (l0 := ws.length) (h0 := ws.length + 3) (m0 := ws.length + 3) (off' := ws.length) (n' := 3) (c' := 3) rfl (.some rfl (by omega) (by omega)) (.some rfl (by omega) (by omega)) .none (by simp) (by omega) (by omega) (by omega) (by rw [if_neg (by omega)]; omega) (by omega) (by omega)) rfl rfl rfl ?_
    repeat (first | (show OpsS _ _ _ _ _ _ (_ :: _) _ _ _; first | refine ozq ?_ | refine ozn ?_) | refine c_seq ?_ | refine p_then ?_ | refine c_region ?_ | refine s_nil ?_ | refine c_cond_t rfl ?_ | refine c_cond_f rfl ?_ | refine c_block ?_ | refine c_skip ?_ | refine c_exit ?_ | refine p_block ?_ | refine p_then_exit ?_ | refine p_block_here ?_ | refine p_block_on rfl ?_ | refine c_ret ?_ | refine p_then_ret ?_ | refine p_block_ret ?_ | refine p_end ?_ | refine c_if_t rfl (by omega) ?_ | refine c_if_f rfl (by omega) ?_)
    refine k_loop (α := Nat) (fun i => [(3, .slice (some ⟨b, 0, none⟩) ws.length (ws.length + 3)), (4, .slice (some ⟨b, ws.length, none⟩) 3 3), (5, .int .i64 i)]) (fun i => lendC b ws i :: l) (fun i => i ≤ 3) (fun i => 3 - i) 0 (Nat.zero_le _) ⟨rfl, rfl, rfl, trivial⟩ .refl ?_
    intro i hi
    by_cases hlt : i < 3
    · repeat (first | (show OpsS _ _ _ _ _ _ (_ :: _) _ _ _; first | refine ozq ?_ | refine ozn ?_) | refine c_seq ?_ | refine p_then ?_ | refine c_region ?_ | refine s_nil ?_ | refine c_cond_t rfl ?_ | refine c_cond_f rfl ?_ | refine c_block ?_ | refine c_skip ?_ | refine c_exit ?_ | refine p_block ?_ | refine p_then_exit ?_ | refine p_block_here ?_ | refine p_block_on rfl ?_ | refine c_ret ?_ | refine p_then_ret ?_ | refine p_block_ret ?_ | refine p_end ?_ | refine c_if_t rfl (by omega) ?_ | refine c_if_f rfl (by omega) ?_)
      refine t_n (e_store (b := b) (off := ws.length + i * 1) (v := wV 777) (cs := List.toArray ((lendL ws i).map wV)) rfl rfl rfl .here (by simp [lendL_len ws hi]; omega)) rfl rfl ?_
      rintro _ _ ⟨rfl, rfl⟩
      rw [Nat.mul_one, List.setIfInBounds_toArray, ← List.map_set, lendL_set ws hlt]
      repeat (first | (show OpsS _ _ _ _ _ _ (_ :: _) _ _ _; first | refine ozq ?_ | refine ozn ?_) | refine c_seq ?_ | refine p_then ?_ | refine c_region ?_ | refine s_nil ?_ | refine c_cond_t rfl ?_ | refine c_cond_f rfl ?_ | refine c_block ?_ | refine c_skip ?_ | refine c_exit ?_ | refine p_block ?_ | refine p_then_exit ?_ | refine p_block_here ?_ | refine p_block_on rfl ?_ | refine c_ret ?_ | refine p_then_ret ?_ | refine p_block_ret ?_ | refine p_end ?_ | refine c_if_t rfl (by omega) ?_ | refine c_if_f rfl (by omega) ?_)
      exact k_next (i + 1) (by show i + 1 ≤ 3; omega) (by omega) ⟨rfl, rfl, rfl, trivial⟩ .refl
    · obtain rfl : i = 3 := by omega
      repeat (first | (show OpsS _ _ _ _ _ _ (_ :: _) _ _ _; first | refine ozq ?_ | refine ozn ?_) | refine c_seq ?_ | refine p_then ?_ | refine c_region ?_ | refine s_nil ?_ | refine c_cond_t rfl ?_ | refine c_cond_f rfl ?_ | refine c_block ?_ | refine c_skip ?_ | refine c_exit ?_ | refine p_block ?_ | refine p_then_exit ?_ | refine p_block_here ?_ | refine p_block_on rfl ?_ | refine c_ret ?_ | refine p_then_ret ?_ | refine p_block_ret ?_ | refine p_end ?_ | refine c_if_t rfl (by omega) ?_ | refine c_if_f rfl (by omega) ?_)
      exact k_ret [] rfl (l' := lendC b ws 3 :: l) .refl (by (repeat (first | apply ResS.nil | (apply rs_tmp; (· rfl)) | (apply rs_cell1; (· rfl); (· ((repeat (first | with_reducible apply List.mem_cons_self | with_reducible apply List.mem_cons_of_mem)); try with_reducible assumption)); (· rfl)) | (apply rs_cellA; (· rfl); (· ((repeat (first | with_reducible apply List.mem_cons_self | with_reducible apply List.mem_cons_of_mem)); try with_reducible assumption)); (· (repeat (first | with_reducible apply LSub.done | with_reducible apply LSub.take | with_reducible apply LSub.drop))))))) ⟨b, rfl, rfl⟩
theorem keptWords_any (b cp : Nat) (v : Value) (ws : List Nat) (l : List Chunk) (hm : lendC b ws 3 ∈ l) (h : WSl l v ws) (hn : ws.length ≤ 8) :
    Fn Try.prog 18 [.slice (some ⟨b, 0, none⟩) ws.length (ws.length + 3), v] l fun r l' => r = .bool true ∧ l' = l := by
  have hat : ∀ i, i < 3 → (List.toArray ((lendL ws 3).map wV))[ws.length + i * 1]? = some (.int .u64 777) := fun i hi => by
    rw [Nat.mul_one, List.getElem?_toArray, List.getElem?_map, lendL_at ws hi]; rfl
  have hin : WSl l (.slice (some ⟨b, 0, none⟩) ws.length (ws.length + 3)) ws := ⟨_, _, rfl, fun _ => ⟨b, 0, _, _, _, rfl, hm, fun i x hx => by
    rw [Nat.zero_add, Nat.mul_one, List.getElem?_toArray, List.getElem?_map, lendL_fst ws hx]; rfl⟩⟩
  refine fn_of_body Try.func18 rfl rfl fun E => ?_
  simp only [argF, Try.ntmps18]
  repeat (first | (show OpsS _ _ _ _ _ _ (_ :: _) _ _ _; first | refine ozq ?_) | refine c_seq ?_ | refine p_then ?_ | refine c_region ?_ | refine s_nil ?_ | refine c_cond_t rfl ?_ | refine c_cond_f rfl ?_ | refine c_block ?_ | refine c_skip ?_ | refine c_exit ?_ | refine p_block ?_ | refine p_then_exit ?_ | refine p_block_here ?_ | refine p_block_on rfl ?_ | refine c_ret ?_ | refine p_then_ret ?_ | refine p_block_ret ?_ | refine p_end ?_ | refine c_if_t rfl (by omega) ?_ | refine c_if_f rfl (by omega) ?_)
  refine t_q (q_slice (l0 := ws.length) (h0 := ws.length + 3) (m0 := ws.length + 3) (off' := ws.length) (n' := 3) (c' := 3) rfl (.some rfl (by omega) (by omega)) (.some rfl (by omega) (by omega)) .none (by simp) (by omega) (by omega) (by omega) (by rw [if_neg (by omega)]; omega) (by omega) (by omega)) rfl rfl rfl ?_
  repeat (first | (show OpsS _ _ _ _ _ _ (_ :: _) _ _ _; first | refine ozq ?_) | refine c_seq ?_ | refine p_then ?_ | refine c_region ?_ | refine s_nil ?_ | refine c_cond_t rfl ?_ | refine c_cond_f rfl ?_ | refine c_block ?_ | refine c_skip ?_ | refine c_exit ?_ | refine p_block ?_ | refine p_then_exit ?_ | refine p_block_here ?_ | refine p_block_on rfl ?_ | refine c_ret ?_ | refine p_then_ret ?_ | refine p_block_ret ?_ | refine p_end ?_ | refine c_if_t rfl (by omega) ?_ | refine c_if_f rfl (by omega) ?_)
  refine k_loop (α := Nat) (fun i => [(0, .slice (some ⟨b, 0, none⟩) ws.length (ws.length + 3)), (1, v), (5, .slice (some ⟨b, ws.length, none⟩) 3 3), (6, .int .i64 i)]) (fun i => l) (fun i => i ≤ 3) (fun i => 3 - i) 0 (Nat.zero_le _) ⟨rfl, rfl, rfl, rfl, trivial⟩ .refl ?_
  intro i hi
  by_cases hlt : i < 3
  · have h7 := hat i hlt
    repeat (first | (show OpsS _ _ _ _ _ _ (_ :: _) _ _ _; first | refine ozq ?_) | refine c_seq ?_ | refine p_then ?_ | refine c_region ?_ | refine s_nil ?_ | refine c_cond_t rfl ?_ | refine c_cond_f rfl ?_ | refine c_block ?_ | refine c_skip ?_ | refine c_exit ?_ | refine p_block ?_ | refine p_then_exit ?_ | refine p_block_here ?_ | refine p_block_on rfl ?_ | refine c_ret ?_ | refine p_then_ret ?_ | refine p_block_ret ?_ | refine p_end ?_ | refine c_if_t rfl (by omega) ?_ | refine c_if_f rfl (by omega) ?_)
    exact k_next (i + 1) (by show i + 1 ≤ 3; omega) (by omega) ⟨rfl, rfl, rfl, rfl, trivial⟩ .refl
  · repeat (first | (show OpsS _ _ _ _ _ _ (_ :: _) _ _ _; first | refine ozq ?_) | refine c_seq ?_ | refine p_then ?_ | refine c_region ?_ | refine s_nil ?_ | refine c_cond_t rfl ?_ | refine c_cond_f rfl ?_ | refine c_block ?_ | refine c_skip ?_ | refine c_exit ?_ | refine p_block ?_ | refine p_then_exit ?_ | refine p_block_here ?_ | refine p_block_on rfl ?_ | refine c_ret ?_ | refine p_then_ret ?_ | refine p_block_ret ?_ | refine p_end ?_ | refine c_if_t rfl (by omega) ?_ | refine c_if_f rfl (by omega) ?_)
    refine t_q (q_call rfl rfl fun l2 hl => sameWords_any _ v ws ws l2 (hin.mono hl) (h.mono hl) (by omega)) rfl rfl rfl ?_
    rw [decide_eq_true rfl]
    repeat (first | (show OpsS _ _ _ _ _ _ (_ :: _) _ _ _; first | refine ozq ?_) | refine c_seq ?_ | refine p_then ?_ | refine c_region ?_ | refine s_nil ?_ | refine c_cond_t rfl ?_ | refine c_cond_f rfl ?_ | refine c_block ?_ | refine c_skip ?_ | refine c_exit ?_ | refine p_block ?_ | refine p_then_exit ?_ | refine p_block_here ?_ | refine p_block_on rfl ?_ | refine c_ret ?_ | refine p_then_ret ?_ | refine p_block_ret ?_ | refine p_end ?_ | refine c_if_t rfl (by omega) ?_ | refine c_if_f rfl (by omega) ?_)
    exact k_ret [] rfl .refl (by (repeat (first | apply ResS.nil | (apply rs_tmp; (· rfl)) | (apply rs_cell1; (· rfl); (· ((repeat (first | with_reducible apply List.mem_cons_self | with_reducible apply List.mem_cons_of_mem)); try with_reducible assumption)); (· rfl)) | (apply rs_cellA; (· rfl); (· ((repeat (first | with_reducible apply List.mem_cons_self | with_reducible apply List.mem_cons_of_mem)); try with_reducible assumption)); (· (repeat (first | with_reducible apply LSub.done | with_reducible apply LSub.take | with_reducible apply LSub.drop))))))) ⟨rfl, rfl⟩
end Go.Proofs.Ytkefdpgmelndaaa
