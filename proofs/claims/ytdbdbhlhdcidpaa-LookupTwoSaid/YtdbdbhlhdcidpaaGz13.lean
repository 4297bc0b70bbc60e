/- ref12: Add. lookup as plain data. lookup: bad, steps and its iterator. Laws that the statement's proof leans on. -/
import Derived.Test.YtdbdbhlhdcidpaaGz4
import Derived.Test.YtdbdbhlhdcidpaaGz12
import Derived.Test.YtdbdbhlhdcidpaaGz8
/- ref12: Add. -/
-- GU
set_option linter.unusedVariables false
set_option linter.unusedSimpArgs false
namespace Go.Proofs.Ytdbdbhlhdcidpaa.Ar
open Go.RowKit
set_option maxRecDepth 20000

/-- the list that is built: up to place i -/
def InvI (os : OL) (o : ObT) (i : Nat) (nb : Bool) (L : OL) : Prop :=
  (nb = false ∧ L = os.take i ∧ ∀ x ∈ os.take i, x.id ≤ o.id) ∨
  (nb = true ∧ ∃ j, j ≤ i ∧ L = os.take j ++ o :: (os.drop j).take (i - j) ∧ (∀ x ∈ os.take j, x.id ≤ o.id) ∧ ∀ x ∈ os.drop j, ¬ x.id ≤ o.id)
theorem inv_0 {os : OL} {o : ObT} : InvI os o 0 false [] := .inl ⟨rfl, rfl, by simp⟩
theorem take_snoc {os : OL} {i : Nat} {y : ObT} (hy : os[i]? = some y) : os.take (i + 1) = os.take i ++ [y] := by rw [List.take_add_one, hy]; rfl
theorem inv_B {os : OL} {o y : ObT} {i : Nat} {L : OL} (h : InvI os o i false L) (hy : os[i]? = some y) (hl : ¬ y.id > o.id) : InvI os o (i + 1) false (L ++ [y]) := by
  rcases h with ⟨_, rfl, h⟩ | ⟨h, _⟩
  · refine .inl ⟨rfl, (take_snoc hy).symm, fun x hx => ?_⟩
    rw [take_snoc hy] at hx
    rcases List.mem_append.1 hx with hx | hx
    · exact h x hx
    · rw [List.mem_singleton.1 hx]; omega
  · cases h
theorem inv_A {os : OL} {o y : ObT} {i : Nat} {L : OL} (ha : os.Pairwise fun x y => x.id < y.id) (h : InvI os o i false L) (hy : os[i]? = some y) (hl : y.id > o.id) : InvI os o (i + 1) true ((L ++ [o]) ++ [y]) := by
  rcases h with ⟨_, rfl, h⟩ | ⟨h, _⟩
  · refine .inr ⟨rfl, i, by omega, ?_, h, fun x hx => ?_⟩
    · have hi := (List.getElem?_eq_some_iff.1 hy).1
      have he := (List.getElem?_eq_some_iff.1 hy).2
      rw [Nat.add_sub_cancel_left, List.drop_eq_getElem_cons hi, he]; simp
    · obtain ⟨j, hj⟩ := List.getElem?_of_mem hx
      rw [List.getElem?_drop] at hj
      rcases Nat.eq_zero_or_pos j with rfl | hj0
      · rw [Nat.add_zero, hy] at hj; cases hj; omega
      · have := asc_get ha hy hj (by omega); omega
  · cases h
theorem inv_C {os : OL} {o y : ObT} {i : Nat} {L : OL} (h : InvI os o i true L) (hy : os[i]? = some y) : InvI os o (i + 1) true (L ++ [y]) := by
  rcases h with ⟨h, _⟩ | ⟨_, j, hj, rfl, h1, h2⟩
  · cases h
  · refine .inr ⟨rfl, j, by omega, ?_, h1, h2⟩
    rw [show i + 1 - j = (i - j) + 1 by omega, take_snoc (os := os.drop j) (y := y) (by rw [List.getElem?_drop, show j + (i - j) = i by omega]; exact hy)]
    simp
theorem inv_end {os : OL} {o : ObT} {nb : Bool} {L : OL} (h : InvI os o os.length nb L) : insD os o = if nb then L else L ++ [o] := by
  rcases h with ⟨rfl, rfl, h⟩ | ⟨rfl, j, hj, rfl, h1, h2⟩
  · rw [ins_at (Nat.le_refl _) h (by rw [List.drop_length]; intro x hx; cases hx)]; simp
  · rw [ins_at hj h1 h2]
    simp only [if_true]
    rw [List.take_of_length_le (l := os.drop j) (by rw [List.length_drop]; exact Nat.le_refl _)]
theorem inv_len {os : OL} {o : ObT} {i : Nat} {nb : Bool} {L : OL} (h : InvI os o i nb L) : L.length ≤ os.length + 1 := by
  rcases h with ⟨_, rfl, _⟩ | ⟨_, j, hj, rfl, _⟩
  · rw [List.length_take]; omega
  · rw [List.length_append, List.length_cons, List.length_take, List.length_take, List.length_drop]; omega
abbrev obE (i kd sz fi n : Int) : List Value := [.int .i64 i, .int .i64 kd, .int .i64 sz, .int .i64 fi, .int .i64 n, .int .i64 0, .int .i64 0, .int .i64 0, .int .i64 0]
abbrev obX (B : Nat) (i kd sz fi n : Int) : Chunk := (B, .cells (List.toArray (obE i kd sz fi n)) 83 (0, 0))
theorem keep_dropM (A B F : List Chunk) : Keep (A ++ (B ++ F)) (A ++ F) := ⟨B, List.perm_append_comm_assoc A B F⟩
set_option pp.deepTerms false
set_option pp.deepTerms.threshold 4
set_option maxHeartbeats 400000
theorem radd_any (b : Nat) (S : ArT) (lq : List Chunk) (hA : IsR b S lq) (kd sz fi : Int) (F : List Chunk) :
    Fn Try.prog 22 [.pointer (some ⟨b, 0, none⟩), .int .i64 kd, .int .i64 sz, .int .i64 fi] (lq ++ F) fun v l' => v = .tuple #[.int .i64 (addD S kd sz fi).1.1, .int .i64 (addD S kd sz fi).1.2] ∧ ∃ lq', IsR b (addD S kd sz fi).2 lq' ∧ l' = lq' ++ F := by
  have hA' := hA
  have hlen := hA.ok.len
  obtain ⟨hok, v, cs, rfl, ho⟩ := hA
  have hn1 := hok.n1
  have hn2 := hok.n2
  obtain ⟨gb, hrow, hcs⟩ := rowV_of ho
  obtain ⟨p, cap, rfl, hp⟩ : ∃ p cap, v = .slice p S.os.length cap ∧ (0 < S.os.length → p = some ⟨gb, 0, none⟩) := by
    rcases hrow with ⟨h, h0⟩ | ⟨cap, h⟩
    · exact ⟨none, 0, by rw [h, h0], fun h => by omega⟩
    · exact ⟨_, cap, h, fun _ => rfl⟩
  have c0 := rfL_n S.n (.slice p S.os.length cap) S.g
  have cl := rfL_l S.n (.slice p S.os.length cap) S.g
  obtain ⟨N, hN⟩ : ∃ N, framesD kd sz = N := ⟨_, rfl⟩
  have hNr := frames_rng kd sz
  rw [hN] at hNr
  refine fn_of_body Try.func22 rfl rfl fun E => ?_
  simp only [argF, Try.ntmps22]
  simp only [List.cons_append, List.nil_append]
  repeat (first | (show OpsS _ _ _ _ _ _ (_ :: _) _ _ _; first | refine ozq ?_ | refine ozs ?_ | refine ozs0 ?_ | refine ozt ?_ | refine ozf ?_ | refine t_hu rfl rfl rfl rfl rfl rfl ?_ | refine ozn ?_) | refine c_seq ?_ | refine p_then ?_ | refine c_region ?_ | refine s_nil ?_ | refine c_cond_t rfl ?_ | refine c_cond_f rfl ?_ | refine c_block ?_ | refine c_skip ?_ | refine c_exit ?_ | refine p_block ?_ | refine p_then_exit ?_ | refine p_block_here ?_ | refine p_block_on rfl ?_ | refine c_ret ?_ | refine p_then_ret ?_ | refine p_block_ret ?_ | refine p_end ?_ | refine c_if_t rfl (by omega) ?_ | refine c_if_f rfl (by omega) ?_)
  refine t_q (q_call rfl rfl fun l2 _ => rfr_any kd sz l2) rfl rfl rfl ?_
  rw [hN]
  by_cases h1 : N = 0
  · repeat (first | (show OpsS _ _ _ _ _ _ (_ :: _) _ _ _; first | refine ozq ?_ | refine ozs ?_ | refine ozs0 ?_ | refine ozt ?_ | refine ozf ?_ | refine t_hu rfl rfl rfl rfl rfl rfl ?_ | refine ozn ?_) | refine c_seq ?_ | refine p_then ?_ | refine c_region ?_ | refine s_nil ?_ | refine c_cond_t rfl ?_ | refine c_cond_f rfl ?_ | refine c_block ?_ | refine c_skip ?_ | refine c_exit ?_ | refine p_block ?_ | refine p_then_exit ?_ | refine p_block_here ?_ | refine p_block_on rfl ?_ | refine c_ret ?_ | refine p_then_ret ?_ | refine p_block_ret ?_ | refine p_end ?_ | refine c_if_t rfl (by omega) ?_ | refine c_if_f rfl (by omega) ?_)
    have e := add_e (S := S) (fi := fi) (show addE S kd sz fi = 2 by unfold addE; rw [hN, if_pos h1]) (by decide)
    exact k_ret [] rfl .refl (by (repeat (first | apply ResS.nil | (apply rs_tmp; (· rfl)) | (apply rs_cell1; (· rfl); (· ((repeat (first | with_reducible apply List.mem_cons_self | with_reducible apply List.mem_cons_of_mem)); try with_reducible assumption)); (· rfl)) | (apply rs_cellA; (· rfl); (· ((repeat (first | with_reducible apply List.mem_cons_self | with_reducible apply List.mem_cons_of_mem)); try with_reducible assumption)); (· (repeat (first | with_reducible apply LSub.done | with_reducible apply LSub.take | with_reducible apply LSub.drop))))))) ⟨by rw [e]; rfl, _, by rw [e]; exact hA', rfl⟩
  by_cases h2 : fi < 0
  · repeat (first | (show OpsS _ _ _ _ _ _ (_ :: _) _ _ _; first | refine ozq ?_ | refine ozs ?_ | refine ozs0 ?_ | refine ozt ?_ | refine ozf ?_ | refine t_hu rfl rfl rfl rfl rfl rfl ?_ | refine ozn ?_) | refine c_seq ?_ | refine p_then ?_ | refine c_region ?_ | refine s_nil ?_ | refine c_cond_t rfl ?_ | refine c_cond_f rfl ?_ | refine c_block ?_ | refine c_skip ?_ | refine c_exit ?_ | refine p_block ?_ | refine p_then_exit ?_ | refine p_block_here ?_ | refine p_block_on rfl ?_ | refine c_ret ?_ | refine p_then_ret ?_ | refine p_block_ret ?_ | refine p_end ?_ | refine c_if_t rfl (by omega) ?_ | refine c_if_f rfl (by omega) ?_)
    have e := add_e (show addE S kd sz fi = 3 by unfold addE; rw [hN, if_neg h1, if_pos (.inl h2)]) (by decide)
    exact k_ret [] rfl .refl (by (repeat (first | apply ResS.nil | (apply rs_tmp; (· rfl)) | (apply rs_cell1; (· rfl); (· ((repeat (first | with_reducible apply List.mem_cons_self | with_reducible apply List.mem_cons_of_mem)); try with_reducible assumption)); (· rfl)) | (apply rs_cellA; (· rfl); (· ((repeat (first | with_reducible apply List.mem_cons_self | with_reducible apply List.mem_cons_of_mem)); try with_reducible assumption)); (· (repeat (first | with_reducible apply LSub.done | with_reducible apply LSub.take | with_reducible apply LSub.drop))))))) ⟨by rw [e]; rfl, _, by rw [e]; exact hA', rfl⟩
  by_cases h3 : fi > S.n
  · repeat (first | (show OpsS _ _ _ _ _ _ (_ :: _) _ _ _; first | refine ozq ?_ | refine ozs ?_ | refine ozs0 ?_ | refine ozt ?_ | refine ozf ?_ | refine t_hu rfl rfl rfl rfl rfl rfl ?_ | refine ozn ?_) | refine c_seq ?_ | refine p_then ?_ | refine c_region ?_ | refine s_nil ?_ | refine c_cond_t rfl ?_ | refine c_cond_f rfl ?_ | refine c_block ?_ | refine c_skip ?_ | refine c_exit ?_ | refine p_block ?_ | refine p_then_exit ?_ | refine p_block_here ?_ | refine p_block_on rfl ?_ | refine c_ret ?_ | refine p_then_ret ?_ | refine p_block_ret ?_ | refine p_end ?_ | refine c_if_t rfl (by omega) ?_ | refine c_if_f rfl (by omega) ?_)
    have e := add_e (show addE S kd sz fi = 3 by unfold addE; rw [hN, if_neg h1, if_pos (.inr (by omega))]) (by decide)
    exact k_ret [] rfl .refl (by (repeat (first | apply ResS.nil | (apply rs_tmp; (· rfl)) | (apply rs_cell1; (· rfl); (· ((repeat (first | with_reducible apply List.mem_cons_self | with_reducible apply List.mem_cons_of_mem)); try with_reducible assumption)); (· rfl)) | (apply rs_cellA; (· rfl); (· ((repeat (first | with_reducible apply List.mem_cons_self | with_reducible apply List.mem_cons_of_mem)); try with_reducible assumption)); (· (repeat (first | with_reducible apply LSub.done | with_reducible apply LSub.take | with_reducible apply LSub.drop))))))) ⟨by rw [e]; rfl, _, by rw [e]; exact hA', rfl⟩
  by_cases h4 : N > S.n - fi
  · repeat (first | (show OpsS _ _ _ _ _ _ (_ :: _) _ _ _; first | refine ozq ?_ | refine ozs ?_ | refine ozs0 ?_ | refine ozt ?_ | refine ozf ?_ | refine t_hu rfl rfl rfl rfl rfl rfl ?_ | refine ozn ?_) | refine c_seq ?_ | refine p_then ?_ | refine c_region ?_ | refine s_nil ?_ | refine c_cond_t rfl ?_ | refine c_cond_f rfl ?_ | refine c_block ?_ | refine c_skip ?_ | refine c_exit ?_ | refine p_block ?_ | refine p_then_exit ?_ | refine p_block_here ?_ | refine p_block_on rfl ?_ | refine c_ret ?_ | refine p_then_ret ?_ | refine p_block_ret ?_ | refine p_end ?_ | refine c_if_t rfl (by omega) ?_ | refine c_if_f rfl (by omega) ?_)
    have e := add_e (show addE S kd sz fi = 3 by unfold addE; rw [hN, if_neg h1, if_pos (.inr (by omega))]) (by decide)
    exact k_ret [] rfl .refl (by (repeat (first | apply ResS.nil | (apply rs_tmp; (· rfl)) | (apply rs_cell1; (· rfl); (· ((repeat (first | with_reducible apply List.mem_cons_self | with_reducible apply List.mem_cons_of_mem)); try with_reducible assumption)); (· rfl)) | (apply rs_cellA; (· rfl); (· ((repeat (first | with_reducible apply List.mem_cons_self | with_reducible apply List.mem_cons_of_mem)); try with_reducible assumption)); (· (repeat (first | with_reducible apply LSub.done | with_reducible apply LSub.take | with_reducible apply LSub.drop))))))) ⟨by rw [e]; rfl, _, by rw [e]; exact hA', rfl⟩
  repeat (first | (show OpsS _ _ _ _ _ _ (_ :: _) _ _ _; first | refine ozq ?_ | refine ozs ?_ | refine ozs0 ?_ | refine ozt ?_ | refine ozf ?_ | refine t_hu rfl rfl rfl rfl rfl rfl ?_ | refine ozn ?_) | refine c_seq ?_ | refine p_then ?_ | refine c_region ?_ | refine s_nil ?_ | refine c_cond_t rfl ?_ | refine c_cond_f rfl ?_ | refine c_block ?_ | refine c_skip ?_ | refine c_exit ?_ | refine p_block ?_ | refine p_then_exit ?_ | refine p_block_here ?_ | refine p_block_on rfl ?_ | refine c_ret ?_ | refine p_then_ret ?_ | refine p_block_ret ?_ | refine p_end ?_ | refine c_if_t rfl (by omega) ?_ | refine c_if_f rfl (by omega) ?_)
  refine t_e e_alloc rfl rfl rfl ?_; rintro _ _ ⟨b11, _, rfl, rfl⟩
  repeat (first | (show OpsS _ _ _ _ _ _ (_ :: _) _ _ _; first | refine ozq ?_ | refine ozs ?_ | refine ozs0 ?_ | refine ozt ?_ | refine ozf ?_ | refine t_hu rfl rfl rfl rfl rfl rfl ?_ | refine ozn ?_) | refine c_seq ?_ | refine p_then ?_ | refine c_region ?_ | refine s_nil ?_ | refine c_cond_t rfl ?_ | refine c_cond_f rfl ?_ | refine c_block ?_ | refine c_skip ?_ | refine c_exit ?_ | refine p_block ?_ | refine p_then_exit ?_ | refine p_block_here ?_ | refine p_block_on rfl ?_ | refine c_ret ?_ | refine p_then_ret ?_ | refine p_block_ret ?_ | refine p_end ?_ | refine c_if_t rfl (by omega) ?_ | refine c_if_f rfl (by omega) ?_)
  have eap : ∀ y, apO ⟨0, kd, sz, fi, N, 0, 0, 0, 0⟩ y = apartD kd fi N y := fun y => rfl
  refine k_loop (α := Nat) (fun k => [(0, .pointer (some ⟨b, 0, none⟩)), (3, .int .i64 fi), (11, .pointer (some ⟨b11, 0, none⟩)), (12, .int .i64 k)]) (fun _ => obK b11 ⟨0, kd, sz, fi, N, 0, 0, 0, 0⟩ :: rfC b S.n (.slice p S.os.length cap) S.g :: (cs ++ F)) (fun k => k ≤ S.os.length ∧ ∀ x ∈ S.os.take k, apartD kd fi N x = true) (fun k => S.os.length - k) 0 ⟨Nat.zero_le _, by simp⟩ ⟨rfl, rfl, rfl, rfl, trivial⟩ .refl ?_
  rintro k ⟨hk, hd⟩
  by_cases hkl : k < S.os.length
  · obtain ⟨o, ho1⟩ : ∃ o, S.os[k]? = some o := ⟨_, List.getElem?_eq_getElem hkl⟩
    obtain ⟨sp, hcse⟩ := hcs _ _ ho1
    have hpp := hp (by omega)
    subst hpp
    obtain ⟨x1, x2⟩ := ocs_ext ho1 sp
    have hm2 : (gb, Obj.cells (List.toArray (ocs S.os ++ sp)) 83 (0, 0)) ∈ obK b11 ⟨0, kd, sz, fi, N, 0, 0, 0, 0⟩ :: rfC b S.n (.slice (some ⟨gb, 0, none⟩) S.os.length cap) S.g :: (cs ++ F) := .tail _ (.tail _ (List.mem_append_left _ (by rw [hcse]; exact .head _)))
    repeat (first | (show OpsS _ _ _ _ _ _ (_ :: _) _ _ _; first | refine ozq ?_ | refine ozs ?_ | refine ozs0 ?_ | refine ozt ?_ | refine ozf ?_ | refine t_hu rfl rfl rfl rfl rfl rfl ?_ | refine ozn ?_) | refine c_seq ?_ | refine p_then ?_ | refine c_region ?_ | refine s_nil ?_ | refine c_cond_t rfl ?_ | refine c_cond_f rfl ?_ | refine c_block ?_ | refine c_skip ?_ | refine c_exit ?_ | refine p_block ?_ | refine p_then_exit ?_ | refine p_block_here ?_ | refine p_block_on rfl ?_ | refine c_ret ?_ | refine p_then_ret ?_ | refine p_block_ret ?_ | refine p_end ?_ | refine c_if_t rfl (by omega) ?_ | refine c_if_f rfl (by omega) ?_)
    refine c_draw [(0, true), (1, true), (2, true), (3, true), (4, true), (5, true), (6, true), (7, true), (8, true), (9, true)] [[], [], [1], [1, 2], [1, 2, 3], [], [1, 2, 3, 4, 5], [1, 2, 3, 4, 5, 6], [0, 1, 2, 3, 4, 5, 6, 7], [0, 1, 2, 3, 4, 5, 6, 7, 8]] _ (by kernel_rfl) (by kernel_rfl) (by (repeat (first | apply Attach.nil | (apply Attach.cons; · rfl)))) (fun _ h => h) ?_
    repeat (first | refine pl_nil ?_ | (show PlanS _ _ _ _ _ _ _ _ _ _ ((_, true, _) :: _) _ _ _; first | refine pzq ?_ | refine pzt ?_ | refine pzf ?_) | (show PlanS _ _ _ _ _ _ _ _ none [] ((_, _, _) :: _) _ _ _; first | refine pzs ?_ | refine pzs0 ?_ | refine pl_hu (List.Sublist.subset (by (repeat (first | with_reducible apply List.Sublist.refl | with_reducible apply List.nil_sublist | with_reducible apply List.Sublist.cons_cons | with_reducible apply List.Sublist.cons)))) rfl rfl rfl rfl rfl rfl ?_) | (show PlanS _ _ _ _ _ _ _ _ _ _ ((_, _, _) :: _) _ _ _; first | refine pzt ?_ | refine pzf ?_) | (show PlanS _ _ _ _ _ _ _ _ none [] ((_, false, _) :: _) _ _ _; first | refine pzn ?_ | refine pze ?_))
    apply pl_q
    · exact q_loadA rfl hm2 x1 x2
    · rfl
    · rfl
    · rfl
    repeat (first | refine pl_nil ?_ | (show PlanS _ _ _ _ _ _ _ _ _ _ ((_, true, _) :: _) _ _ _; first | refine pzq ?_ | refine pzt ?_ | refine pzf ?_) | (show PlanS _ _ _ _ _ _ _ _ none [] ((_, _, _) :: _) _ _ _; first | refine pzs ?_ | refine pzs0 ?_ | refine pl_hu (List.Sublist.subset (by (repeat (first | with_reducible apply List.Sublist.refl | with_reducible apply List.nil_sublist | with_reducible apply List.Sublist.cons_cons | with_reducible apply List.Sublist.cons)))) rfl rfl rfl rfl rfl rfl ?_) | (show PlanS _ _ _ _ _ _ _ _ _ _ ((_, _, _) :: _) _ _ _; first | refine pzt ?_ | refine pzf ?_) | (show PlanS _ _ _ _ _ _ _ _ none [] ((_, false, _) :: _) _ _ _; first | refine pzn ?_ | refine pze ?_))
    apply pl_q
    · exact q_call rfl rfl fun l2 _ => rmay_any ⟨0, kd, sz, fi, N, 0, 0, 0, 0⟩ o l2
    · rfl
    · rfl
    · rfl
    rw [eap]
    cases hap : apartD kd fi N o with
    | false =>
      repeat (first | refine pl_nil ?_ | (show PlanS _ _ _ _ _ _ _ _ _ _ ((_, true, _) :: _) _ _ _; first | refine pzq ?_ | refine pzt ?_ | refine pzf ?_) | (show PlanS _ _ _ _ _ _ _ _ none [] ((_, _, _) :: _) _ _ _; first | refine pzs ?_ | refine pzs0 ?_ | refine pl_hu (List.Sublist.subset (by (repeat (first | with_reducible apply List.Sublist.refl | with_reducible apply List.nil_sublist | with_reducible apply List.Sublist.cons_cons | with_reducible apply List.Sublist.cons)))) rfl rfl rfl rfl rfl rfl ?_) | (show PlanS _ _ _ _ _ _ _ _ _ _ ((_, _, _) :: _) _ _ _; first | refine pzt ?_ | refine pzf ?_) | (show PlanS _ _ _ _ _ _ _ _ none [] ((_, false, _) :: _) _ _ _; first | refine pzn ?_ | refine pze ?_))
      repeat (first | (show OpsS _ _ _ _ _ _ (_ :: _) _ _ _; first | refine ozq ?_ | refine ozs ?_ | refine ozs0 ?_ | refine ozt ?_ | refine ozf ?_ | refine t_hu rfl rfl rfl rfl rfl rfl ?_ | refine ozn ?_) | refine c_seq ?_ | refine p_then ?_ | refine c_region ?_ | refine s_nil ?_ | refine c_cond_t rfl ?_ | refine c_cond_f rfl ?_ | refine c_block ?_ | refine c_skip ?_ | refine c_exit ?_ | refine p_block ?_ | refine p_then_exit ?_ | refine p_block_here ?_ | refine p_block_on rfl ?_ | refine c_ret ?_ | refine p_then_ret ?_ | refine p_block_ret ?_ | refine p_end ?_ | refine c_if_t rfl (by omega) ?_ | refine c_if_f rfl (by omega) ?_)
      have e := add_e (show addE S kd sz fi = 16 by unfold addE; rw [hN, if_neg h1, if_neg (by omega), if_pos (all_not (List.mem_of_getElem? ho1) hap)]) (by decide)
      exact k_ret [] rfl (.drop .refl) (by (repeat (first | apply ResS.nil | (apply rs_tmp; (· rfl)) | (apply rs_cell1; (· rfl); (· ((repeat (first | with_reducible apply List.mem_cons_self | with_reducible apply List.mem_cons_of_mem)); try with_reducible assumption)); (· rfl)) | (apply rs_cellA; (· rfl); (· ((repeat (first | with_reducible apply List.mem_cons_self | with_reducible apply List.mem_cons_of_mem)); try with_reducible assumption)); (· (repeat (first | with_reducible apply LSub.done | with_reducible apply LSub.take | with_reducible apply LSub.drop))))))) ⟨by rw [e]; rfl, _, by rw [e]; exact hA', rfl⟩
    | true =>
      repeat (first | refine pl_nil ?_ | (show PlanS _ _ _ _ _ _ _ _ _ _ ((_, true, _) :: _) _ _ _; first | refine pzq ?_ | refine pzt ?_ | refine pzf ?_) | (show PlanS _ _ _ _ _ _ _ _ none [] ((_, _, _) :: _) _ _ _; first | refine pzs ?_ | refine pzs0 ?_ | refine pl_hu (List.Sublist.subset (by (repeat (first | with_reducible apply List.Sublist.refl | with_reducible apply List.nil_sublist | with_reducible apply List.Sublist.cons_cons | with_reducible apply List.Sublist.cons)))) rfl rfl rfl rfl rfl rfl ?_) | (show PlanS _ _ _ _ _ _ _ _ _ _ ((_, _, _) :: _) _ _ _; first | refine pzt ?_ | refine pzf ?_) | (show PlanS _ _ _ _ _ _ _ _ none [] ((_, false, _) :: _) _ _ _; first | refine pzn ?_ | refine pze ?_))
      repeat (first | (show OpsS _ _ _ _ _ _ (_ :: _) _ _ _; first | refine ozq ?_ | refine ozs ?_ | refine ozs0 ?_ | refine ozt ?_ | refine ozf ?_ | refine t_hu rfl rfl rfl rfl rfl rfl ?_ | refine ozn ?_) | refine c_seq ?_ | refine p_then ?_ | refine c_region ?_ | refine s_nil ?_ | refine c_cond_t rfl ?_ | refine c_cond_f rfl ?_ | refine c_block ?_ | refine c_skip ?_ | refine c_exit ?_ | refine p_block ?_ | refine p_then_exit ?_ | refine p_block_here ?_ | refine p_block_on rfl ?_ | refine c_ret ?_ | refine p_then_ret ?_ | refine p_block_ret ?_ | refine p_end ?_ | refine c_if_t rfl (by omega) ?_ | refine c_if_f rfl (by omega) ?_)
      refine k_next (k + 1) ⟨by omega, fun x hx => ?_⟩ (by omega) ⟨rfl, rfl, rfl, rfl, trivial⟩ .refl
      rw [take_snoc ho1] at hx
      rcases List.mem_append.1 hx with hx | hx
      · exact hd x hx
      · rw [List.mem_singleton.1 hx]; exact hap
  · obtain rfl : k = S.os.length := by omega
    rw [List.take_length] at hd
    have hall : (S.os.all fun o => apartD kd fi N o) = true := by rw [List.all_eq_true]; exact hd
    repeat (first | (show OpsS _ _ _ _ _ _ (_ :: _) _ _ _; first | refine ozq ?_ | refine ozs ?_ | refine ozs0 ?_ | refine ozt ?_ | refine ozf ?_ | refine t_hu rfl rfl rfl rfl rfl rfl ?_ | refine ozn ?_) | refine c_seq ?_ | refine p_then ?_ | refine c_region ?_ | refine s_nil ?_ | refine c_cond_t rfl ?_ | refine c_cond_f rfl ?_ | refine c_block ?_ | refine c_skip ?_ | refine c_exit ?_ | refine p_block ?_ | refine p_then_exit ?_ | refine p_block_here ?_ | refine p_block_on rfl ?_ | refine c_ret ?_ | refine p_then_ret ?_ | refine p_block_ret ?_ | refine p_end ?_ | refine c_if_t rfl (by omega) ?_ | refine c_if_f rfl (by omega) ?_)
    refine t_q (q_call rfl rfl fun l2 hl => rnext_any b S _ hA' fi l2 (fun c hc => hl _ (.tail _ (mem_lq hc)))) rfl rfl rfl ?_
    by_cases hz : nextD S fi = 0
    · rw [hz]
      repeat (first | (show OpsS _ _ _ _ _ _ (_ :: _) _ _ _; first | refine ozq ?_ | refine ozs ?_ | refine ozs0 ?_ | refine ozt ?_ | refine ozf ?_ | refine t_hu rfl rfl rfl rfl rfl rfl ?_ | refine ozn ?_) | refine c_seq ?_ | refine p_then ?_ | refine c_region ?_ | refine s_nil ?_ | refine c_cond_t rfl ?_ | refine c_cond_f rfl ?_ | refine c_block ?_ | refine c_skip ?_ | refine c_exit ?_ | refine p_block ?_ | refine p_then_exit ?_ | refine p_block_here ?_ | refine p_block_on rfl ?_ | refine c_ret ?_ | refine p_then_ret ?_ | refine p_block_ret ?_ | refine p_end ?_ | refine c_if_t rfl (by omega) ?_ | refine c_if_f rfl (by omega) ?_)
      have e := add_e (show addE S kd sz fi = 11 by unfold addE; rw [hN, if_neg h1, if_neg (by omega), if_neg (by rw [hall]; decide), if_pos hz]) (by decide)
      exact k_ret [] rfl (.drop .refl) (by (repeat (first | apply ResS.nil | (apply rs_tmp; (· rfl)) | (apply rs_cell1; (· rfl); (· ((repeat (first | with_reducible apply List.mem_cons_self | with_reducible apply List.mem_cons_of_mem)); try with_reducible assumption)); (· rfl)) | (apply rs_cellA; (· rfl); (· ((repeat (first | with_reducible apply List.mem_cons_self | with_reducible apply List.mem_cons_of_mem)); try with_reducible assumption)); (· (repeat (first | with_reducible apply LSub.done | with_reducible apply LSub.take | with_reducible apply LSub.drop))))))) ⟨by rw [e]; rfl, _, by rw [e]; exact hA', rfl⟩
    have hE : addE S kd sz fi = 0 := by unfold addE; rw [hN, if_neg h1, if_neg (by omega), if_neg (by rw [hall]; decide), if_neg hz]
    obtain ⟨f0, f1, f2, f3, f4⟩ := next_pos hok hz
    obtain ⟨I, hI⟩ : ∃ I, nextD S fi = I := ⟨_, rfl⟩
    rw [hI] at f2 f3 f4 hz ⊢
    obtain ⟨j, rfl⟩ : ∃ j : Nat, fi = j := ⟨fi.toNat, by omega⟩
    have hj : j < 64 := by omega
    rw [Int.toNat_natCast] at f2
    have cg := rfL_g S.n (.slice p S.os.length cap) S.g hj
    have hg := hok.g1 j
    have hOk := add_ok hok kd sz j
    rw [add_0 hE] at hOk ⊢
    rw [hI, Int.toNat_natCast] at hOk ⊢
    clear hA'
    repeat (first | (show OpsS _ _ _ _ _ _ (_ :: _) _ _ _; first | refine ozq ?_ | refine ozs ?_ | refine ozs0 ?_ | refine ozt ?_ | refine ozf ?_ | refine t_hu rfl rfl rfl rfl rfl rfl ?_ | refine ozn ?_) | refine c_seq ?_ | refine p_then ?_ | refine c_region ?_ | refine s_nil ?_ | refine c_cond_t rfl ?_ | refine c_cond_f rfl ?_ | refine c_block ?_ | refine c_skip ?_ | refine c_exit ?_ | refine p_block ?_ | refine p_then_exit ?_ | refine p_block_here ?_ | refine p_block_on rfl ?_ | refine c_ret ?_ | refine p_then_ret ?_ | refine p_block_ret ?_ | refine p_end ?_ | refine c_if_t rfl (by omega) ?_ | refine c_if_f rfl (by omega) ?_)
    refine c_draw [(0, true), (1, true), (2, true), (3, true), (4, true), (5, true), (6, true), (7, true), (8, true), (9, true), (10, false)] [[], [], [0], [0, 2], [0, 1, 2, 3], [0, 1, 2, 3, 4], [0, 1, 2, 3, 4, 5], [0], [0, 7], [0, 1, 2, 3, 4, 5, 6, 7, 8], [0, 1, 2, 3, 4, 5, 6, 7, 8, 9]] ([]) (by kernel_rfl) (by kernel_rfl) (by (repeat (first | apply Attach.nil | (apply Attach.cons; · rfl)))) (List.Sublist.subset (by (repeat (first | with_reducible apply List.Sublist.refl | with_reducible apply List.nil_sublist | with_reducible apply List.Sublist.cons_cons | with_reducible apply List.Sublist.cons)))) ?_
    repeat (first | refine pl_nil ?_ | (show PlanS _ _ _ _ _ _ _ _ _ _ ((_, true, _) :: _) _ _ _; first | refine pzq ?_ | refine pzt ?_ | refine pzf ?_) | (show PlanS _ _ _ _ _ _ _ _ none [] ((_, _, _) :: _) _ _ _; first | refine pzs ?_ | refine pzs0 ?_ | refine pl_hu (List.Sublist.subset (by (repeat (first | with_reducible apply List.Sublist.refl | with_reducible apply List.nil_sublist | with_reducible apply List.Sublist.cons_cons | with_reducible apply List.Sublist.cons)))) rfl rfl rfl rfl rfl rfl ?_) | (show PlanS _ _ _ _ _ _ _ _ _ _ ((_, _, _) :: _) _ _ _; first | refine pzt ?_ | refine pzf ?_) | (show PlanS _ _ _ _ _ _ _ _ none [] ((_, false, _) :: _) _ _ _; first | refine pzn ?_ | refine pze ?_))
    apply pl_s (S := [rfC b S.n (.slice p S.os.length cap) S.g])
    · exact q_load rfl (.head _) cg
    · exact sing_mem (.tail _ (.head _))
    · rfl
    · rfl
    · rfl
    repeat (first | refine pl_nil ?_ | (show PlanS _ _ _ _ _ _ _ _ _ _ ((_, true, _) :: _) _ _ _; first | refine pzq ?_ | refine pzt ?_ | refine pzf ?_) | (show PlanS _ _ _ _ _ _ _ _ none [] ((_, _, _) :: _) _ _ _; first | refine pzs ?_ | refine pzs0 ?_ | refine pl_hu (List.Sublist.subset (by (repeat (first | with_reducible apply List.Sublist.refl | with_reducible apply List.nil_sublist | with_reducible apply List.Sublist.cons_cons | with_reducible apply List.Sublist.cons)))) rfl rfl rfl rfl rfl rfl ?_) | (show PlanS _ _ _ _ _ _ _ _ _ _ ((_, _, _) :: _) _ _ _; first | refine pzt ?_ | refine pzf ?_) | (show PlanS _ _ _ _ _ _ _ _ none [] ((_, false, _) :: _) _ _ _; first | refine pzn ?_ | refine pze ?_))
    apply pl_nS
    · exact e_store (b := b) (off := 2 + j * 1) (cs := List.toArray (rfL S.n (.slice p S.os.length cap) S.g)) rfl rfl rfl (by rw [rfL_setG _ _ _ hj]; (repeat (first | apply Upd.here | apply Upd.there))) (by rw [List.size_toArray, rfL_len]; omega)
    (· rfl); (· rfl); (· intro _ _ _ c hc; cases hc); (· exact fun _ _ _ x hx ha => anc_all (by kernel_rfl) hx ha)
    rintro _ _ ⟨rfl, rfl⟩
    obtain ⟨g', hg'⟩ : ∃ g', upd S.g j (S.g j + 1) = g' := ⟨_, rfl⟩
    rw [hg'] at hOk ⊢
    have hnewO : newO S kd sz j = ⟨I, kd, sz, j, N, 0, 0, 0, 0⟩ := by unfold newO; rw [hI, hN]
    rw [hnewO] at hOk ⊢
    clear c0 cl cg
    have cl := rfL_l S.n (.slice p S.os.length cap) g'
    repeat (first | refine pl_nil ?_ | (show PlanS _ _ _ _ _ _ _ _ _ _ ((_, true, _) :: _) _ _ _; first | refine pzq ?_ | refine pzt ?_ | refine pzf ?_) | (show PlanS _ _ _ _ _ _ _ _ none [] ((_, _, _) :: _) _ _ _; first | refine pzs ?_ | refine pzs0 ?_ | refine pl_hu (List.Sublist.subset (by (repeat (first | with_reducible apply List.Sublist.refl | with_reducible apply List.nil_sublist | with_reducible apply List.Sublist.cons_cons | with_reducible apply List.Sublist.cons)))) rfl rfl rfl rfl rfl rfl ?_) | (show PlanS _ _ _ _ _ _ _ _ _ _ ((_, _, _) :: _) _ _ _; first | refine pzt ?_ | refine pzf ?_) | (show PlanS _ _ _ _ _ _ _ _ none [] ((_, false, _) :: _) _ _ _; first | refine pzn ?_ | refine pze ?_))
    repeat (first | (show OpsS _ _ _ _ _ _ (_ :: _) _ _ _; first | refine ozq ?_ | refine ozs ?_ | refine ozs0 ?_ | refine ozt ?_ | refine ozf ?_ | refine t_hu rfl rfl rfl rfl rfl rfl ?_ | refine ozn ?_) | refine c_seq ?_ | refine p_then ?_ | refine c_region ?_ | refine s_nil ?_ | refine c_cond_t rfl ?_ | refine c_cond_f rfl ?_ | refine c_block ?_ | refine c_skip ?_ | refine c_exit ?_ | refine p_block ?_ | refine p_then_exit ?_ | refine p_block_here ?_ | refine p_block_on rfl ?_ | refine c_ret ?_ | refine p_then_ret ?_ | refine p_block_ret ?_ | refine p_end ?_ | refine c_if_t rfl (by omega) ?_ | refine c_if_f rfl (by omega) ?_)
    refine k_loop (α := Nat × Bool × OL × Value × List Chunk) (fun x => [(0, .pointer (some ⟨b, 0, none⟩)), (11, .pointer (some ⟨b11, 0, none⟩)), (13, x.2.2.2.1), (14, .bool x.2.1), (15, .int .i64 x.1)]) (fun x => obX b11 I kd sz j N :: rfC b S.n (.slice p S.os.length cap) g' :: (x.2.2.2.2 ++ (cs ++ F)))
      (fun x => x.1 ≤ S.os.length ∧ InvI S.os ⟨I, kd, sz, j, N, 0, 0, 0, 0⟩ x.1 x.2.1 x.2.2.1 ∧ OwnSl 83 9 x.2.2.2.1 x.2.2.1.length (ocs x.2.2.1) x.2.2.2.2) (fun x => S.os.length - x.1) (0, false, [], .slice none 0 0, []) ⟨Nat.zero_le _, inv_0, OwnSl.nil _ _⟩ ⟨rfl, rfl, rfl, rfl, rfl, trivial⟩ .refl ?_
    rintro ⟨k, nb, L, v, c1⟩ ⟨hk, hinv, hown⟩
    simp only at hk hinv hown ⊢
    have hv1 : v.oneCell' = true := hown.one
    have hLl := inv_len hinv
    by_cases hkl : k < S.os.length
    · obtain ⟨y, hy⟩ : ∃ y, S.os[k]? = some y := ⟨_, List.getElem?_eq_getElem hkl⟩
      obtain ⟨sp, hcse⟩ := hcs _ _ hy
      have hpp := hp (by omega)
      subst hpp
      obtain ⟨x1, x2⟩ := ocs_ext hy sp
      have hmR : ∀ c1 : List Chunk, (gb, Obj.cells (List.toArray (ocs S.os ++ sp)) 83 (0, 0)) ∈ obX b11 I kd sz j N :: rfC b S.n (.slice (some ⟨gb, 0, none⟩) S.os.length cap) g' :: (c1 ++ (cs ++ F)) := fun c1 => .tail _ (.tail _ (List.mem_append_right _ (List.mem_append_left _ (by rw [hcse]; exact .head _))))
      have hmR1 : ∀ c1 : List Chunk, (gb, Obj.cells (List.toArray (ocs S.os ++ sp)) 83 (0, 0)) ∈ c1 ++ (cs ++ F) := fun c1 => List.mem_append_right _ (List.mem_append_left _ (by rw [hcse]; exact .head _))
      have hm1 := hmR1 c1
      have co : (List.toArray (ocs S.os ++ sp))[k * 9]? = some (.int .i64 y.id) := ocs_at hy sp 0 (by omega)
      cases nb with
      | true =>
        repeat (first | (show OpsS _ _ _ _ _ _ (_ :: _) _ _ _; first | refine ozq ?_ | refine ozs ?_ | refine ozs0 ?_ | refine ozt ?_ | refine ozf ?_ | refine t_hu rfl rfl rfl rfl rfl rfl ?_ | refine ozn ?_) | refine c_seq ?_ | refine p_then ?_ | refine c_region ?_ | refine s_nil ?_ | refine c_cond_t rfl ?_ | refine c_cond_f rfl ?_ | refine c_block ?_ | refine c_skip ?_ | refine c_exit ?_ | refine p_block ?_ | refine p_then_exit ?_ | refine p_block_here ?_ | refine p_block_on rfl ?_ | refine c_ret ?_ | refine p_then_ret ?_ | refine p_block_ret ?_ | refine p_end ?_ | refine c_if_t rfl (by omega) ?_ | refine c_if_f rfl (by omega) ?_)
        refine c_draw [(0, true), (1, true), (2, true), (3, true), (4, true), (5, true), (6, true), (7, true), (8, true), (9, true), (10, true), (11, true), (12, true), (13, true), (14, true)] [[], [0], [0, 1], [0, 1, 2], [0, 1, 2, 3], [0, 1, 2, 3, 4], [0, 1, 2, 3, 4, 5], [0, 1, 2], [0, 1, 2, 3, 4, 5, 6, 7], [0, 1, 2, 3, 4, 5, 6, 7, 8], [0, 1, 2, 3, 4, 5, 6, 7, 8, 9], [0, 1, 2], [0, 1, 2, 11], [0, 1, 2, 3, 4, 5, 6, 7, 8, 9, 10, 11, 12], [0, 1, 2, 3, 4, 5, 6, 7, 8, 9, 10, 11, 12, 13]] _ (by kernel_rfl) (by kernel_rfl) (by (repeat (first | apply Attach.nil | (apply Attach.cons; · rfl)))) (fun _ h => h) ?_
        repeat (first | refine pl_nil ?_ | (show PlanS _ _ _ _ _ _ _ _ _ _ ((_, true, _) :: _) _ _ _; first | refine pzq ?_ | refine pzt ?_ | refine pzf ?_) | (show PlanS _ _ _ _ _ _ _ _ none [] ((_, _, _) :: _) _ _ _; first | refine pzs ?_ | refine pzs0 ?_ | refine pl_hu (List.Sublist.subset (by (repeat (first | with_reducible apply List.Sublist.refl | with_reducible apply List.nil_sublist | with_reducible apply List.Sublist.cons_cons | with_reducible apply List.Sublist.cons)))) rfl rfl rfl rfl rfl rfl ?_) | (show PlanS _ _ _ _ _ _ _ _ _ _ ((_, _, _) :: _) _ _ _; first | refine pzt ?_ | refine pzf ?_) | (show PlanS _ _ _ _ _ _ _ _ none [] ((_, false, _) :: _) _ _ _; first | refine pzn ?_ | refine pze ?_))
        repeat (first | (show OpsS _ _ _ _ _ _ (_ :: _) _ _ _; first | refine ozq ?_ | refine ozs ?_ | refine ozs0 ?_ | refine ozt ?_ | refine ozf ?_ | refine t_hu rfl rfl rfl rfl rfl rfl ?_ | refine ozn ?_) | refine c_seq ?_ | refine p_then ?_ | refine c_region ?_ | refine s_nil ?_ | refine c_cond_t rfl ?_ | refine c_cond_f rfl ?_ | refine c_block ?_ | refine c_skip ?_ | refine c_exit ?_ | refine p_block ?_ | refine p_then_exit ?_ | refine p_block_here ?_ | refine p_block_on rfl ?_ | refine c_ret ?_ | refine p_then_ret ?_ | refine p_block_ret ?_ | refine p_end ?_ | refine c_if_t rfl (by omega) ?_ | refine c_if_f rfl (by omega) ?_)
        refine t_q (q_loadA rfl (hmR c1) x1 x2) rfl rfl rfl ?_
        repeat (first | (show OpsS _ _ _ _ _ _ (_ :: _) _ _ _; first | refine ozq ?_ | refine ozs ?_ | refine ozs0 ?_ | refine ozt ?_ | refine ozf ?_ | refine t_hu rfl rfl rfl rfl rfl rfl ?_ | refine ozn ?_) | refine c_seq ?_ | refine p_then ?_ | refine c_region ?_ | refine s_nil ?_ | refine c_cond_t rfl ?_ | refine c_cond_f rfl ?_ | refine c_block ?_ | refine c_skip ?_ | refine c_exit ?_ | refine p_block ?_ | refine p_then_exit ?_ | refine p_block_here ?_ | refine p_block_on rfl ?_ | refine c_ret ?_ | refine p_then_ret ?_ | refine p_block_ret ?_ | refine p_end ?_ | refine c_if_t rfl (by omega) ?_ | refine c_if_f rfl (by omega) ?_)
        refine t_e (e_litA (k := 9) (ws := obC y) rfl rfl rfl (by decide) (by decide)) rfl rfl rfl ?_
        rintro _ _ ⟨bl2, _, rfl, rfl⟩
        refine t_e (e_appX (k := 9) (X := [obX b11 I kd sz j N, rfC b S.n (.slice (some ⟨gb, 0, none⟩) S.os.length cap) g']) (cs := c1) (F := cs ++ F) (xs := ocs L) (n := (L).length) (zs := obZ) (ws := obC y) rfl rfl rfl hown rfl (by simp [Value.oneCell']) (by first | omega | (simp only [List.length_append, List.length_cons, List.length_nil]; omega)) (by decide)) rfl rfl rfl ?_
        rintro v3 _ ⟨c3, ho3, rfl⟩
        have hv3 : v3.oneCell' = true := ho3.one
        simp only [List.cons_append, List.nil_append]
        repeat (first | (show OpsS _ _ _ _ _ _ (_ :: _) _ _ _; first | refine ozq ?_ | refine ozs ?_ | refine ozs0 ?_ | refine ozt ?_ | refine ozf ?_ | refine t_hu rfl rfl rfl rfl rfl rfl ?_ | refine ozn ?_) | refine c_seq ?_ | refine p_then ?_ | refine c_region ?_ | refine s_nil ?_ | refine c_cond_t rfl ?_ | refine c_cond_f rfl ?_ | refine c_block ?_ | refine c_skip ?_ | refine c_exit ?_ | refine p_block ?_ | refine p_then_exit ?_ | refine p_block_here ?_ | refine p_block_on rfl ?_ | refine c_ret ?_ | refine p_then_ret ?_ | refine p_block_ret ?_ | refine p_end ?_ | refine c_if_t rfl (by omega) ?_ | refine c_if_f rfl (by omega) ?_)
        exact k_next (k + 1, true, L ++ [y], v3, c3) ⟨by simp only; omega, inv_C hinv hy, by rw [List.length_append, ocs_snoc]; exact ho3⟩ (by simp only; omega) ⟨rfl, rfl, rfl, rfl, rfl, trivial⟩ .refl
      | false =>
        repeat (first | (show OpsS _ _ _ _ _ _ (_ :: _) _ _ _; first | refine ozq ?_ | refine ozs ?_ | refine ozs0 ?_ | refine ozt ?_ | refine ozf ?_ | refine t_hu rfl rfl rfl rfl rfl rfl ?_ | refine ozn ?_) | refine c_seq ?_ | refine p_then ?_ | refine c_region ?_ | refine s_nil ?_ | refine c_cond_t rfl ?_ | refine c_cond_f rfl ?_ | refine c_block ?_ | refine c_skip ?_ | refine c_exit ?_ | refine p_block ?_ | refine p_then_exit ?_ | refine p_block_here ?_ | refine p_block_on rfl ?_ | refine c_ret ?_ | refine p_then_ret ?_ | refine p_block_ret ?_ | refine p_end ?_ | refine c_if_t rfl (by omega) ?_ | refine c_if_f rfl (by omega) ?_)
        refine c_draw [(0, true), (1, true), (2, true), (3, true), (4, true), (5, true), (6, true), (7, true), (8, true), (9, true), (10, true), (11, true), (12, true), (13, true), (14, true)] [[], [0], [0, 1], [0, 1, 2], [0, 1, 2, 3], [0, 1, 2, 3, 4], [0, 1, 2, 3, 4, 5], [0, 1, 2], [0, 1, 2, 3, 4, 5, 6, 7], [0, 1, 2, 3, 4, 5, 6, 7, 8], [0, 1, 2, 3, 4, 5, 6, 7, 8, 9], [0, 1, 2], [0, 1, 2, 11], [0, 1, 2, 3, 4, 5, 6, 7, 8, 9, 10, 11, 12], [0, 1, 2, 3, 4, 5, 6, 7, 8, 9, 10, 11, 12, 13]] _ (by kernel_rfl) (by kernel_rfl) (by (repeat (first | apply Attach.nil | (apply Attach.cons; · rfl)))) (fun _ h => h) ?_
        repeat (first | refine pl_nil ?_ | (show PlanS _ _ _ _ _ _ _ _ _ _ ((_, true, _) :: _) _ _ _; first | refine pzq ?_ | refine pzt ?_ | refine pzf ?_) | (show PlanS _ _ _ _ _ _ _ _ none [] ((_, _, _) :: _) _ _ _; first | refine pzs ?_ | refine pzs0 ?_ | refine pl_hu (List.Sublist.subset (by (repeat (first | with_reducible apply List.Sublist.refl | with_reducible apply List.nil_sublist | with_reducible apply List.Sublist.cons_cons | with_reducible apply List.Sublist.cons)))) rfl rfl rfl rfl rfl rfl ?_) | (show PlanS _ _ _ _ _ _ _ _ _ _ ((_, _, _) :: _) _ _ _; first | refine pzt ?_ | refine pzf ?_) | (show PlanS _ _ _ _ _ _ _ _ none [] ((_, false, _) :: _) _ _ _; first | refine pzn ?_ | refine pze ?_))
        by_cases hy2 : y.id > I
        · repeat (first | refine pl_nil ?_ | (show PlanS _ _ _ _ _ _ _ _ _ _ ((_, true, _) :: _) _ _ _; first | refine pzq ?_ | refine pzt ?_ | refine pzf ?_) | (show PlanS _ _ _ _ _ _ _ _ none [] ((_, _, _) :: _) _ _ _; first | refine pzs ?_ | refine pzs0 ?_ | refine pl_hu (List.Sublist.subset (by (repeat (first | with_reducible apply List.Sublist.refl | with_reducible apply List.nil_sublist | with_reducible apply List.Sublist.cons_cons | with_reducible apply List.Sublist.cons)))) rfl rfl rfl rfl rfl rfl ?_) | (show PlanS _ _ _ _ _ _ _ _ _ _ ((_, _, _) :: _) _ _ _; first | refine pzt ?_ | refine pzf ?_) | (show PlanS _ _ _ _ _ _ _ _ none [] ((_, false, _) :: _) _ _ _; first | refine pzn ?_ | refine pze ?_))
          repeat (first | (show OpsS _ _ _ _ _ _ (_ :: _) _ _ _; first | refine ozq ?_ | refine ozs ?_ | refine ozs0 ?_ | refine ozt ?_ | refine ozf ?_ | refine t_hu rfl rfl rfl rfl rfl rfl ?_ | refine ozn ?_) | refine c_seq ?_ | refine p_then ?_ | refine c_region ?_ | refine s_nil ?_ | refine c_cond_t rfl ?_ | refine c_cond_f rfl ?_ | refine c_block ?_ | refine c_skip ?_ | refine c_exit ?_ | refine p_block ?_ | refine p_then_exit ?_ | refine p_block_here ?_ | refine p_block_on rfl ?_ | refine c_ret ?_ | refine p_then_ret ?_ | refine p_block_ret ?_ | refine p_end ?_ | refine c_if_t rfl (by omega) ?_ | refine c_if_f rfl (by omega) ?_)
          refine t_e (e_litA (k := 9) (ws := obE I kd sz j N) rfl rfl rfl (by decide) (by decide)) rfl rfl rfl ?_
          rintro _ _ ⟨bl, _, rfl, rfl⟩
          refine t_e (e_appX (k := 9) (X := [obX b11 I kd sz j N, rfC b S.n (.slice (some ⟨gb, 0, none⟩) S.os.length cap) g']) (cs := c1) (F := cs ++ F) (xs := ocs L) (n := L.length) (zs := obZ) (ws := obE I kd sz j N) rfl rfl rfl hown rfl (by simp [Value.oneCell']) (by omega) (by decide)) rfl rfl rfl ?_
          rintro v2 _ ⟨c2, ho2, rfl⟩
          have hv2 : v2.oneCell' = true := ho2.one
          have ho2' : OwnSl 83 9 v2 (L ++ [(⟨I, kd, sz, j, N, 0, 0, 0, 0⟩ : ObT)]).length (ocs (L ++ [(⟨I, kd, sz, j, N, 0, 0, 0, 0⟩ : ObT)])) c2 := by rw [List.length_append, ocs_snoc]; exact ho2
          clear hm1
          have hm1 := hmR1 c2
          simp only [List.cons_append, List.nil_append]
          repeat (first | (show OpsS _ _ _ _ _ _ (_ :: _) _ _ _; first | refine ozq ?_ | refine ozs ?_ | refine ozs0 ?_ | refine ozt ?_ | refine ozf ?_ | refine t_hu rfl rfl rfl rfl rfl rfl ?_ | refine ozn ?_) | refine c_seq ?_ | refine p_then ?_ | refine c_region ?_ | refine s_nil ?_ | refine c_cond_t rfl ?_ | refine c_cond_f rfl ?_ | refine c_block ?_ | refine c_skip ?_ | refine c_exit ?_ | refine p_block ?_ | refine p_then_exit ?_ | refine p_block_here ?_ | refine p_block_on rfl ?_ | refine c_ret ?_ | refine p_then_ret ?_ | refine p_block_ret ?_ | refine p_end ?_ | refine c_if_t rfl (by omega) ?_ | refine c_if_f rfl (by omega) ?_)
          refine t_q (q_loadA rfl (hmR c2) x1 x2) rfl rfl rfl ?_
          repeat (first | (show OpsS _ _ _ _ _ _ (_ :: _) _ _ _; first | refine ozq ?_ | refine ozs ?_ | refine ozs0 ?_ | refine ozt ?_ | refine ozf ?_ | refine t_hu rfl rfl rfl rfl rfl rfl ?_ | refine ozn ?_) | refine c_seq ?_ | refine p_then ?_ | refine c_region ?_ | refine s_nil ?_ | refine c_cond_t rfl ?_ | refine c_cond_f rfl ?_ | refine c_block ?_ | refine c_skip ?_ | refine c_exit ?_ | refine p_block ?_ | refine p_then_exit ?_ | refine p_block_here ?_ | refine p_block_on rfl ?_ | refine c_ret ?_ | refine p_then_ret ?_ | refine p_block_ret ?_ | refine p_end ?_ | refine c_if_t rfl (by omega) ?_ | refine c_if_f rfl (by omega) ?_)
          refine t_e (e_litA (k := 9) (ws := obC y) rfl rfl rfl (by decide) (by decide)) rfl rfl rfl ?_
          rintro _ _ ⟨bl2, _, rfl, rfl⟩
          refine t_e (e_appX (k := 9) (X := [obX b11 I kd sz j N, rfC b S.n (.slice (some ⟨gb, 0, none⟩) S.os.length cap) g']) (cs := c2) (F := cs ++ F) (xs := ocs (L ++ [(⟨I, kd, sz, j, N, 0, 0, 0, 0⟩ : ObT)])) (n := ((L ++ [(⟨I, kd, sz, j, N, 0, 0, 0, 0⟩ : ObT)])).length) (zs := obZ) (ws := obC y) rfl rfl rfl ho2' rfl (by simp [Value.oneCell']) (by first | omega | (simp only [List.length_append, List.length_cons, List.length_nil]; omega)) (by decide)) rfl rfl rfl ?_
          rintro v3 _ ⟨c3, ho3, rfl⟩
          have hv3 : v3.oneCell' = true := ho3.one
          simp only [List.cons_append, List.nil_append]
          repeat (first | (show OpsS _ _ _ _ _ _ (_ :: _) _ _ _; first | refine ozq ?_ | refine ozs ?_ | refine ozs0 ?_ | refine ozt ?_ | refine ozf ?_ | refine t_hu rfl rfl rfl rfl rfl rfl ?_ | refine ozn ?_) | refine c_seq ?_ | refine p_then ?_ | refine c_region ?_ | refine s_nil ?_ | refine c_cond_t rfl ?_ | refine c_cond_f rfl ?_ | refine c_block ?_ | refine c_skip ?_ | refine c_exit ?_ | refine p_block ?_ | refine p_then_exit ?_ | refine p_block_here ?_ | refine p_block_on rfl ?_ | refine c_ret ?_ | refine p_then_ret ?_ | refine p_block_ret ?_ | refine p_end ?_ | refine c_if_t rfl (by omega) ?_ | refine c_if_f rfl (by omega) ?_)
          exact k_next (k + 1, true, (L ++ [(⟨I, kd, sz, j, N, 0, 0, 0, 0⟩ : ObT)]) ++ [y], v3, c3) ⟨by simp only; omega, inv_A hok.asc hinv hy hy2, by rw [List.length_append, ocs_snoc]; exact ho3⟩ (by simp only; omega) ⟨rfl, rfl, rfl, rfl, rfl, trivial⟩ .refl
        · repeat (first | refine pl_nil ?_ | (show PlanS _ _ _ _ _ _ _ _ _ _ ((_, true, _) :: _) _ _ _; first | refine pzq ?_ | refine pzt ?_ | refine pzf ?_) | (show PlanS _ _ _ _ _ _ _ _ none [] ((_, _, _) :: _) _ _ _; first | refine pzs ?_ | refine pzs0 ?_ | refine pl_hu (List.Sublist.subset (by (repeat (first | with_reducible apply List.Sublist.refl | with_reducible apply List.nil_sublist | with_reducible apply List.Sublist.cons_cons | with_reducible apply List.Sublist.cons)))) rfl rfl rfl rfl rfl rfl ?_) | (show PlanS _ _ _ _ _ _ _ _ _ _ ((_, _, _) :: _) _ _ _; first | refine pzt ?_ | refine pzf ?_) | (show PlanS _ _ _ _ _ _ _ _ none [] ((_, false, _) :: _) _ _ _; first | refine pzn ?_ | refine pze ?_))
          repeat (first | (show OpsS _ _ _ _ _ _ (_ :: _) _ _ _; first | refine ozq ?_ | refine ozs ?_ | refine ozs0 ?_ | refine ozt ?_ | refine ozf ?_ | refine t_hu rfl rfl rfl rfl rfl rfl ?_ | refine ozn ?_) | refine c_seq ?_ | refine p_then ?_ | refine c_region ?_ | refine s_nil ?_ | refine c_cond_t rfl ?_ | refine c_cond_f rfl ?_ | refine c_block ?_ | refine c_skip ?_ | refine c_exit ?_ | refine p_block ?_ | refine p_then_exit ?_ | refine p_block_here ?_ | refine p_block_on rfl ?_ | refine c_ret ?_ | refine p_then_ret ?_ | refine p_block_ret ?_ | refine p_end ?_ | refine c_if_t rfl (by omega) ?_ | refine c_if_f rfl (by omega) ?_)
          refine t_q (q_loadA rfl (hmR c1) x1 x2) rfl rfl rfl ?_
          repeat (first | (show OpsS _ _ _ _ _ _ (_ :: _) _ _ _; first | refine ozq ?_ | refine ozs ?_ | refine ozs0 ?_ | refine ozt ?_ | refine ozf ?_ | refine t_hu rfl rfl rfl rfl rfl rfl ?_ | refine ozn ?_) | refine c_seq ?_ | refine p_then ?_ | refine c_region ?_ | refine s_nil ?_ | refine c_cond_t rfl ?_ | refine c_cond_f rfl ?_ | refine c_block ?_ | refine c_skip ?_ | refine c_exit ?_ | refine p_block ?_ | refine p_then_exit ?_ | refine p_block_here ?_ | refine p_block_on rfl ?_ | refine c_ret ?_ | refine p_then_ret ?_ | refine p_block_ret ?_ | refine p_end ?_ | refine c_if_t rfl (by omega) ?_ | refine c_if_f rfl (by omega) ?_)
          refine t_e (e_litA (k := 9) (ws := obC y) rfl rfl rfl (by decide) (by decide)) rfl rfl rfl ?_
          rintro _ _ ⟨bl2, _, rfl, rfl⟩
          refine t_e (e_appX (k := 9) (X := [obX b11 I kd sz j N, rfC b S.n (.slice (some ⟨gb, 0, none⟩) S.os.length cap) g']) (cs := c1) (F := cs ++ F) (xs := ocs L) (n := (L).length) (zs := obZ) (ws := obC y) rfl rfl rfl hown rfl (by simp [Value.oneCell']) (by first | omega | (simp only [List.length_append, List.length_cons, List.length_nil]; omega)) (by decide)) rfl rfl rfl ?_
          rintro v3 _ ⟨c3, ho3, rfl⟩
          have hv3 : v3.oneCell' = true := ho3.one
          simp only [List.cons_append, List.nil_append]
          repeat (first | (show OpsS _ _ _ _ _ _ (_ :: _) _ _ _; first | refine ozq ?_ | refine ozs ?_ | refine ozs0 ?_ | refine ozt ?_ | refine ozf ?_ | refine t_hu rfl rfl rfl rfl rfl rfl ?_ | refine ozn ?_) | refine c_seq ?_ | refine p_then ?_ | refine c_region ?_ | refine s_nil ?_ | refine c_cond_t rfl ?_ | refine c_cond_f rfl ?_ | refine c_block ?_ | refine c_skip ?_ | refine c_exit ?_ | refine p_block ?_ | refine p_then_exit ?_ | refine p_block_here ?_ | refine p_block_on rfl ?_ | refine c_ret ?_ | refine p_then_ret ?_ | refine p_block_ret ?_ | refine p_end ?_ | refine c_if_t rfl (by omega) ?_ | refine c_if_f rfl (by omega) ?_)
          exact k_next (k + 1, false, L ++ [y], v3, c3) ⟨by simp only; omega, inv_B hinv hy hy2, by rw [List.length_append, ocs_snoc]; exact ho3⟩ (by simp only; omega) ⟨rfl, rfl, rfl, rfl, rfl, trivial⟩ .refl
    · obtain rfl : k = S.os.length := by omega
      have he := inv_end hinv
      cases nb with
      | true =>
        simp only [if_true] at he
        repeat (first | (show OpsS _ _ _ _ _ _ (_ :: _) _ _ _; first | refine ozq ?_ | refine ozs ?_ | refine ozs0 ?_ | refine ozt ?_ | refine ozf ?_ | refine t_hu rfl rfl rfl rfl rfl rfl ?_ | refine ozn ?_) | refine c_seq ?_ | refine p_then ?_ | refine c_region ?_ | refine s_nil ?_ | refine c_cond_t rfl ?_ | refine c_cond_f rfl ?_ | refine c_block ?_ | refine c_skip ?_ | refine c_exit ?_ | refine p_block ?_ | refine p_then_exit ?_ | refine p_block_here ?_ | refine p_block_on rfl ?_ | refine c_ret ?_ | refine p_then_ret ?_ | refine p_block_ret ?_ | refine p_end ?_ | refine c_if_t rfl (by omega) ?_ | refine c_if_f rfl (by omega) ?_)
        refine t_n (e_store (b := b) (off := 1) (cs := List.toArray (rfL S.n (.slice p S.os.length cap) g')) (l' := obX b11 I kd sz j N :: rfC b S.n v g' :: (c1 ++ (cs ++ F))) rfl rfl hown.one (by rw [rfL_setL]; (repeat (first | apply Upd.here | apply Upd.there))) (by rw [List.size_toArray, rfL_len]; omega)) rfl rfl ?_
        rintro _ _ ⟨rfl, rfl⟩
        repeat (first | (show OpsS _ _ _ _ _ _ (_ :: _) _ _ _; first | refine ozq ?_ | refine ozs ?_ | refine ozs0 ?_ | refine ozt ?_ | refine ozf ?_ | refine t_hu rfl rfl rfl rfl rfl rfl ?_ | refine ozn ?_) | refine c_seq ?_ | refine p_then ?_ | refine c_region ?_ | refine s_nil ?_ | refine c_cond_t rfl ?_ | refine c_cond_f rfl ?_ | refine c_block ?_ | refine c_skip ?_ | refine c_exit ?_ | refine p_block ?_ | refine p_then_exit ?_ | refine p_block_here ?_ | refine p_block_on rfl ?_ | refine c_ret ?_ | refine p_then_ret ?_ | refine p_block_ret ?_ | refine p_end ?_ | refine c_if_t rfl (by omega) ?_ | refine c_if_f rfl (by omega) ?_)
        refine k_ret [] rfl (l' := (rfC b S.n v g' :: c1) ++ F) (.drop (.pick .here (keep_dropM c1 cs F))) (by (repeat (first | apply ResS.nil | (apply rs_tmp; (· rfl)) | (apply rs_cell1; (· rfl); (· ((repeat (first | with_reducible apply List.mem_cons_self | with_reducible apply List.mem_cons_of_mem)); try with_reducible assumption)); (· rfl)) | (apply rs_cellA; (· rfl); (· ((repeat (first | with_reducible apply List.mem_cons_self | with_reducible apply List.mem_cons_of_mem)); try with_reducible assumption)); (· (repeat (first | with_reducible apply LSub.done | with_reducible apply LSub.take | with_reducible apply LSub.drop))))))) ⟨rfl, rfC b S.n v g' :: c1, ⟨hOk, v, c1, rfl, ?_⟩, rfl⟩
        show OwnSl 83 9 v (insD S.os ⟨I, kd, sz, j, N, 0, 0, 0, 0⟩).length (ocs (insD S.os ⟨I, kd, sz, j, N, 0, 0, 0, 0⟩)) c1
        rw [he]
        exact hown
      | false =>
        simp only [Bool.false_eq_true, if_false] at he
        repeat (first | (show OpsS _ _ _ _ _ _ (_ :: _) _ _ _; first | refine ozq ?_ | refine ozs ?_ | refine ozs0 ?_ | refine ozt ?_ | refine ozf ?_ | refine t_hu rfl rfl rfl rfl rfl rfl ?_ | refine ozn ?_) | refine c_seq ?_ | refine p_then ?_ | refine c_region ?_ | refine s_nil ?_ | refine c_cond_t rfl ?_ | refine c_cond_f rfl ?_ | refine c_block ?_ | refine c_skip ?_ | refine c_exit ?_ | refine p_block ?_ | refine p_then_exit ?_ | refine p_block_here ?_ | refine p_block_on rfl ?_ | refine c_ret ?_ | refine p_then_ret ?_ | refine p_block_ret ?_ | refine p_end ?_ | refine c_if_t rfl (by omega) ?_ | refine c_if_f rfl (by omega) ?_)
        refine t_e (e_litA (k := 9) (ws := obE I kd sz j N) rfl rfl rfl (by decide) (by decide)) rfl rfl rfl ?_
        rintro _ _ ⟨bl, _, rfl, rfl⟩
        refine t_e (e_appX (k := 9) (X := [obX b11 I kd sz j N, rfC b S.n (.slice p S.os.length cap) g']) (cs := c1) (F := cs ++ F) (xs := ocs L) (n := L.length) (zs := obZ) (ws := obE I kd sz j N) rfl rfl rfl hown rfl (by simp [Value.oneCell']) (by omega) (by decide)) rfl rfl rfl ?_
        rintro v2 _ ⟨c2, ho2, rfl⟩
        have hv2 : v2.oneCell' = true := ho2.one
        have ho2' : OwnSl 83 9 v2 (L ++ [(⟨I, kd, sz, j, N, 0, 0, 0, 0⟩ : ObT)]).length (ocs (L ++ [(⟨I, kd, sz, j, N, 0, 0, 0, 0⟩ : ObT)])) c2 := by rw [List.length_append, ocs_snoc]; exact ho2
        simp only [List.cons_append, List.nil_append]
        repeat (first | (show OpsS _ _ _ _ _ _ (_ :: _) _ _ _; first | refine ozq ?_ | refine ozs ?_ | refine ozs0 ?_ | refine ozt ?_ | refine ozf ?_ | refine t_hu rfl rfl rfl rfl rfl rfl ?_ | refine ozn ?_) | refine c_seq ?_ | refine p_then ?_ | refine c_region ?_ | refine s_nil ?_ | refine c_cond_t rfl ?_ | refine c_cond_f rfl ?_ | refine c_block ?_ | refine c_skip ?_ | refine c_exit ?_ | refine p_block ?_ | refine p_then_exit ?_ | refine p_block_here ?_ | refine p_block_on rfl ?_ | refine c_ret ?_ | refine p_then_ret ?_ | refine p_block_ret ?_ | refine p_end ?_ | refine c_if_t rfl (by omega) ?_ | refine c_if_f rfl (by omega) ?_)
        refine t_n (e_store (b := b) (off := 1) (cs := List.toArray (rfL S.n (.slice p S.os.length cap) g')) (l' := obX b11 I kd sz j N :: rfC b S.n v2 g' :: (c2 ++ (cs ++ F))) rfl rfl ho2'.one (by rw [rfL_setL]; (repeat (first | apply Upd.here | apply Upd.there))) (by rw [List.size_toArray, rfL_len]; omega)) rfl rfl ?_
        rintro _ _ ⟨rfl, rfl⟩
        repeat (first | (show OpsS _ _ _ _ _ _ (_ :: _) _ _ _; first | refine ozq ?_ | refine ozs ?_ | refine ozs0 ?_ | refine ozt ?_ | refine ozf ?_ | refine t_hu rfl rfl rfl rfl rfl rfl ?_ | refine ozn ?_) | refine c_seq ?_ | refine p_then ?_ | refine c_region ?_ | refine s_nil ?_ | refine c_cond_t rfl ?_ | refine c_cond_f rfl ?_ | refine c_block ?_ | refine c_skip ?_ | refine c_exit ?_ | refine p_block ?_ | refine p_then_exit ?_ | refine p_block_here ?_ | refine p_block_on rfl ?_ | refine c_ret ?_ | refine p_then_ret ?_ | refine p_block_ret ?_ | refine p_end ?_ | refine c_if_t rfl (by omega) ?_ | refine c_if_f rfl (by omega) ?_)
        refine k_ret [] rfl (l' := (rfC b S.n v2 g' :: c2) ++ F) (.drop (.pick .here (keep_dropM c2 cs F))) (by (repeat (first | apply ResS.nil | (apply rs_tmp; (· rfl)) | (apply rs_cell1; (· rfl); (· ((repeat (first | with_reducible apply List.mem_cons_self | with_reducible apply List.mem_cons_of_mem)); try with_reducible assumption)); (· rfl)) | (apply rs_cellA; (· rfl); (· ((repeat (first | with_reducible apply List.mem_cons_self | with_reducible apply List.mem_cons_of_mem)); try with_reducible assumption)); (· (repeat (first | with_reducible apply LSub.done | with_reducible apply LSub.take | with_reducible apply LSub.drop))))))) ⟨rfl, rfC b S.n v2 g' :: c2, ⟨hOk, v2, c2, rfl, ?_⟩, rfl⟩
        show OwnSl 83 9 v2 (insD S.os ⟨I, kd, sz, j, N, 0, 0, 0, 0⟩).length (ocs (insD S.os ⟨I, kd, sz, j, N, 0, 0, 0, 0⟩)) c2
        rw [he]
        exact ho2'
end Go.Proofs.Ytdbdbhlhdcidpaa.Ar

/- lookup as plain data. -/
set_option linter.unusedVariables false
set_option linter.unusedSimpArgs false
namespace Go.Proofs.Ytdbdbhlhdcidpaa
open Go.RowKit

abbrev stT := slT × Int
abbrev encS (y : stT) : List Value := [.int .i64 y.1.1, .int .i64 y.1.2, .int .i64 y.2]
def obA (S : Ar.ArT) (c : CapT) : Ar.ObT := (Ar.getD' S c.obj).1
def guF (addr : Nat) (c : CapT) (left : Int) : Nat := if c.bits > 0 then fieldN addr (left - c.bits).toNat c.bits.toNat else 0
def goes (S : Ar.ArT) (c : CapT) (left : Int) : Prop := mayC c = true ∧ c.kind = 2 ∧ (Ar.getD' S c.obj).2 = true ∧ (obA S c).kd = 2 ∧ c.bits + (obA S c).sz ≤ left
instance (S : Ar.ArT) (c : CapT) (left : Int) : Decidable (goes S c left) := by unfold goes; exact inferInstance
def leftN (S : Ar.ArT) (c : CapT) (left : Int) : Int := left - (c.bits + (obA S c).sz)
def slotN (S : Ar.ArT) (addr : Nat) (c : CapT) (left : Int) : slT := ((obA S c).id, (fieldN addr (leftN S c left).toNat (obA S c).sz.toNat : Nat))
def stepD (D : SD) (S : Ar.ArT) (addr : Nat) (c : CapT) (left : Int) : Option (stT × CapT) :=
  if goes S c left then (if guF addr c left = u64V c.guard ∧ (getD' D (slotN S addr c left)).2 = 0 then some ((slotN S addr c left, leftN S c left), (getD' D (slotN S addr c left)).1) else none) else none
def walkL (D : SD) (S : Ar.ArT) (addr : Nat) : Nat → CapT → Int → List stT
  | 0, _, _ => []
  | f + 1, c, left => if left > 0 then (match stepD D S addr c left with | some y => y.1 :: walkL D S addr f y.2 y.1.2 | none => []) else []
/-- nodes' radixes are 1 to 4 -/
def Rad (S : Ar.ArT) : Prop := ∀ o ∈ S.os, o.kd = 2 → 1 ≤ o.sz ∧ o.sz ≤ 4
theorem get_mem {S : Ar.ArT} {id : Int} (h : (Ar.getD' S id).2 = true) : (Ar.getD' S id).1 ∈ S.os ∧ (Ar.getD' S id).1.id = id := by
  unfold Ar.getD' at *
  cases hk : Ar.atO S.os id with
  | none => rw [hk] at h; cases h
  | some k =>
    obtain ⟨h1, h2⟩ := Ar.atO_get hk
    exact ⟨List.mem_of_getElem? h1, h2⟩
theorem node_bits {c : CapT} (h : mayC c = true) (hk : c.kind = 2) : 0 ≤ c.bits ∧ c.bits ≤ 12 ∧ 0 ≤ c.guard ∧ fitsB (u64V c.guard) c.bits = true := by
  unfold mayC at h
  rw [if_neg (by omega), if_neg (by omega), if_pos hk] at h
  unfold nodeB at h
  simp only [Bool.and_eq_true, decide_eq_true_eq] at h
  obtain ⟨⟨⟨h1, h2⟩, h3, h4⟩, _⟩ := h
  exact ⟨h1, h2, h3, h4⟩
theorem goes_facts {S : Ar.ArT} (hR : Rad S) {c : CapT} {left : Int} (h : goes S c left) : 0 ≤ c.bits ∧ c.bits ≤ 12 ∧ 1 ≤ (obA S c).sz ∧ (obA S c).sz ≤ 4 ∧ 0 ≤ leftN S c left ∧ leftN S c left < left := by
  obtain ⟨h1, h2, h3, h4, h5⟩ := h
  obtain ⟨b1, b2, _⟩ := node_bits h1 h2
  obtain ⟨m1, _⟩ := get_mem h3
  obtain ⟨s1, s2⟩ := hR _ m1 h4
  unfold leftN obA at *
  refine ⟨b1, b2, s1, s2, by omega, by omega⟩
theorem step_some {D : SD} {S : Ar.ArT} {addr : Nat} {c : CapT} {left : Int} (h : goes S c left) (h2 : guF addr c left = u64V c.guard ∧ (getD' D (slotN S addr c left)).2 = 0) : stepD D S addr c left = some ((slotN S addr c left, leftN S c left), (getD' D (slotN S addr c left)).1) := by
  unfold stepD; rw [if_pos h, if_pos h2]
theorem step_none1 {D : SD} {S : Ar.ArT} {addr : Nat} {c : CapT} {left : Int} (h : ¬ goes S c left) : stepD D S addr c left = none := by unfold stepD; rw [if_neg h]
theorem step_none2 {D : SD} {S : Ar.ArT} {addr : Nat} {c : CapT} {left : Int} (h : ¬ (guF addr c left = u64V c.guard ∧ (getD' D (slotN S addr c left)).2 = 0)) : stepD D S addr c left = none := by
  unfold stepD
  by_cases hg : goes S c left
  · rw [if_pos hg, if_neg h]
  · rw [if_neg hg]
theorem walk_end {D : SD} {S : Ar.ArT} {addr : Nat} {f : Nat} {c : CapT} {left : Int} (h : left ≤ 0) : walkL D S addr f c left = [] := by
  cases f with
  | zero => rfl
  | succ f => unfold walkL; rw [if_neg (by omega)]
theorem walk_stop {D : SD} {S : Ar.ArT} {addr : Nat} {f : Nat} {c : CapT} {left : Int} (h : stepD D S addr c left = none) : walkL D S addr f c left = [] := by
  cases f with
  | zero => rfl
  | succ f =>
    unfold walkL; rw [h]; split <;> rfl
theorem walk_on {D : SD} {S : Ar.ArT} {addr : Nat} {f : Nat} {c : CapT} {left : Int} {y : stT × CapT} (h0 : left > 0) (h : stepD D S addr c left = some y) : walkL D S addr (f + 1) c left = y.1 :: walkL D S addr f y.2 y.1.2 := by
  rw [walkL, if_pos h0, h]
theorem walk_len (D : SD) (S : Ar.ArT) (addr : Nat) : ∀ (f : Nat) (c : CapT) (left : Int), (walkL D S addr f c left).length ≤ f
  | 0, _, _ => Nat.le_refl _
  | f + 1, c, left => by
    unfold walkL
    split
    · split
      · have := walk_len D S addr f; rw [List.length_cons]; exact Nat.succ_le_succ (this _ _)
      · exact Nat.zero_le _
    · exact Nat.zero_le _
theorem field_16 {w a n : Nat} (h : n ≤ 4) : fieldN w a n < 16 := Nat.lt_of_lt_of_le (show fieldN w a n < 2 ^ n from Nat.mod_lt _ (Nat.two_pow_pos n)) (Nat.pow_le_pow_right (by omega) h)
/-- what Resolve answers; what Path answers -/
def badD (addr : Nat) (depth : Int) : Prop := depth < 1 ∨ depth > 12 ∨ fitsB addr depth = false
instance (addr : Nat) (depth : Int) : Decidable (badD addr depth) := by unfold badD; exact inferInstance
def pathD (D : SD) (S : Ar.ArT) (c : CapT) (addr : Nat) (depth : Int) : List stT := if badD addr depth then [] else walkL D S addr 13 c depth
def lastD (L : List stT) (depth : Int) : stT := L.getLast?.getD ((0, 0), depth)
def resD (D : SD) (S : Ar.ArT) (c : CapT) (addr : Nat) (depth : Int) : slT × Int :=
  if badD addr depth then ((0, 0), 3) else if (lastD (walkL D S addr 13 c depth) depth).2 > 0 then ((0, 0), 12) else ((lastD (walkL D S addr 13 c depth) depth).1, 0)
end Go.Proofs.Ytdbdbhlhdcidpaa

/- lookup: bad, steps and its iterator. -/
-- GU
set_option linter.unusedVariables false
set_option linter.unusedSimpArgs false
namespace Go.Proofs.Ytdbdbhlhdcidpaa
open Go.RowKit
set_option maxRecDepth 20000

theorem Keep.appL (X : List Chunk) {A B : List Chunk} (h : Keep A B) : Keep (X ++ A) (X ++ B) := by
  obtain ⟨r, p⟩ := h
  exact ⟨r, (List.Perm.append_left X p).trans (List.perm_append_comm_assoc X r B)⟩
theorem Keep.dropL' (X : List Chunk) {A B : List Chunk} (h : Keep A B) : Keep (X ++ A) B := by
  obtain ⟨r, p⟩ := h
  exact ⟨X ++ r, by rw [List.append_assoc]; exact p.append_left X⟩
abbrev ptA (B b : Nat) : Chunk := (B, .cells #[.pointer (some ⟨b, 0, none⟩)] 23 (0, 0))
abbrev ptS (B b : Nat) : Chunk := (B, .cells #[.pointer (some ⟨b, 0, none⟩)] 22 (0, 0))
theorem set_cap (c d : CapT) : setFrom (List.toArray (encC c)) 0 (List.toArray (encC d)).toList = List.toArray (encC d) := by
  cases c; cases d; simp [setFrom, encC]
set_option pp.deepTerms false
set_option pp.deepTerms.threshold 4
set_option maxHeartbeats 400000
theorem field_int (w : Nat) (hw : w < 18446744073709551616) (a n : Int) (h0 : 0 ≤ a) (h1 : 1 ≤ n) (h2 : n ≤ 63) (h3 : a + n ≤ 64) (l : List Chunk) :
    Fn Try.prog 48 [.int .u64 (w : Nat), .int .i64 a, .int .i64 n] l fun r l' => r = .tuple #[.int .u64 (fieldN w a.toNat n.toNat : Nat), .int .i64 0] ∧ l' = l := by
  obtain ⟨a, rfl⟩ : ∃ q : Nat, a = q := ⟨a.toNat, by omega⟩
  obtain ⟨n, rfl⟩ : ∃ q : Nat, n = q := ⟨n.toNat, by omega⟩
  exact field_any w a n hw (by omega) (by omega) (by omega) l
theorem bad_any (bs ba : Nat) (addr : Nat) (ha : addr < 18446744073709551616) (depth : Int) (l : List Chunk) :
    Fn Try.prog 27 [.pointer (some ⟨bs, 0, none⟩), .pointer (some ⟨ba, 0, none⟩), .int .u64 (addr : Nat), .int .i64 depth] l fun v l' => v = .int .i64 (if badD addr depth then 3 else 0) ∧ l' = l := by
  refine fn_of_body Try.func27 rfl rfl fun E => ?_
  simp only [argF, Try.ntmps27]
  by_cases h1 : depth < 1
  · rw [if_pos (.inl h1)]
    repeat (first | (show OpsS _ _ _ _ _ _ (_ :: _) _ _ _; first | refine ozq ?_ | refine ozs ?_ | refine ozs0 ?_ | refine ozt ?_ | refine ozf ?_ | refine t_hu rfl rfl rfl rfl rfl rfl ?_) | refine c_seq ?_ | refine p_then ?_ | refine c_region ?_ | refine s_nil ?_ | refine c_cond_t rfl ?_ | refine c_cond_f rfl ?_ | refine c_block ?_ | refine c_skip ?_ | refine p_block ?_ | refine p_block_here ?_ | refine p_block_on rfl ?_ | refine c_ret ?_ | refine p_then_ret ?_ | refine p_block_ret ?_ | refine p_end ?_ | refine c_if_t rfl (by omega) ?_ | refine c_if_f rfl (by omega) ?_)
    exact k_ret [] rfl .refl (by (repeat (first | apply ResS.nil | (apply rs_tmp; (· rfl)) | (apply rs_cell1; (· rfl); (· ((repeat (first | with_reducible apply List.mem_cons_self | with_reducible apply List.mem_cons_of_mem)); try with_reducible assumption)); (· rfl)) | (apply rs_cellA; (· rfl); (· ((repeat (first | with_reducible apply List.mem_cons_self | with_reducible apply List.mem_cons_of_mem)); try with_reducible assumption)); (· (repeat (first | with_reducible apply LSub.done | with_reducible apply LSub.take | with_reducible apply LSub.drop))))))) ⟨rfl, rfl⟩
  by_cases h2 : depth > 12
  · rw [if_pos (.inr (.inl h2))]
    repeat (first | (show OpsS _ _ _ _ _ _ (_ :: _) _ _ _; first | refine ozq ?_ | refine ozs ?_ | refine ozs0 ?_ | refine ozt ?_ | refine ozf ?_ | refine t_hu rfl rfl rfl rfl rfl rfl ?_) | refine c_seq ?_ | refine p_then ?_ | refine c_region ?_ | refine s_nil ?_ | refine c_cond_t rfl ?_ | refine c_cond_f rfl ?_ | refine c_block ?_ | refine c_skip ?_ | refine p_block ?_ | refine p_block_here ?_ | refine p_block_on rfl ?_ | refine c_ret ?_ | refine p_then_ret ?_ | refine p_block_ret ?_ | refine p_end ?_ | refine c_if_t rfl (by omega) ?_ | refine c_if_f rfl (by omega) ?_)
    exact k_ret [] rfl .refl (by (repeat (first | apply ResS.nil | (apply rs_tmp; (· rfl)) | (apply rs_cell1; (· rfl); (· ((repeat (first | with_reducible apply List.mem_cons_self | with_reducible apply List.mem_cons_of_mem)); try with_reducible assumption)); (· rfl)) | (apply rs_cellA; (· rfl); (· ((repeat (first | with_reducible apply List.mem_cons_self | with_reducible apply List.mem_cons_of_mem)); try with_reducible assumption)); (· (repeat (first | with_reducible apply LSub.done | with_reducible apply LSub.take | with_reducible apply LSub.drop))))))) ⟨rfl, rfl⟩
  repeat (first | (show OpsS _ _ _ _ _ _ (_ :: _) _ _ _; first | refine ozq ?_ | refine ozs ?_ | refine ozs0 ?_ | refine ozt ?_ | refine ozf ?_ | refine t_hu rfl rfl rfl rfl rfl rfl ?_) | refine c_seq ?_ | refine p_then ?_ | refine c_region ?_ | refine s_nil ?_ | refine c_cond_t rfl ?_ | refine c_cond_f rfl ?_ | refine c_block ?_ | refine c_skip ?_ | refine p_block ?_ | refine p_block_here ?_ | refine p_block_on rfl ?_ | refine c_ret ?_ | refine p_then_ret ?_ | refine p_block_ret ?_ | refine p_end ?_ | refine c_if_t rfl (by omega) ?_ | refine c_if_f rfl (by omega) ?_)
  refine t_h (q_call rfl rfl fun l2 _ => fits_any addr ha depth l2) rfl rfl rfl ?_
  cases hf : fitsB addr depth with
  | false =>
    rw [if_pos (.inr (.inr hf))]
    repeat (first | (show OpsS _ _ _ _ _ _ (_ :: _) _ _ _; first | refine ozq ?_ | refine ozs ?_ | refine ozs0 ?_ | refine ozt ?_ | refine ozf ?_ | refine t_hu rfl rfl rfl rfl rfl rfl ?_) | refine c_seq ?_ | refine p_then ?_ | refine c_region ?_ | refine s_nil ?_ | refine c_cond_t rfl ?_ | refine c_cond_f rfl ?_ | refine c_block ?_ | refine c_skip ?_ | refine p_block ?_ | refine p_block_here ?_ | refine p_block_on rfl ?_ | refine c_ret ?_ | refine p_then_ret ?_ | refine p_block_ret ?_ | refine p_end ?_ | refine c_if_t rfl (by omega) ?_ | refine c_if_f rfl (by omega) ?_)
    exact k_ret [] rfl .refl (by (repeat (first | apply ResS.nil | (apply rs_tmp; (· rfl)) | (apply rs_cell1; (· rfl); (· ((repeat (first | with_reducible apply List.mem_cons_self | with_reducible apply List.mem_cons_of_mem)); try with_reducible assumption)); (· rfl)) | (apply rs_cellA; (· rfl); (· ((repeat (first | with_reducible apply List.mem_cons_self | with_reducible apply List.mem_cons_of_mem)); try with_reducible assumption)); (· (repeat (first | with_reducible apply LSub.done | with_reducible apply LSub.take | with_reducible apply LSub.drop))))))) ⟨rfl, rfl⟩
  | true =>
    rw [if_neg (by rintro (h | h | h) <;> first | omega | (rw [hf] at h; cases h))]
    repeat (first | (show OpsS _ _ _ _ _ _ (_ :: _) _ _ _; first | refine ozq ?_ | refine ozs ?_ | refine ozs0 ?_ | refine ozt ?_ | refine ozf ?_ | refine t_hu rfl rfl rfl rfl rfl rfl ?_) | refine c_seq ?_ | refine p_then ?_ | refine c_region ?_ | refine s_nil ?_ | refine c_cond_t rfl ?_ | refine c_cond_f rfl ?_ | refine c_block ?_ | refine c_skip ?_ | refine p_block ?_ | refine p_block_here ?_ | refine p_block_on rfl ?_ | refine c_ret ?_ | refine p_then_ret ?_ | refine p_block_ret ?_ | refine p_end ?_ | refine c_if_t rfl (by omega) ?_ | refine c_if_f rfl (by omega) ?_)
    exact k_ret [] rfl .refl (by (repeat (first | apply ResS.nil | (apply rs_tmp; (· rfl)) | (apply rs_cell1; (· rfl); (· ((repeat (first | with_reducible apply List.mem_cons_self | with_reducible apply List.mem_cons_of_mem)); try with_reducible assumption)); (· rfl)) | (apply rs_cellA; (· rfl); (· ((repeat (first | with_reducible apply List.mem_cons_self | with_reducible apply List.mem_cons_of_mem)); try with_reducible assumption)); (· (repeat (first | with_reducible apply LSub.done | with_reducible apply LSub.take | with_reducible apply LSub.drop))))))) ⟨rfl, rfl⟩
theorem steps_any (bs ba addr : Nat) (root : CapT) (depth : Int) (l : List Chunk) :
    Fn Try.prog 28 [.pointer (some ⟨bs, 0, none⟩), .pointer (some ⟨ba, 0, none⟩), .agg (List.toArray (encC root)), .int .u64 (addr : Nat), .int .i64 depth] l fun v l' =>
      ∃ B1 B2 B3 B4 B5, v = .func (.func 46) #[] #[.pointer (some ⟨B1, 0, none⟩), .pointer (some ⟨B2, 0, none⟩), .pointer (some ⟨B3, 0, none⟩), .pointer (some ⟨B4, 0, none⟩), .pointer (some ⟨B5, 0, none⟩)] ∧
        l' = inC B2 depth :: u64C B4 addr :: capC B1 root :: ptA B3 ba :: ptS B5 bs :: l := by
  refine fn_of_body Try.func28 rfl rfl fun E => ?_
  simp only [argF, Try.ntmps28]
  repeat (first | (show OpsS _ _ _ _ _ _ (_ :: _) _ _ _; first | refine ozq ?_) | refine c_seq ?_ | refine p_then ?_ | refine c_region ?_ | refine s_nil ?_ | refine c_ret ?_ | refine p_then_ret ?_ | refine p_end ?_)
  (first | refine t_e (e_box1 rfl rfl) rfl rfl rfl ?_ | refine t_e (e_boxA rfl) rfl rfl rfl ?_); rintro _ _ ⟨b5, _, rfl, rfl⟩
  repeat (first | (show OpsS _ _ _ _ _ _ (_ :: _) _ _ _; first | refine ozq ?_) | refine c_seq ?_ | refine p_then ?_ | refine c_region ?_ | refine s_nil ?_ | refine c_ret ?_ | refine p_then_ret ?_ | refine p_end ?_)
  (first | refine t_e (e_box1 rfl rfl) rfl rfl rfl ?_ | refine t_e (e_boxA rfl) rfl rfl rfl ?_); rintro _ _ ⟨b6, _, rfl, rfl⟩
  repeat (first | (show OpsS _ _ _ _ _ _ (_ :: _) _ _ _; first | refine ozq ?_) | refine c_seq ?_ | refine p_then ?_ | refine c_region ?_ | refine s_nil ?_ | refine c_ret ?_ | refine p_then_ret ?_ | refine p_end ?_)
  (first | refine t_e (e_box1 rfl rfl) rfl rfl rfl ?_ | refine t_e (e_boxA rfl) rfl rfl rfl ?_); rintro _ _ ⟨b7, _, rfl, rfl⟩
  repeat (first | (show OpsS _ _ _ _ _ _ (_ :: _) _ _ _; first | refine ozq ?_) | refine c_seq ?_ | refine p_then ?_ | refine c_region ?_ | refine s_nil ?_ | refine c_ret ?_ | refine p_then_ret ?_ | refine p_end ?_)
  (first | refine t_e (e_box1 rfl rfl) rfl rfl rfl ?_ | refine t_e (e_boxA rfl) rfl rfl rfl ?_); rintro _ _ ⟨b8, _, rfl, rfl⟩
  repeat (first | (show OpsS _ _ _ _ _ _ (_ :: _) _ _ _; first | refine ozq ?_) | refine c_seq ?_ | refine p_then ?_ | refine c_region ?_ | refine s_nil ?_ | refine c_ret ?_ | refine p_then_ret ?_ | refine p_end ?_)
  (first | refine t_e (e_box1 rfl rfl) rfl rfl rfl ?_ | refine t_e (e_boxA rfl) rfl rfl rfl ?_); rintro _ _ ⟨b9, _, rfl, rfl⟩
  repeat (first | (show OpsS _ _ _ _ _ _ (_ :: _) _ _ _; first | refine ozq ?_) | refine c_seq ?_ | refine p_then ?_ | refine c_region ?_ | refine s_nil ?_ | refine c_ret ?_ | refine p_then_ret ?_ | refine p_end ?_)
  exact k_ret [] rfl .refl (by (repeat (first | apply ResS.nil | (apply rs_tmp; (· rfl)) | (apply rs_cell1; (· rfl); (· ((repeat (first | with_reducible apply List.mem_cons_self | with_reducible apply List.mem_cons_of_mem)); try with_reducible assumption)); (· rfl)) | (apply rs_cellA; (· rfl); (· ((repeat (first | with_reducible apply List.mem_cons_self | with_reducible apply List.mem_cons_of_mem)); try with_reducible assumption)); (· (repeat (first | with_reducible apply LSub.done | with_reducible apply LSub.take | with_reducible apply LSub.drop))))))) ⟨_, _, _, _, _, rfl, rfl⟩
set_option maxHeartbeats 800000 in
theorem steps_iter (B1 B2 B3 B4 B5 bs ba : Nat) (D : SD) (S : Ar.ArT) (lq la : List Chunk) (hq : IsS bs D lq) (hA : Ar.IsA ba S la) (hR : Rad S) (addr : Nat) (haddr : addr < 18446744073709551616) (root : CapT) (depth : Int) (hd : depth ≤ 12) :
    IterS Try.prog 46 [.pointer (some ⟨B1, 0, none⟩), .pointer (some ⟨B2, 0, none⟩), .pointer (some ⟨B3, 0, none⟩), .pointer (some ⟨B4, 0, none⟩), .pointer (some ⟨B5, 0, none⟩)] (fun y : stT => [.agg (List.toArray (encS y))]) (fun xs => xs = walkL D S addr 13 root depth) (fun pre => pre <+: walkL D S addr 13 root depth)
      (fun _ l => (∀ x, x ∈ [inC B2 depth, u64C B4 addr, capC B1 root, ptA B3 ba, ptS B5 bs] → x ∈ l) ∧ (∀ c, c ∈ lq → c ∈ l) ∧ (∀ c, c ∈ la → c ∈ l)) := by
  refine ⟨fun r I Ix G0 hneed hY l G hG h0 => ?_⟩
  obtain ⟨n1, n2, n3⟩ := hneed _ _ G hG h0
  have m1 := n1 (capC B1 root) (by simp)
  have m2 := n1 (inC B2 depth) (by simp)
  refine fn_of_body Try.func46 rfl rfl fun E => ?_
  simp only [argF, Try.ntmps46]
  repeat (first | (show OpsS _ _ _ _ _ _ (_ :: _) _ _ _; first | refine ozq ?_ | refine ozs ?_ | refine ozs0 ?_ | refine ozt ?_ | refine ozf ?_ | refine t_hu rfl rfl rfl rfl rfl rfl ?_ | refine ozn ?_) | refine c_seq ?_ | refine p_then ?_ | refine c_region ?_ | refine s_nil ?_ | refine c_cond_t rfl ?_ | refine c_cond_f rfl ?_ | refine c_block ?_ | refine c_skip ?_ | refine c_exit ?_ | refine p_block ?_ | refine p_then_exit ?_ | refine p_block_here ?_ | refine p_block_on rfl ?_ | refine c_ret ?_ | refine p_then_ret ?_ | refine p_block_ret ?_ | refine p_end ?_ | refine c_if_t rfl (by omega) ?_ | refine c_if_f rfl (by omega) ?_)
  refine c_draw [(0, true), (1, true), (2, false), (3, false), (4, true)] [[], [], [], [0, 2], [0, 1, 2, 3]] _ (by kernel_rfl) (by kernel_rfl) (by (repeat (first | apply Attach.nil | (apply Attach.cons; · rfl)))) (fun _ h => h) ?_
  repeat (first | refine pl_nil ?_ | (show PlanS _ _ _ _ _ _ _ _ _ _ ((_, true, _) :: _) _ _ _; first | refine pzq ?_) | (show PlanS _ _ _ _ _ _ _ _ none [] ((_, false, _) :: _) _ _ _; first | refine pzn ?_ | refine pze ?_))
  apply pl_e
  · exact e_alloc
  · rfl
  · rfl
  · rfl
  · rintro _ _ ⟨b7, _, _, rfl⟩ x hx
    exact .tail _ hx
  rintro _ _ ⟨b7, hb7, rfl, rfl⟩
  repeat (first | refine pl_nil ?_ | (show PlanS _ _ _ _ _ _ _ _ _ _ ((_, true, _) :: _) _ _ _; first | refine pzq ?_) | (show PlanS _ _ _ _ _ _ _ _ none [] ((_, false, _) :: _) _ _ _; first | refine pzn ?_ | refine pze ?_))
  repeat (first | (show OpsS _ _ _ _ _ _ (_ :: _) _ _ _; first | refine ozq ?_ | refine ozs ?_ | refine ozs0 ?_ | refine ozt ?_ | refine ozf ?_ | refine t_hu rfl rfl rfl rfl rfl rfl ?_ | refine ozn ?_) | refine c_seq ?_ | refine p_then ?_ | refine c_region ?_ | refine s_nil ?_ | refine c_cond_t rfl ?_ | refine c_cond_f rfl ?_ | refine c_block ?_ | refine c_skip ?_ | refine c_exit ?_ | refine p_block ?_ | refine p_then_exit ?_ | refine p_block_here ?_ | refine p_block_on rfl ?_ | refine c_ret ?_ | refine p_then_ret ?_ | refine p_block_ret ?_ | refine p_end ?_ | refine c_if_t rfl (by omega) ?_ | refine c_if_f rfl (by omega) ?_)
  have hL0 : walkL D S addr 13 root depth = [] ++ walkL D S addr 13 root depth := rfl
  refine k_loop (α := CapT × Int × List stT × Nat × List Chunk) (fun x => [(0, .func (.yield r) #[] #[]), (3, .pointer (some ⟨B3, 0, none⟩)), (4, .pointer (some ⟨B4, 0, none⟩)), (5, .pointer (some ⟨B5, 0, none⟩)), (7, .pointer (some ⟨b7, 0, none⟩)), (8, .int .i64 x.2.1)]) (fun x => x.2.2.2.2 ++ (capC b7 x.1 :: G))
    (fun x => I x.2.2.1 x.2.2.2.2 ∧ walkL D S addr 13 root depth = x.2.2.1 ++ walkL D S addr x.2.2.2.1 x.1 x.2.1 ∧ x.2.1 ≤ (x.2.2.2.1 : Nat) ∧ x.2.1 ≤ 12) (fun x => x.2.1.toNat) (root, depth, [], 13, l) ⟨h0, rfl, by simp only; omega, hd⟩ ⟨rfl, rfl, rfl, rfl, rfl, rfl, trivial⟩ (Keep.of_perm List.perm_middle.symm) ?_
  clear n1 n2 n3 m1 m2 hL0 hb7
  rintro ⟨c, left, pre, f, l⟩ ⟨hI, hW, hf, hl12⟩
  simp only at hI hW hf hl12 ⊢
  obtain ⟨n1, n2, n3⟩ := hneed _ _ (capC b7 c :: G) (fun c hc => .tail _ (hG c hc)) hI
  have m3 := n1 (ptA B3 ba) (by simp)
  have m4 := n1 (u64C B4 addr) (by simp)
  have m5 := n1 (ptS B5 bs) (by simp)
  have m7 : capC b7 c ∈ l ++ (capC b7 c :: G) := List.mem_append_right _ (.head _)
  by_cases hl0 : left > 0
  case neg =>
    have hE : walkL D S addr f c left = [] := walk_end (by omega)
    rw [hE, List.append_nil] at hW
    repeat (first | (show OpsS _ _ _ _ _ _ (_ :: _) _ _ _; first | refine ozq ?_ | refine ozs ?_ | refine ozs0 ?_ | refine ozt ?_ | refine ozf ?_ | refine t_hu rfl rfl rfl rfl rfl rfl ?_ | refine ozn ?_) | refine c_seq ?_ | refine p_then ?_ | refine c_region ?_ | refine s_nil ?_ | refine c_cond_t rfl ?_ | refine c_cond_f rfl ?_ | refine c_block ?_ | refine c_skip ?_ | refine c_exit ?_ | refine p_block ?_ | refine p_then_exit ?_ | refine p_block_here ?_ | refine p_block_on rfl ?_ | refine c_ret ?_ | refine p_then_ret ?_ | refine p_block_ret ?_ | refine p_end ?_ | refine c_if_t rfl (by omega) ?_ | refine c_if_f rfl (by omega) ?_)
    exact k_ret [] rfl (Keep.appL l (.drop .refl)) (by (repeat (first | apply ResS.nil | (apply rs_tmp; (· rfl)) | (apply rs_cell1; (· rfl); (· ((repeat (first | with_reducible apply List.mem_cons_self | with_reducible apply List.mem_cons_of_mem)); try with_reducible assumption)); (· rfl)) | (apply rs_cellA; (· rfl); (· ((repeat (first | with_reducible apply List.mem_cons_self | with_reducible apply List.mem_cons_of_mem)); try with_reducible assumption)); (· (repeat (first | with_reducible apply LSub.done | with_reducible apply LSub.take | with_reducible apply LSub.drop))))))) ⟨l, rfl, .inl ⟨pre, hW.symm, hI⟩⟩
  obtain ⟨f, rfl⟩ : ∃ q, f = q + 1 := ⟨f - 1, by omega⟩
  repeat (first | (show OpsS _ _ _ _ _ _ (_ :: _) _ _ _; first | refine ozq ?_ | refine ozs ?_ | refine ozs0 ?_ | refine ozt ?_ | refine ozf ?_ | refine t_hu rfl rfl rfl rfl rfl rfl ?_ | refine ozn ?_) | refine c_seq ?_ | refine p_then ?_ | refine c_region ?_ | refine s_nil ?_ | refine c_cond_t rfl ?_ | refine c_cond_f rfl ?_ | refine c_block ?_ | refine c_skip ?_ | refine c_exit ?_ | refine p_block ?_ | refine p_then_exit ?_ | refine p_block_here ?_ | refine p_block_on rfl ?_ | refine c_ret ?_ | refine p_then_ret ?_ | refine p_block_ret ?_ | refine p_end ?_ | refine c_if_t rfl (by omega) ?_ | refine c_if_f rfl (by omega) ?_)
  refine t_q (q_call rfl rfl fun l2 hl => Ar.get_any ba S la hA c.obj l2 fun x hx => hl x (n3 x hx)) rfl rfl rfl ?_
  obtain ⟨o, ho⟩ : ∃ o, (Ar.getD' S c.obj).1 = o := ⟨_, rfl⟩
  obtain ⟨ok, hok⟩ : ∃ ok, (Ar.getD' S c.obj).2 = ok := ⟨_, rfl⟩
  have hoA : obA S c = o := ho
  rw [ho, hok]
  repeat (first | (show OpsS _ _ _ _ _ _ (_ :: _) _ _ _; first | refine ozq ?_ | refine ozs ?_ | refine ozs0 ?_ | refine ozt ?_ | refine ozf ?_ | refine t_hu rfl rfl rfl rfl rfl rfl ?_ | refine ozn ?_) | refine c_seq ?_ | refine p_then ?_ | refine c_region ?_ | refine s_nil ?_ | refine c_cond_t rfl ?_ | refine c_cond_f rfl ?_ | refine c_block ?_ | refine c_skip ?_ | refine c_exit ?_ | refine p_block ?_ | refine p_then_exit ?_ | refine p_block_here ?_ | refine p_block_on rfl ?_ | refine c_ret ?_ | refine p_then_ret ?_ | refine p_block_ret ?_ | refine p_end ?_ | refine c_if_t rfl (by omega) ?_ | refine c_if_f rfl (by omega) ?_)
  refine t_e e_alloc rfl rfl rfl ?_; rintro _ _ ⟨b9, _, rfl, rfl⟩
  have m7' := List.mem_cons_of_mem (Ar.obK b9 o) m7
  repeat (first | (show OpsS _ _ _ _ _ _ (_ :: _) _ _ _; first | refine ozq ?_ | refine ozs ?_ | refine ozs0 ?_ | refine ozt ?_ | refine ozf ?_ | refine t_hu rfl rfl rfl rfl rfl rfl ?_ | refine ozn ?_) | refine c_seq ?_ | refine p_then ?_ | refine c_region ?_ | refine s_nil ?_ | refine c_cond_t rfl ?_ | refine c_cond_f rfl ?_ | refine c_block ?_ | refine c_skip ?_ | refine c_exit ?_ | refine p_block ?_ | refine p_then_exit ?_ | refine p_block_here ?_ | refine p_block_on rfl ?_ | refine c_ret ?_ | refine p_then_ret ?_ | refine p_block_ret ?_ | refine p_end ?_ | refine c_if_t rfl (by omega) ?_ | refine c_if_f rfl (by omega) ?_)
  refine t_q (q_call rfl rfl fun l2 _ => mayC_any c l2) rfl rfl rfl ?_
  have hstop : ∀ {F : List Chunk}, ¬ goes S c left → Keep (Ar.obK b9 o :: (l ++ (capC b7 c :: G))) (l ++ G) ∧ walkL D S addr 13 root depth = pre := fun h => by
    have hE : walkL D S addr (f + 1) c left = [] := walk_stop (step_none1 h)
    rw [hE, List.append_nil] at hW
    exact ⟨.drop (Keep.appL l (.drop .refl)), hW⟩
  cases hM : mayC c with
  | false =>
    obtain ⟨hk, hW'⟩ := hstop (F := []) fun h => by have h1 := h.1; rw [hM] at h1; cases h1
    repeat (first | (show OpsS _ _ _ _ _ _ (_ :: _) _ _ _; first | refine ozq ?_ | refine ozs ?_ | refine ozs0 ?_ | refine ozt ?_ | refine ozf ?_ | refine t_hu rfl rfl rfl rfl rfl rfl ?_ | refine ozn ?_) | refine c_seq ?_ | refine p_then ?_ | refine c_region ?_ | refine s_nil ?_ | refine c_cond_t rfl ?_ | refine c_cond_f rfl ?_ | refine c_block ?_ | refine c_skip ?_ | refine c_exit ?_ | refine p_block ?_ | refine p_then_exit ?_ | refine p_block_here ?_ | refine p_block_on rfl ?_ | refine c_ret ?_ | refine p_then_ret ?_ | refine p_block_ret ?_ | refine p_end ?_ | refine c_if_t rfl (by omega) ?_ | refine c_if_f rfl (by omega) ?_)
    exact k_ret [] rfl hk (by (repeat (first | apply ResS.nil | (apply rs_tmp; (· rfl)) | (apply rs_cell1; (· rfl); (· ((repeat (first | with_reducible apply List.mem_cons_self | with_reducible apply List.mem_cons_of_mem)); try with_reducible assumption)); (· rfl)) | (apply rs_cellA; (· rfl); (· ((repeat (first | with_reducible apply List.mem_cons_self | with_reducible apply List.mem_cons_of_mem)); try with_reducible assumption)); (· (repeat (first | with_reducible apply LSub.done | with_reducible apply LSub.take | with_reducible apply LSub.drop))))))) ⟨l, rfl, .inl ⟨pre, hW'.symm, hI⟩⟩
  | true =>
  by_cases hk2 : c.kind = 2
  case neg =>
    obtain ⟨hk, hW'⟩ := hstop (F := []) fun h => hk2 h.2.1
    repeat (first | (show OpsS _ _ _ _ _ _ (_ :: _) _ _ _; first | refine ozq ?_ | refine ozs ?_ | refine ozs0 ?_ | refine ozt ?_ | refine ozf ?_ | refine t_hu rfl rfl rfl rfl rfl rfl ?_ | refine ozn ?_) | refine c_seq ?_ | refine p_then ?_ | refine c_region ?_ | refine s_nil ?_ | refine c_cond_t rfl ?_ | refine c_cond_f rfl ?_ | refine c_block ?_ | refine c_skip ?_ | refine c_exit ?_ | refine p_block ?_ | refine p_then_exit ?_ | refine p_block_here ?_ | refine p_block_on rfl ?_ | refine c_ret ?_ | refine p_then_ret ?_ | refine p_block_ret ?_ | refine p_end ?_ | refine c_if_t rfl (by omega) ?_ | refine c_if_f rfl (by omega) ?_)
    exact k_ret [] rfl hk (by (repeat (first | apply ResS.nil | (apply rs_tmp; (· rfl)) | (apply rs_cell1; (· rfl); (· ((repeat (first | with_reducible apply List.mem_cons_self | with_reducible apply List.mem_cons_of_mem)); try with_reducible assumption)); (· rfl)) | (apply rs_cellA; (· rfl); (· ((repeat (first | with_reducible apply List.mem_cons_self | with_reducible apply List.mem_cons_of_mem)); try with_reducible assumption)); (· (repeat (first | with_reducible apply LSub.done | with_reducible apply LSub.take | with_reducible apply LSub.drop))))))) ⟨l, rfl, .inl ⟨pre, hW'.symm, hI⟩⟩
  cases hokb : ok with
  | false =>
    obtain ⟨hk, hW'⟩ := hstop (F := []) fun h => by have h1 := h.2.2.1; rw [hok, hokb] at h1; cases h1
    repeat (first | (show OpsS _ _ _ _ _ _ (_ :: _) _ _ _; first | refine ozq ?_ | refine ozs ?_ | refine ozs0 ?_ | refine ozt ?_ | refine ozf ?_ | refine t_hu rfl rfl rfl rfl rfl rfl ?_ | refine ozn ?_) | refine c_seq ?_ | refine p_then ?_ | refine c_region ?_ | refine s_nil ?_ | refine c_cond_t rfl ?_ | refine c_cond_f rfl ?_ | refine c_block ?_ | refine c_skip ?_ | refine c_exit ?_ | refine p_block ?_ | refine p_then_exit ?_ | refine p_block_here ?_ | refine p_block_on rfl ?_ | refine c_ret ?_ | refine p_then_ret ?_ | refine p_block_ret ?_ | refine p_end ?_ | refine c_if_t rfl (by omega) ?_ | refine c_if_f rfl (by omega) ?_)
    exact k_ret [] rfl hk (by (repeat (first | apply ResS.nil | (apply rs_tmp; (· rfl)) | (apply rs_cell1; (· rfl); (· ((repeat (first | with_reducible apply List.mem_cons_self | with_reducible apply List.mem_cons_of_mem)); try with_reducible assumption)); (· rfl)) | (apply rs_cellA; (· rfl); (· ((repeat (first | with_reducible apply List.mem_cons_self | with_reducible apply List.mem_cons_of_mem)); try with_reducible assumption)); (· (repeat (first | with_reducible apply LSub.done | with_reducible apply LSub.take | with_reducible apply LSub.drop))))))) ⟨l, rfl, .inl ⟨pre, hW'.symm, hI⟩⟩
  | true =>
  rw [hokb] at hok
  by_cases hkd : o.kd = 2
  case neg =>
    obtain ⟨hk, hW'⟩ := hstop (F := []) fun h => hkd (by rw [← hoA]; exact h.2.2.2.1)
    repeat (first | (show OpsS _ _ _ _ _ _ (_ :: _) _ _ _; first | refine ozq ?_ | refine ozs ?_ | refine ozs0 ?_ | refine ozt ?_ | refine ozf ?_ | refine t_hu rfl rfl rfl rfl rfl rfl ?_ | refine ozn ?_) | refine c_seq ?_ | refine p_then ?_ | refine c_region ?_ | refine s_nil ?_ | refine c_cond_t rfl ?_ | refine c_cond_f rfl ?_ | refine c_block ?_ | refine c_skip ?_ | refine c_exit ?_ | refine p_block ?_ | refine p_then_exit ?_ | refine p_block_here ?_ | refine p_block_on rfl ?_ | refine c_ret ?_ | refine p_then_ret ?_ | refine p_block_ret ?_ | refine p_end ?_ | refine c_if_t rfl (by omega) ?_ | refine c_if_f rfl (by omega) ?_)
    exact k_ret [] rfl hk (by (repeat (first | apply ResS.nil | (apply rs_tmp; (· rfl)) | (apply rs_cell1; (· rfl); (· ((repeat (first | with_reducible apply List.mem_cons_self | with_reducible apply List.mem_cons_of_mem)); try with_reducible assumption)); (· rfl)) | (apply rs_cellA; (· rfl); (· ((repeat (first | with_reducible apply List.mem_cons_self | with_reducible apply List.mem_cons_of_mem)); try with_reducible assumption)); (· (repeat (first | with_reducible apply LSub.done | with_reducible apply LSub.take | with_reducible apply LSub.drop))))))) ⟨l, rfl, .inl ⟨pre, hW'.symm, hI⟩⟩
  obtain ⟨bt0, bt1, gd0, _⟩ := node_bits hM hk2
  obtain ⟨sz1, sz2⟩ : 1 ≤ o.sz ∧ o.sz ≤ 4 := by rw [← ho] at hkd ⊢; exact hR _ (get_mem hok).1 hkd
  by_cases hbl : c.bits + o.sz > left
  · obtain ⟨hk, hW'⟩ := hstop (F := []) fun h => by have := h.2.2.2.2; rw [hoA] at this; omega
    repeat (first | (show OpsS _ _ _ _ _ _ (_ :: _) _ _ _; first | refine ozq ?_ | refine ozs ?_ | refine ozs0 ?_ | refine ozt ?_ | refine ozf ?_ | refine t_hu rfl rfl rfl rfl rfl rfl ?_ | refine ozn ?_) | refine c_seq ?_ | refine p_then ?_ | refine c_region ?_ | refine s_nil ?_ | refine c_cond_t rfl ?_ | refine c_cond_f rfl ?_ | refine c_block ?_ | refine c_skip ?_ | refine c_exit ?_ | refine p_block ?_ | refine p_then_exit ?_ | refine p_block_here ?_ | refine p_block_on rfl ?_ | refine c_ret ?_ | refine p_then_ret ?_ | refine p_block_ret ?_ | refine p_end ?_ | refine c_if_t rfl (by omega) ?_ | refine c_if_f rfl (by omega) ?_)
    exact k_ret [] rfl hk (by (repeat (first | apply ResS.nil | (apply rs_tmp; (· rfl)) | (apply rs_cell1; (· rfl); (· ((repeat (first | with_reducible apply List.mem_cons_self | with_reducible apply List.mem_cons_of_mem)); try with_reducible assumption)); (· rfl)) | (apply rs_cellA; (· rfl); (· ((repeat (first | with_reducible apply List.mem_cons_self | with_reducible apply List.mem_cons_of_mem)); try with_reducible assumption)); (· (repeat (first | with_reducible apply LSub.done | with_reducible apply LSub.take | with_reducible apply LSub.drop))))))) ⟨l, rfl, .inl ⟨pre, hW'.symm, hI⟩⟩
  have hgo : goes S c left := ⟨hM, hk2, hok, by rw [hoA]; exact hkd, by rw [hoA]; omega⟩
  clear hstop
  repeat (first | (show OpsS _ _ _ _ _ _ (_ :: _) _ _ _; first | refine ozq ?_ | refine ozs ?_ | refine ozs0 ?_ | refine ozt ?_ | refine ozf ?_ | refine t_hu rfl rfl rfl rfl rfl rfl ?_ | refine ozn ?_) | refine c_seq ?_ | refine p_then ?_ | refine c_region ?_ | refine s_nil ?_ | refine c_cond_t rfl ?_ | refine c_cond_f rfl ?_ | refine c_block ?_ | refine c_skip ?_ | refine c_exit ?_ | refine p_block ?_ | refine p_then_exit ?_ | refine p_block_here ?_ | refine p_block_on rfl ?_ | refine c_ret ?_ | refine p_then_ret ?_ | refine p_block_ret ?_ | refine p_end ?_ | refine c_if_t rfl (by omega) ?_ | refine c_if_f rfl (by omega) ?_)
  obtain ⟨p1, p2, p3, p4, p5, p6⟩ := goes_facts hR hgo
  obtain ⟨x, hx⟩ : ∃ x, slotN S addr c left = x := ⟨_, rfl⟩
  have hx1 : x.1 = o.id := by rw [← hx]; unfold slotN; rw [hoA]
  have hx2 : x.2 = (fieldN addr (leftN S c left).toNat o.sz.toNat : Nat) := by rw [← hx]; unfold slotN; rw [hoA]
  have hlN : leftN S c left = left - (c.bits + o.sz) := by unfold leftN; rw [hoA]
  have hf16 : fieldN addr (leftN S c left).toNat o.sz.toNat < 16 := field_16 (by omega)
  by_cases hb : c.bits > 0
  case' pos =>
    have hgF : ((guF addr c left : Nat) : Int) = (fieldN addr (left - c.bits).toNat c.bits.toNat : Nat) := by unfold guF; rw [if_pos hb]
    repeat (first | (show OpsS _ _ _ _ _ _ (_ :: _) _ _ _; first | refine ozq ?_ | refine ozs ?_ | refine ozs0 ?_ | refine ozt ?_ | refine ozf ?_ | refine t_hu rfl rfl rfl rfl rfl rfl ?_ | refine ozn ?_) | refine c_seq ?_ | refine p_then ?_ | refine c_region ?_ | refine s_nil ?_ | refine c_cond_t rfl ?_ | refine c_cond_f rfl ?_ | refine c_block ?_ | refine c_skip ?_ | refine c_exit ?_ | refine p_block ?_ | refine p_then_exit ?_ | refine p_block_here ?_ | refine p_block_on rfl ?_ | refine c_ret ?_ | refine p_then_ret ?_ | refine p_block_ret ?_ | refine p_end ?_ | refine c_if_t rfl (by omega) ?_ | refine c_if_f rfl (by omega) ?_)
    refine t_q (q_call rfl rfl fun l2 _ => field_int addr haddr (left - c.bits) c.bits (by omega) (by omega) (by omega) (by omega) l2) rfl rfl rfl ?_
    rw [← hgF]
    repeat (first | (show OpsS _ _ _ _ _ _ (_ :: _) _ _ _; first | refine ozq ?_ | refine ozs ?_ | refine ozs0 ?_ | refine ozt ?_ | refine ozf ?_ | refine t_hu rfl rfl rfl rfl rfl rfl ?_ | refine ozn ?_) | refine c_seq ?_ | refine p_then ?_ | refine c_region ?_ | refine s_nil ?_ | refine c_cond_t rfl ?_ | refine c_cond_f rfl ?_ | refine c_block ?_ | refine c_skip ?_ | refine c_exit ?_ | refine p_block ?_ | refine p_then_exit ?_ | refine p_block_here ?_ | refine p_block_on rfl ?_ | refine c_ret ?_ | refine p_then_ret ?_ | refine p_block_ret ?_ | refine p_end ?_ | refine c_if_t rfl (by omega) ?_ | refine c_if_f rfl (by omega) ?_)
  case' neg =>
    have hgF : ((guF addr c left : Nat) : Int) = 0 := by unfold guF; rw [if_neg hb]; rfl
    repeat (first | (show OpsS _ _ _ _ _ _ (_ :: _) _ _ _; first | refine ozq ?_ | refine ozs ?_ | refine ozs0 ?_ | refine ozt ?_ | refine ozf ?_ | refine t_hu rfl rfl rfl rfl rfl rfl ?_ | refine ozn ?_) | refine c_seq ?_ | refine p_then ?_ | refine c_region ?_ | refine s_nil ?_ | refine c_cond_t rfl ?_ | refine c_cond_f rfl ?_ | refine c_block ?_ | refine c_skip ?_ | refine c_exit ?_ | refine p_block ?_ | refine p_then_exit ?_ | refine p_block_here ?_ | refine p_block_on rfl ?_ | refine c_ret ?_ | refine p_then_ret ?_ | refine p_block_ret ?_ | refine p_end ?_ | refine c_if_t rfl (by omega) ?_ | refine c_if_f rfl (by omega) ?_)
  all_goals
    refine t_q (q_call rfl rfl fun l2 _ => field_int addr haddr (left - (c.bits + o.sz)) o.sz (by omega) (by omega) (by omega) (by omega) l2) rfl rfl rfl ?_
    rw [← hlN, ← hx2]
    repeat (first | (show OpsS _ _ _ _ _ _ (_ :: _) _ _ _; first | refine ozq ?_ | refine ozs ?_ | refine ozs0 ?_ | refine ozt ?_ | refine ozf ?_ | refine t_hu rfl rfl rfl rfl rfl rfl ?_ | refine ozn ?_) | refine c_seq ?_ | refine p_then ?_ | refine c_region ?_ | refine s_nil ?_ | refine c_cond_t rfl ?_ | refine c_cond_f rfl ?_ | refine c_block ?_ | refine c_skip ?_ | refine c_exit ?_ | refine p_block ?_ | refine p_then_exit ?_ | refine p_block_here ?_ | refine p_block_on rfl ?_ | refine c_ret ?_ | refine p_then_ret ?_ | refine p_block_ret ?_ | refine p_end ?_ | refine c_if_t rfl (by omega) ?_ | refine c_if_f rfl (by omega) ?_)
    refine t_e e_alloc rfl rfl rfl ?_; rintro _ _ ⟨b14, _, rfl, rfl⟩
    repeat (first | (show OpsS _ _ _ _ _ _ (_ :: _) _ _ _; first | refine ozq ?_ | refine ozs ?_ | refine ozs0 ?_ | refine ozt ?_ | refine ozf ?_ | refine t_hu rfl rfl rfl rfl rfl rfl ?_ | refine ozn ?_) | refine c_seq ?_ | refine p_then ?_ | refine c_region ?_ | refine s_nil ?_ | refine c_cond_t rfl ?_ | refine c_cond_f rfl ?_ | refine c_block ?_ | refine c_skip ?_ | refine c_exit ?_ | refine p_block ?_ | refine p_then_exit ?_ | refine p_block_here ?_ | refine p_block_on rfl ?_ | refine c_ret ?_ | refine p_then_ret ?_ | refine p_block_ret ?_ | refine p_end ?_ | refine c_if_t rfl (by omega) ?_ | refine c_if_f rfl (by omega) ?_)
    have HG : ∀ l2, (∀ z, z ∈ lq → z ∈ l2) → Fn Try.prog 49 [.pointer (some ⟨bs, 0, none⟩), .agg (List.toArray [.int .i64 o.id, .int .i64 x.2])] l2 fun v l' => v = .tuple #[.agg (List.toArray (encC (getD' D x).1)), .int .i64 (getD' D x).2] ∧ l' = l2 := fun l2 h => by
      rw [← hx1]; exact get_any bs D lq hq x l2 h
    refine t_q (q_call rfl rfl fun l2 hl => HG l2 fun z hz => hl z (.tail _ (.tail _ (n2 z hz)))) rfl rfl rfl ?_
    obtain ⟨nx, hnx⟩ : ∃ nx, (getD' D x).1 = nx := ⟨_, rfl⟩
    obtain ⟨er, her⟩ : ∃ er, (getD' D x).2 = er := ⟨_, rfl⟩
    rw [hnx, her]
    repeat (first | (show OpsS _ _ _ _ _ _ (_ :: _) _ _ _; first | refine ozq ?_ | refine ozs ?_ | refine ozs0 ?_ | refine ozt ?_ | refine ozf ?_ | refine t_hu rfl rfl rfl rfl rfl rfl ?_ | refine ozn ?_) | refine c_seq ?_ | refine p_then ?_ | refine c_region ?_ | refine s_nil ?_ | refine c_cond_t rfl ?_ | refine c_cond_f rfl ?_ | refine c_block ?_ | refine c_skip ?_ | refine c_exit ?_ | refine p_block ?_ | refine p_then_exit ?_ | refine p_block_here ?_ | refine p_block_on rfl ?_ | refine c_ret ?_ | refine p_then_ret ?_ | refine p_block_ret ?_ | refine p_end ?_ | refine c_if_t rfl (by omega) ?_ | refine c_if_f rfl (by omega) ?_)
    refine t_e e_alloc rfl rfl rfl ?_; rintro _ _ ⟨b15, _, rfl, rfl⟩
    have m7b := List.mem_cons_of_mem (slC b14 (o.id, x.2)) m7'
    repeat (first | (show OpsS _ _ _ _ _ _ (_ :: _) _ _ _; first | refine ozq ?_ | refine ozs ?_ | refine ozs0 ?_ | refine ozt ?_ | refine ozf ?_ | refine t_hu rfl rfl rfl rfl rfl rfl ?_ | refine ozn ?_) | refine c_seq ?_ | refine p_then ?_ | refine c_region ?_ | refine s_nil ?_ | refine c_cond_t rfl ?_ | refine c_cond_f rfl ?_ | refine c_block ?_ | refine c_skip ?_ | refine c_exit ?_ | refine p_block ?_ | refine p_then_exit ?_ | refine p_block_here ?_ | refine p_block_on rfl ?_ | refine c_ret ?_ | refine p_then_ret ?_ | refine p_block_ret ?_ | refine p_end ?_ | refine c_if_t rfl (by omega) ?_ | refine c_if_f rfl (by omega) ?_)
    refine t_q (q_conv_w rfl) rfl rfl rfl ?_
    rw [u64V_wrap]
    have hK : Keep (capC b15 nx :: slC b14 (o.id, x.2) :: Ar.obK b9 o :: (l ++ (capC b7 c :: G))) (l ++ G) := .drop (.drop (.drop (Keep.appL l (.drop .refl))))
    by_cases hg : guF addr c left = u64V c.guard
    case neg =>
      have hE : walkL D S addr (f + 1) c left = [] := walk_stop (step_none2 fun h => hg h.1)
      rw [hE, List.append_nil] at hW
      repeat (first | (show OpsS _ _ _ _ _ _ (_ :: _) _ _ _; first | refine ozq ?_ | refine ozs ?_ | refine ozs0 ?_ | refine ozt ?_ | refine ozf ?_ | refine t_hu rfl rfl rfl rfl rfl rfl ?_ | refine ozn ?_) | refine c_seq ?_ | refine p_then ?_ | refine c_region ?_ | refine s_nil ?_ | refine c_cond_t rfl ?_ | refine c_cond_f rfl ?_ | refine c_block ?_ | refine c_skip ?_ | refine c_exit ?_ | refine p_block ?_ | refine p_then_exit ?_ | refine p_block_here ?_ | refine p_block_on rfl ?_ | refine c_ret ?_ | refine p_then_ret ?_ | refine p_block_ret ?_ | refine p_end ?_ | refine c_if_t rfl (by omega) ?_ | refine c_if_f rfl (by omega) ?_)
      exact k_ret [] rfl hK (by (repeat (first | apply ResS.nil | (apply rs_tmp; (· rfl)) | (apply rs_cell1; (· rfl); (· ((repeat (first | with_reducible apply List.mem_cons_self | with_reducible apply List.mem_cons_of_mem)); try with_reducible assumption)); (· rfl)) | (apply rs_cellA; (· rfl); (· ((repeat (first | with_reducible apply List.mem_cons_self | with_reducible apply List.mem_cons_of_mem)); try with_reducible assumption)); (· (repeat (first | with_reducible apply LSub.done | with_reducible apply LSub.take | with_reducible apply LSub.drop))))))) ⟨l, rfl, .inl ⟨pre, hW.symm, hI⟩⟩
    by_cases he0 : er = 0
    case neg =>
      have hE : walkL D S addr (f + 1) c left = [] := walk_stop (step_none2 fun h => he0 (by rw [← her, ← hx]; exact h.2))
      rw [hE, List.append_nil] at hW
      repeat (first | (show OpsS _ _ _ _ _ _ (_ :: _) _ _ _; first | refine ozq ?_ | refine ozs ?_ | refine ozs0 ?_ | refine ozt ?_ | refine ozf ?_ | refine t_hu rfl rfl rfl rfl rfl rfl ?_ | refine ozn ?_) | refine c_seq ?_ | refine p_then ?_ | refine c_region ?_ | refine s_nil ?_ | refine c_cond_t rfl ?_ | refine c_cond_f rfl ?_ | refine c_block ?_ | refine c_skip ?_ | refine c_exit ?_ | refine p_block ?_ | refine p_then_exit ?_ | refine p_block_here ?_ | refine p_block_on rfl ?_ | refine c_ret ?_ | refine p_then_ret ?_ | refine p_block_ret ?_ | refine p_end ?_ | refine c_if_t rfl (by omega) ?_ | refine c_if_f rfl (by omega) ?_)
      exact k_ret [] rfl hK (by (repeat (first | apply ResS.nil | (apply rs_tmp; (· rfl)) | (apply rs_cell1; (· rfl); (· ((repeat (first | with_reducible apply List.mem_cons_self | with_reducible apply List.mem_cons_of_mem)); try with_reducible assumption)); (· rfl)) | (apply rs_cellA; (· rfl); (· ((repeat (first | with_reducible apply List.mem_cons_self | with_reducible apply List.mem_cons_of_mem)); try with_reducible assumption)); (· (repeat (first | with_reducible apply LSub.done | with_reducible apply LSub.take | with_reducible apply LSub.drop))))))) ⟨l, rfl, .inl ⟨pre, hW.symm, hI⟩⟩
    have hst : stepD D S addr c left = some ((x, leftN S c left), nx) := by
      rw [step_some hgo ⟨hg, by rw [hx, her, he0]⟩, hx, hnx]
    have hE : walkL D S addr (f + 1) c left = (x, leftN S c left) :: walkL D S addr f nx (leftN S c left) := walk_on hl0 hst
    rw [hE] at hW
    have hpre : pre ++ [(x, leftN S c left)] <+: walkL D S addr 13 root depth := by
      rw [hW]; exact ⟨walkL D S addr f nx (leftN S c left), by simp⟩
    have hy := hY pre (x, leftN S c left) l (capC b15 nx :: slC b14 (o.id, x.2) :: Ar.obK b9 o :: capC b7 c :: G) (fun z hz => .tail _ (.tail _ (.tail _ (.tail _ (hG z hz))))) hI hpre
    rw [show encS (x, leftN S c left) = [.int .i64 o.id, .int .i64 x.2, .int .i64 (leftN S c left)] by rw [← hx1]] at hy
    repeat (first | (show OpsS _ _ _ _ _ _ (_ :: _) _ _ _; first | refine ozq ?_ | refine ozs ?_ | refine ozs0 ?_ | refine ozt ?_ | refine ozf ?_ | refine t_hu rfl rfl rfl rfl rfl rfl ?_ | refine ozn ?_) | refine c_seq ?_ | refine p_then ?_ | refine c_region ?_ | refine s_nil ?_ | refine c_cond_t rfl ?_ | refine c_cond_f rfl ?_ | refine c_block ?_ | refine c_skip ?_ | refine c_exit ?_ | refine p_block ?_ | refine p_then_exit ?_ | refine p_block_here ?_ | refine p_block_on rfl ?_ | refine c_ret ?_ | refine p_then_ret ?_ | refine p_block_ret ?_ | refine p_end ?_ | refine c_if_t rfl (by omega) ?_ | refine c_if_f rfl (by omega) ?_)
    refine s_keep (Keep.in_mid [capC b15 nx, slC b14 (o.id, x.2), Ar.obK b9 o] l (capC b7 c :: G)) ?_
    refine t_eh (e_yield rfl rfl hy) rfl rfl rfl ?_
    rintro w l' ⟨l1, rfl, ⟨rfl, hI'⟩ | ⟨rfl, hx⟩⟩
    case' inr =>
      repeat (first | (show OpsS _ _ _ _ _ _ (_ :: _) _ _ _; first | refine ozq ?_ | refine ozs ?_ | refine ozs0 ?_ | refine ozt ?_ | refine ozf ?_ | refine t_hu rfl rfl rfl rfl rfl rfl ?_ | refine ozn ?_) | refine c_seq ?_ | refine p_then ?_ | refine c_region ?_ | refine s_nil ?_ | refine c_cond_t rfl ?_ | refine c_cond_f rfl ?_ | refine c_block ?_ | refine c_skip ?_ | refine c_exit ?_ | refine p_block ?_ | refine p_then_exit ?_ | refine p_block_here ?_ | refine p_block_on rfl ?_ | refine c_ret ?_ | refine p_then_ret ?_ | refine p_block_ret ?_ | refine p_end ?_ | refine c_if_t rfl (by omega) ?_ | refine c_if_f rfl (by omega) ?_)
      exact k_ret [] rfl (Keep.appL l1 (.drop (.drop (.drop (.drop .refl))))) (by (repeat (first | apply ResS.nil | (apply rs_tmp; (· rfl)) | (apply rs_cell1; (· rfl); (· ((repeat (first | with_reducible apply List.mem_cons_self | with_reducible apply List.mem_cons_of_mem)); try with_reducible assumption)); (· rfl)) | (apply rs_cellA; (· rfl); (· ((repeat (first | with_reducible apply List.mem_cons_self | with_reducible apply List.mem_cons_of_mem)); try with_reducible assumption)); (· (repeat (first | with_reducible apply LSub.done | with_reducible apply LSub.take | with_reducible apply LSub.drop))))))) ⟨l1, rfl, .inr ⟨_, hpre, hx⟩⟩
    all_goals
      have q15 : capC b15 nx ∈ l1 ++ (capC b15 nx :: slC b14 (o.id, x.2) :: Ar.obK b9 o :: capC b7 c :: G) := List.mem_append_right _ (.head _)
      repeat (first | (show OpsS _ _ _ _ _ _ (_ :: _) _ _ _; first | refine ozq ?_ | refine ozs ?_ | refine ozs0 ?_ | refine ozt ?_ | refine ozf ?_ | refine t_hu rfl rfl rfl rfl rfl rfl ?_ | refine ozn ?_) | refine c_seq ?_ | refine p_then ?_ | refine c_region ?_ | refine s_nil ?_ | refine c_cond_t rfl ?_ | refine c_cond_f rfl ?_ | refine c_block ?_ | refine c_skip ?_ | refine c_exit ?_ | refine p_block ?_ | refine p_then_exit ?_ | refine p_block_here ?_ | refine p_block_on rfl ?_ | refine c_ret ?_ | refine p_then_ret ?_ | refine p_block_ret ?_ | refine p_end ?_ | refine c_if_t rfl (by omega) ?_ | refine c_if_f rfl (by omega) ?_)
      apply t_n
      · exact e_storeA (b := b7) (off := 0) (cs := List.toArray (encC c)) (ws := List.toArray (encC nx)) (n := 8) (l' := l1 ++ (capC b15 nx :: slC b14 (o.id, x.2) :: Ar.obK b9 o :: capC b7 nx :: G)) rfl rfl rfl (by simp [Value.oneCell']) (by rw [set_cap]; exact upd_pre (.there (.there (.there .here))) l1) (by simp)
      · rfl
      · rfl
      rintro _ _ ⟨rfl, rfl⟩
      repeat (first | (show OpsS _ _ _ _ _ _ (_ :: _) _ _ _; first | refine ozq ?_ | refine ozs ?_ | refine ozs0 ?_ | refine ozt ?_ | refine ozf ?_ | refine t_hu rfl rfl rfl rfl rfl rfl ?_ | refine ozn ?_) | refine c_seq ?_ | refine p_then ?_ | refine c_region ?_ | refine s_nil ?_ | refine c_cond_t rfl ?_ | refine c_cond_f rfl ?_ | refine c_block ?_ | refine c_skip ?_ | refine c_exit ?_ | refine p_block ?_ | refine p_then_exit ?_ | refine p_block_here ?_ | refine p_block_on rfl ?_ | refine c_ret ?_ | refine p_then_ret ?_ | refine p_block_ret ?_ | refine p_end ?_ | refine c_if_t rfl (by omega) ?_ | refine c_if_f rfl (by omega) ?_)
      refine k_next (nx, leftN S c left, pre ++ [(x, leftN S c left)], f, l1) ⟨hI', ?_, ?_, ?_⟩ ?_ ⟨rfl, rfl, rfl, rfl, rfl, rfl, trivial⟩ (Keep.appL l1 (.drop (.drop (.drop .refl))))
      · rw [hW]; simp
      · simp only; omega
      · simp only; omega
      · simp only; omega
end Go.Proofs.Ytdbdbhlhdcidpaa
