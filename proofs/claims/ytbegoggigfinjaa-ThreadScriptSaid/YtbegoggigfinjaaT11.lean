/- Chapter 20's own answer. -/
import Derived.Test.YtbegoggigfinjaaU0
import Derived.Test.YtbegoggigfinjaaT10
import Derived.Test.YtbegoggigfinjaaT9
set_option linter.unusedVariables false
set_option linter.unusedSimpArgs false
namespace Go.Proofs.Ytbegoggigfinjaa
open Go.RowKit

abbrev rxC (b : Nat) (v : Value) : Chunk := (b, .cells #[v] 44 (0, 0))
def IsRX (b : Nat) (L : TL) (lr : List Chunk) : Prop := ∃ v cs, lr = rxC b v :: cs ∧ OwnSl 33 24 v L.length (thcs L) cs
theorem IsRX.view {b : Nat} {L : TL} {lr l : List Chunk} (h : IsRX b L lr) (hs : ∀ c, c ∈ lr → c ∈ l) : ∃ p cap, rxC b (.slice p L.length cap) ∈ l ∧ RowSl l (.slice p L.length cap) 24 encH L ∧ (0 < L.length → ∃ bB off xs t fz, p = some ⟨bB, off, none⟩ ∧ (bB, Obj.cells xs t fz) ∈ l ∧ ∀ i x, L[i]? = some x → xs[off + i * 24]? = some (.int .i64 x.id) ∧ xs[off + i * 24 + 9]? = some (.int .i64 x.ca) ∧ off + i * 24 + 24 ≤ xs.size ∧ xs.extract (off + i * 24) (off + i * 24 + 24) = List.toArray (encH x)) := by
  obtain ⟨v, cs, rfl, ho⟩ := h
  have hSN := ho.ths (l := l) fun c hc => hs c (.tail _ hc)
  have hSN0 := hSN
  obtain ⟨p, cap, rfl, hR⟩ := hSN
  refine ⟨p, cap, hs _ (.head _), hSN0, fun h0 => ?_⟩
  obtain ⟨bB, off, xs, t, fz, h1, h2, h3⟩ := hR h0
  refine ⟨bB, off, xs, t, fz, h1, h2, fun i x hx => ?_⟩
  obtain ⟨g1, g2⟩ := h3 i x hx
  exact ⟨by have := ext_get (j := 0) g2 g1 (by omega); simpa using this, by have := ext_get (j := 9) g2 g1 (by omega); simpa using this, g1, g2⟩
def idxH (L : TL) (a : Int) : Int := if (findH L a).isSome = true then ((L.takeWhile fun t => decide (t.id ≠ a)).length : Nat) else -1
theorem idx_of {L : TL} {a : Int} {t : ThT} (h : findH L a = some t) : ∃ A B, L = A ++ t :: B ∧ idxH L a = (A.length : Nat) ∧ t.id = a ∧ (∀ x, x ∈ A → x.id ≠ a) ∧ L[A.length]? = some t := by
  obtain ⟨h1, A, B, rfl, h2⟩ := List.find?_eq_some_iff_append.1 h
  have ht : t.id = a := by simpa using h1
  have hA : ∀ x, x ∈ A → x.id ≠ a := fun x hx => by simpa using h2 x hx
  refine ⟨A, B, rfl, ?_, ht, hA, by rw [List.getElem?_append_right (Nat.le_refl _), Nat.sub_self]; rfl⟩
  unfold idxH
  rw [h, List.takeWhile_append_of_pos fun x hx => by simpa using hA x hx, List.takeWhile_cons_of_neg (by simpa using ht), List.append_nil]; rfl
theorem idx_neg {L : TL} {a : Int} (h : findH L a = none) : idxH L a = -1 := by unfold idxH; rw [h]; rfl
theorem idx_hit {L : TL} {a : Int} {k : Nat} {x : ThT} (hx : L[k]? = some x) (hs : x.id = a) (hn : ∀ j y, j < k → L[j]? = some y → y.id ≠ a) : idxH L a = (k : Nat) := by
  have hk := (List.getElem?_eq_some_iff.1 hx).1
  have hL : L = L.take k ++ x :: L.drop (k + 1) := by
    have h1 := List.take_append_drop k L
    rw [List.drop_eq_getElem_cons hk] at h1
    have h2 : L[k] = x := by rw [List.getElem?_eq_getElem hk] at hx; exact Option.some.inj hx
    rw [h2] at h1; exact h1.symm
  have hA : ∀ y, y ∈ L.take k → y.id ≠ a := fun y hy => by
    obtain ⟨j, hj⟩ := List.mem_iff_getElem?.1 hy
    rw [List.getElem?_take] at hj
    split at hj
    · exact hn j y (by assumption) hj
    · cases hj
  have hf : findH L a = some x := by
    unfold findH
    rw [hL, find_append, List.find?_eq_none.2 fun y hy => by simpa using hA y hy, Option.none_or, List.find?_cons, decide_eq_true hs]
  unfold idxH
  rw [hf]
  have : L.takeWhile (fun t => decide (t.id ≠ a)) = L.take k := by
    conv => lhs; rw [hL]
    rw [List.takeWhile_append_of_pos fun y hy => by simpa using hA y hy, List.takeWhile_cons_of_neg (by simpa using hs), List.append_nil]
  rw [this, List.length_take, Nat.min_eq_left (Nat.le_of_lt hk)]; rfl
set_option pp.deepTerms false
set_option pp.deepTerms.threshold 4
set_option maxHeartbeats 400000
theorem rmay_any (t : ThT) (l : List Chunk) : Fn Try.prog 18 [thV t] l fun v l' => v = .bool (mayH t) ∧ l' = l := by
  refine fn_of_body Try.func18 rfl rfl fun E => ?_
  simp only [argF, Try.ntmps18]
  repeat (first | (show OpsS _ _ _ _ _ _ (_ :: _) _ _ _; first | refine ozq ?_ | refine ozs ?_ | refine ozs0 ?_ | refine ozt ?_ | refine ozf ?_) | refine c_seq ?_ | refine p_then ?_ | refine c_region ?_ | refine s_nil ?_ | refine c_ret ?_ | refine p_then_ret ?_ | refine p_end ?_)
  (first | refine t_e (e_box1 rfl rfl) rfl rfl rfl ?_ | refine t_e (e_boxA rfl) rfl rfl rfl ?_); rintro _ _ ⟨b, _, rfl, rfl⟩
  by_cases h0 : 1 ≤ t.id
  case neg =>
    have e : mayH t = false := by unfold mayH; rw [decide_eq_false h0]; simp
    rw [e]
    repeat (first | (show OpsS _ _ _ _ _ _ (_ :: _) _ _ _; first | refine ozq ?_ | refine ozs ?_ | refine ozs0 ?_ | refine ozt ?_ | refine ozf ?_) | refine c_seq ?_ | refine p_then ?_ | refine c_region ?_ | refine s_nil ?_ | refine c_ret ?_ | refine p_then_ret ?_ | refine p_end ?_)
    exact k_ret [] rfl (.drop .refl) (by (repeat (first | apply ResS.nil | (apply rs_tmp; (· rfl)) | (apply rs_cell1; (· rfl); (· ((repeat (first | with_reducible apply List.mem_cons_self | with_reducible apply List.mem_cons_of_mem)); try with_reducible assumption)); (· rfl)) | (apply rs_cellA; (· rfl); (· ((repeat (first | with_reducible apply List.mem_cons_self | with_reducible apply List.mem_cons_of_mem)); try with_reducible assumption)); (· (repeat (first | with_reducible apply LSub.done | with_reducible apply LSub.take | with_reducible apply LSub.drop))))))) ⟨rfl, rfl⟩
  by_cases h1 : 0 ≤ t.st
  case neg =>
    have e : mayH t = false := by unfold mayH; rw [decide_eq_false h1]; simp
    rw [e]
    repeat (first | (show OpsS _ _ _ _ _ _ (_ :: _) _ _ _; first | refine ozq ?_ | refine ozs ?_ | refine ozs0 ?_ | refine ozt ?_ | refine ozf ?_) | refine c_seq ?_ | refine p_then ?_ | refine c_region ?_ | refine s_nil ?_ | refine c_ret ?_ | refine p_then_ret ?_ | refine p_end ?_)
    exact k_ret [] rfl (.drop .refl) (by (repeat (first | apply ResS.nil | (apply rs_tmp; (· rfl)) | (apply rs_cell1; (· rfl); (· ((repeat (first | with_reducible apply List.mem_cons_self | with_reducible apply List.mem_cons_of_mem)); try with_reducible assumption)); (· rfl)) | (apply rs_cellA; (· rfl); (· ((repeat (first | with_reducible apply List.mem_cons_self | with_reducible apply List.mem_cons_of_mem)); try with_reducible assumption)); (· (repeat (first | with_reducible apply LSub.done | with_reducible apply LSub.take | with_reducible apply LSub.drop))))))) ⟨rfl, rfl⟩
  by_cases h2 : t.st ≤ 4
  case neg =>
    have e : mayH t = false := by unfold mayH; rw [decide_eq_false h2]; simp
    rw [e]
    repeat (first | (show OpsS _ _ _ _ _ _ (_ :: _) _ _ _; first | refine ozq ?_ | refine ozs ?_ | refine ozs0 ?_ | refine ozt ?_ | refine ozf ?_) | refine c_seq ?_ | refine p_then ?_ | refine c_region ?_ | refine s_nil ?_ | refine c_ret ?_ | refine p_then_ret ?_ | refine p_end ?_)
    exact k_ret [] rfl (.drop .refl) (by (repeat (first | apply ResS.nil | (apply rs_tmp; (· rfl)) | (apply rs_cell1; (· rfl); (· ((repeat (first | with_reducible apply List.mem_cons_self | with_reducible apply List.mem_cons_of_mem)); try with_reducible assumption)); (· rfl)) | (apply rs_cellA; (· rfl); (· ((repeat (first | with_reducible apply List.mem_cons_self | with_reducible apply List.mem_cons_of_mem)); try with_reducible assumption)); (· (repeat (first | with_reducible apply LSub.done | with_reducible apply LSub.take | with_reducible apply LSub.drop))))))) ⟨rfl, rfl⟩
  by_cases h3 : 0 ≤ t.pr
  case neg =>
    have e : mayH t = false := by unfold mayH; rw [decide_eq_false h3]; simp
    rw [e]
    repeat (first | (show OpsS _ _ _ _ _ _ (_ :: _) _ _ _; first | refine ozq ?_ | refine ozs ?_ | refine ozs0 ?_ | refine ozt ?_ | refine ozf ?_) | refine c_seq ?_ | refine p_then ?_ | refine c_region ?_ | refine s_nil ?_ | refine c_ret ?_ | refine p_then_ret ?_ | refine p_end ?_)
    exact k_ret [] rfl (.drop .refl) (by (repeat (first | apply ResS.nil | (apply rs_tmp; (· rfl)) | (apply rs_cell1; (· rfl); (· ((repeat (first | with_reducible apply List.mem_cons_self | with_reducible apply List.mem_cons_of_mem)); try with_reducible assumption)); (· rfl)) | (apply rs_cellA; (· rfl); (· ((repeat (first | with_reducible apply List.mem_cons_self | with_reducible apply List.mem_cons_of_mem)); try with_reducible assumption)); (· (repeat (first | with_reducible apply LSub.done | with_reducible apply LSub.take | with_reducible apply LSub.drop))))))) ⟨rfl, rfl⟩
  by_cases h4 : t.pr ≤ 7
  case neg =>
    have e : mayH t = false := by unfold mayH; rw [decide_eq_false h4]; simp
    rw [e]
    repeat (first | (show OpsS _ _ _ _ _ _ (_ :: _) _ _ _; first | refine ozq ?_ | refine ozs ?_ | refine ozs0 ?_ | refine ozt ?_ | refine ozf ?_) | refine c_seq ?_ | refine p_then ?_ | refine c_region ?_ | refine s_nil ?_ | refine c_ret ?_ | refine p_then_ret ?_ | refine p_end ?_)
    exact k_ret [] rfl (.drop .refl) (by (repeat (first | apply ResS.nil | (apply rs_tmp; (· rfl)) | (apply rs_cell1; (· rfl); (· ((repeat (first | with_reducible apply List.mem_cons_self | with_reducible apply List.mem_cons_of_mem)); try with_reducible assumption)); (· rfl)) | (apply rs_cellA; (· rfl); (· ((repeat (first | with_reducible apply List.mem_cons_self | with_reducible apply List.mem_cons_of_mem)); try with_reducible assumption)); (· (repeat (first | with_reducible apply LSub.done | with_reducible apply LSub.take | with_reducible apply LSub.drop))))))) ⟨rfl, rfl⟩
  by_cases h5 : 0 ≤ t.ca
  case neg =>
    have e : mayH t = false := by unfold mayH; rw [decide_eq_false h5]; simp
    rw [e]
    repeat (first | (show OpsS _ _ _ _ _ _ (_ :: _) _ _ _; first | refine ozq ?_ | refine ozs ?_ | refine ozs0 ?_ | refine ozt ?_ | refine ozf ?_) | refine c_seq ?_ | refine p_then ?_ | refine c_region ?_ | refine s_nil ?_ | refine c_ret ?_ | refine p_then_ret ?_ | refine p_end ?_)
    exact k_ret [] rfl (.drop .refl) (by (repeat (first | apply ResS.nil | (apply rs_tmp; (· rfl)) | (apply rs_cell1; (· rfl); (· ((repeat (first | with_reducible apply List.mem_cons_self | with_reducible apply List.mem_cons_of_mem)); try with_reducible assumption)); (· rfl)) | (apply rs_cellA; (· rfl); (· ((repeat (first | with_reducible apply List.mem_cons_self | with_reducible apply List.mem_cons_of_mem)); try with_reducible assumption)); (· (repeat (first | with_reducible apply LSub.done | with_reducible apply LSub.take | with_reducible apply LSub.drop))))))) ⟨rfl, rfl⟩
  by_cases h6 : 0 ≤ t.wa
  case neg =>
    have e : mayH t = false := by unfold mayH; rw [decide_eq_false h6]; simp
    rw [e]
    repeat (first | (show OpsS _ _ _ _ _ _ (_ :: _) _ _ _; first | refine ozq ?_ | refine ozs ?_ | refine ozs0 ?_ | refine ozt ?_ | refine ozf ?_) | refine c_seq ?_ | refine p_then ?_ | refine c_region ?_ | refine s_nil ?_ | refine c_ret ?_ | refine p_then_ret ?_ | refine p_end ?_)
    exact k_ret [] rfl (.drop .refl) (by (repeat (first | apply ResS.nil | (apply rs_tmp; (· rfl)) | (apply rs_cell1; (· rfl); (· ((repeat (first | with_reducible apply List.mem_cons_self | with_reducible apply List.mem_cons_of_mem)); try with_reducible assumption)); (· rfl)) | (apply rs_cellA; (· rfl); (· ((repeat (first | with_reducible apply List.mem_cons_self | with_reducible apply List.mem_cons_of_mem)); try with_reducible assumption)); (· (repeat (first | with_reducible apply LSub.done | with_reducible apply LSub.take | with_reducible apply LSub.drop))))))) ⟨rfl, rfl⟩
  by_cases h7 : 0 ≤ t.gv
  case neg =>
    have e : mayH t = false := by unfold mayH; rw [decide_eq_false h7]; simp
    rw [e]
    repeat (first | (show OpsS _ _ _ _ _ _ (_ :: _) _ _ _; first | refine ozq ?_ | refine ozs ?_ | refine ozs0 ?_ | refine ozt ?_ | refine ozf ?_) | refine c_seq ?_ | refine p_then ?_ | refine c_region ?_ | refine s_nil ?_ | refine c_ret ?_ | refine p_then_ret ?_ | refine p_end ?_)
    exact k_ret [] rfl (.drop .refl) (by (repeat (first | apply ResS.nil | (apply rs_tmp; (· rfl)) | (apply rs_cell1; (· rfl); (· ((repeat (first | with_reducible apply List.mem_cons_self | with_reducible apply List.mem_cons_of_mem)); try with_reducible assumption)); (· rfl)) | (apply rs_cellA; (· rfl); (· ((repeat (first | with_reducible apply List.mem_cons_self | with_reducible apply List.mem_cons_of_mem)); try with_reducible assumption)); (· (repeat (first | with_reducible apply LSub.done | with_reducible apply LSub.take | with_reducible apply LSub.drop))))))) ⟨rfl, rfl⟩
  by_cases h8 : t.gv ≤ 4096
  case neg =>
    have e : mayH t = false := by unfold mayH; rw [decide_eq_false h8]; simp
    rw [e]
    repeat (first | (show OpsS _ _ _ _ _ _ (_ :: _) _ _ _; first | refine ozq ?_ | refine ozs ?_ | refine ozs0 ?_ | refine ozt ?_ | refine ozf ?_) | refine c_seq ?_ | refine p_then ?_ | refine c_region ?_ | refine s_nil ?_ | refine c_ret ?_ | refine p_then_ret ?_ | refine p_end ?_)
    exact k_ret [] rfl (.drop .refl) (by (repeat (first | apply ResS.nil | (apply rs_tmp; (· rfl)) | (apply rs_cell1; (· rfl); (· ((repeat (first | with_reducible apply List.mem_cons_self | with_reducible apply List.mem_cons_of_mem)); try with_reducible assumption)); (· rfl)) | (apply rs_cellA; (· rfl); (· ((repeat (first | with_reducible apply List.mem_cons_self | with_reducible apply List.mem_cons_of_mem)); try with_reducible assumption)); (· (repeat (first | with_reducible apply LSub.done | with_reducible apply LSub.take | with_reducible apply LSub.drop))))))) ⟨rfl, rfl⟩
  by_cases h9 : 0 ≤ t.inn
  case neg =>
    have e : mayH t = false := by unfold mayH; rw [decide_eq_false h9]; simp
    rw [e]
    repeat (first | (show OpsS _ _ _ _ _ _ (_ :: _) _ _ _; first | refine ozq ?_ | refine ozs ?_ | refine ozs0 ?_ | refine ozt ?_ | refine ozf ?_) | refine c_seq ?_ | refine p_then ?_ | refine c_region ?_ | refine s_nil ?_ | refine c_ret ?_ | refine p_then_ret ?_ | refine p_end ?_)
    exact k_ret [] rfl (.drop .refl) (by (repeat (first | apply ResS.nil | (apply rs_tmp; (· rfl)) | (apply rs_cell1; (· rfl); (· ((repeat (first | with_reducible apply List.mem_cons_self | with_reducible apply List.mem_cons_of_mem)); try with_reducible assumption)); (· rfl)) | (apply rs_cellA; (· rfl); (· ((repeat (first | with_reducible apply List.mem_cons_self | with_reducible apply List.mem_cons_of_mem)); try with_reducible assumption)); (· (repeat (first | with_reducible apply LSub.done | with_reducible apply LSub.take | with_reducible apply LSub.drop))))))) ⟨rfl, rfl⟩
  have e : mayH t = decide (t.inn ≤ 4096) := by unfold mayH; rw [decide_eq_true h0, decide_eq_true h1, decide_eq_true h2, decide_eq_true h3, decide_eq_true h4, decide_eq_true h5, decide_eq_true h6, decide_eq_true h7, decide_eq_true h8, decide_eq_true h9]; simp
  rw [e]
  repeat (first | (show OpsS _ _ _ _ _ _ (_ :: _) _ _ _; first | refine ozq ?_ | refine ozs ?_ | refine ozs0 ?_ | refine ozt ?_ | refine ozf ?_) | refine c_seq ?_ | refine p_then ?_ | refine c_region ?_ | refine s_nil ?_ | refine c_ret ?_ | refine p_then_ret ?_ | refine p_end ?_)
  exact k_ret [] rfl (.drop .refl) (by (repeat (first | apply ResS.nil | (apply rs_tmp; (· rfl)) | (apply rs_cell1; (· rfl); (· ((repeat (first | with_reducible apply List.mem_cons_self | with_reducible apply List.mem_cons_of_mem)); try with_reducible assumption)); (· rfl)) | (apply rs_cellA; (· rfl); (· ((repeat (first | with_reducible apply List.mem_cons_self | with_reducible apply List.mem_cons_of_mem)); try with_reducible assumption)); (· (repeat (first | with_reducible apply LSub.done | with_reducible apply LSub.take | with_reducible apply LSub.drop))))))) ⟨rfl, rfl⟩
theorem rat_any (b : Nat) (L : TL) (lr : List Chunk) (hr : IsRX b L lr) (hn : L.length ≤ 900000) (a : Int) (l : List Chunk) (hsub : ∀ c, c ∈ lr → c ∈ l) :
    Fn Try.prog 27 [.pointer (some ⟨b, 0, none⟩), .int .i64 a] l fun v l' => v = .int .i64 (idxH L a) ∧ l' = l := by
  obtain ⟨p, cap, hm, _, hR⟩ := hr.view hsub
  refine fn_of_body Try.func27 rfl rfl fun E => ?_
  simp only [argF, Try.ntmps27]
  repeat (first | (show OpsS _ _ _ _ _ _ (_ :: _) _ _ _; first | refine ozq ?_) | refine c_seq ?_ | refine p_then ?_ | refine c_region ?_ | refine s_nil ?_ | refine c_cond_t rfl ?_ | refine c_cond_f rfl ?_ | refine c_block ?_ | refine c_skip ?_ | refine c_exit ?_ | refine p_block ?_ | refine p_then_exit ?_ | refine p_block_here ?_ | refine p_block_on rfl ?_ | refine c_ret ?_ | refine p_then_ret ?_ | refine p_block_ret ?_ | refine p_end ?_ | refine c_if_t rfl (by omega) ?_ | refine c_if_f rfl (by omega) ?_)
  refine k_loop (α := Nat) (fun k => [(0, .pointer (some ⟨b, 0, none⟩)), (1, .int .i64 a), (5, .int .i64 k)]) (fun _ => l) (fun k => k ≤ L.length ∧ ∀ j y, j < k → L[j]? = some y → y.id ≠ a) (fun k => L.length - k) 0 ⟨Nat.zero_le _, fun j y h => by omega⟩ ⟨rfl, rfl, rfl, trivial⟩ .refl ?_
  rintro k ⟨hk, hj⟩
  by_cases hlt : k < L.length
  · obtain ⟨bB, off, xs, t, fz, rfl, hmr, hc⟩ := hR (by omega)
    obtain ⟨x, hx⟩ : ∃ x, L[k]? = some x := ⟨_, List.getElem?_eq_getElem hlt⟩
    obtain ⟨g0, _⟩ := hc k x hx
    repeat (first | (show OpsS _ _ _ _ _ _ (_ :: _) _ _ _; first | refine ozq ?_) | refine c_seq ?_ | refine p_then ?_ | refine c_region ?_ | refine s_nil ?_ | refine c_cond_t rfl ?_ | refine c_cond_f rfl ?_ | refine c_block ?_ | refine c_skip ?_ | refine c_exit ?_ | refine p_block ?_ | refine p_then_exit ?_ | refine p_block_here ?_ | refine p_block_on rfl ?_ | refine c_ret ?_ | refine p_then_ret ?_ | refine p_block_ret ?_ | refine p_end ?_ | refine c_if_t rfl (by omega) ?_ | refine c_if_f rfl (by omega) ?_)
    by_cases hxs : x.id = a
    · rw [idx_hit hx hxs hj]
      repeat (first | (show OpsS _ _ _ _ _ _ (_ :: _) _ _ _; first | refine ozq ?_) | refine c_seq ?_ | refine p_then ?_ | refine c_region ?_ | refine s_nil ?_ | refine c_cond_t rfl ?_ | refine c_cond_f rfl ?_ | refine c_block ?_ | refine c_skip ?_ | refine c_exit ?_ | refine p_block ?_ | refine p_then_exit ?_ | refine p_block_here ?_ | refine p_block_on rfl ?_ | refine c_ret ?_ | refine p_then_ret ?_ | refine p_block_ret ?_ | refine p_end ?_ | refine c_if_t rfl (by omega) ?_ | refine c_if_f rfl (by omega) ?_)
      exact k_ret [] rfl .refl (by (repeat (first | apply ResS.nil | (apply rs_tmp; (· rfl)) | (apply rs_cell1; (· rfl); (· ((repeat (first | with_reducible apply List.mem_cons_self | with_reducible apply List.mem_cons_of_mem)); try with_reducible assumption)); (· rfl)) | (apply rs_cellA; (· rfl); (· ((repeat (first | with_reducible apply List.mem_cons_self | with_reducible apply List.mem_cons_of_mem)); try with_reducible assumption)); (· (repeat (first | with_reducible apply LSub.done | with_reducible apply LSub.take | with_reducible apply LSub.drop))))))) ⟨rfl, rfl⟩
    · repeat (first | (show OpsS _ _ _ _ _ _ (_ :: _) _ _ _; first | refine ozq ?_) | refine c_seq ?_ | refine p_then ?_ | refine c_region ?_ | refine s_nil ?_ | refine c_cond_t rfl ?_ | refine c_cond_f rfl ?_ | refine c_block ?_ | refine c_skip ?_ | refine c_exit ?_ | refine p_block ?_ | refine p_then_exit ?_ | refine p_block_here ?_ | refine p_block_on rfl ?_ | refine c_ret ?_ | refine p_then_ret ?_ | refine p_block_ret ?_ | refine p_end ?_ | refine c_if_t rfl (by omega) ?_ | refine c_if_f rfl (by omega) ?_)
      refine k_next (k + 1) ⟨by omega, fun j y h1 h2 => ?_⟩ (by omega) ⟨rfl, rfl, rfl, trivial⟩ .refl
      by_cases e : j = k
      · rw [e, hx] at h2; cases h2; exact hxs
      · exact hj j y (by omega) h2
  · obtain rfl : k = L.length := by omega
    rw [idx_neg (findH_none.2 fun y hy => by
      obtain ⟨j, hjy⟩ := List.mem_iff_getElem?.1 hy
      exact hj j y (List.getElem?_eq_some_iff.1 hjy).1 hjy)]
    repeat (first | (show OpsS _ _ _ _ _ _ (_ :: _) _ _ _; first | refine ozq ?_) | refine c_seq ?_ | refine p_then ?_ | refine c_region ?_ | refine s_nil ?_ | refine c_cond_t rfl ?_ | refine c_cond_f rfl ?_ | refine c_block ?_ | refine c_skip ?_ | refine c_exit ?_ | refine p_block ?_ | refine p_then_exit ?_ | refine p_block_here ?_ | refine p_block_on rfl ?_ | refine c_ret ?_ | refine p_then_ret ?_ | refine p_block_ret ?_ | refine p_end ?_ | refine c_if_t rfl (by omega) ?_ | refine c_if_f rfl (by omega) ?_)
    exact k_ret [] rfl .refl (by (repeat (first | apply ResS.nil | (apply rs_tmp; (· rfl)) | (apply rs_cell1; (· rfl); (· ((repeat (first | with_reducible apply List.mem_cons_self | with_reducible apply List.mem_cons_of_mem)); try with_reducible assumption)); (· rfl)) | (apply rs_cellA; (· rfl); (· ((repeat (first | with_reducible apply List.mem_cons_self | with_reducible apply List.mem_cons_of_mem)); try with_reducible assumption)); (· (repeat (first | with_reducible apply LSub.done | with_reducible apply LSub.take | with_reducible apply LSub.drop))))))) ⟨rfl, rfl⟩
theorem rget_any (b : Nat) (L : TL) (lr : List Chunk) (hr : IsRX b L lr) (hn : L.length ≤ 900000) (a : Int) (l : List Chunk) (hsub : ∀ c, c ∈ lr → c ∈ l) :
    Fn Try.prog 20 [.pointer (some ⟨b, 0, none⟩), .int .i64 a] l fun v l' => v = .tuple #[thV ((findH L a).getD thZ), .bool (findH L a).isSome] ∧ l' = l := by
  obtain ⟨p, cap, hm, _, hR⟩ := hr.view hsub
  refine fn_of_body Try.func20 rfl rfl fun E => ?_
  simp only [argF, Try.ntmps20]
  repeat (first | (show OpsS _ _ _ _ _ _ (_ :: _) _ _ _; first | refine ozq ?_ | refine ozn ?_) | refine c_seq ?_ | refine p_then ?_ | refine c_region ?_ | refine s_nil ?_ | refine c_cond_t rfl ?_ | refine c_cond_f rfl ?_ | refine c_skip ?_ | refine c_ret ?_ | refine p_then_ret ?_ | refine p_end ?_ | refine c_if_t rfl (by omega) ?_ | refine c_if_f rfl (by omega) ?_)
  refine t_e e_alloc rfl rfl rfl ?_; rintro _ _ ⟨b4, _, rfl, rfl⟩
  repeat (first | (show OpsS _ _ _ _ _ _ (_ :: _) _ _ _; first | refine ozq ?_ | refine ozn ?_) | refine c_seq ?_ | refine p_then ?_ | refine c_region ?_ | refine s_nil ?_ | refine c_cond_t rfl ?_ | refine c_cond_f rfl ?_ | refine c_skip ?_ | refine c_ret ?_ | refine p_then_ret ?_ | refine p_end ?_ | refine c_if_t rfl (by omega) ?_ | refine c_if_f rfl (by omega) ?_)
  refine t_q (q_call rfl rfl fun l2 hl => rat_any b L lr hr hn a l2 fun c hc => hl c (.tail _ (hsub c hc))) rfl rfl rfl ?_
  cases hf : findH L a with
  | none =>
    rw [idx_neg hf]
    repeat (first | (show OpsS _ _ _ _ _ _ (_ :: _) _ _ _; first | refine ozq ?_ | refine ozn ?_) | refine c_seq ?_ | refine p_then ?_ | refine c_region ?_ | refine s_nil ?_ | refine c_cond_t rfl ?_ | refine c_cond_f rfl ?_ | refine c_skip ?_ | refine c_ret ?_ | refine p_then_ret ?_ | refine p_end ?_ | refine c_if_t rfl (by omega) ?_ | refine c_if_f rfl (by omega) ?_)
    exact k_ret2 [] (thC b4 thZ :: l) rfl (l' := l) .refl (by (repeat (first | apply ResS.nil | (apply rs_tmp; (· rfl)) | (apply rs_cell1; (· rfl); (· ((repeat (first | with_reducible apply List.mem_cons_self | with_reducible apply List.mem_cons_of_mem)); try with_reducible assumption)); (· rfl)) | (apply rs_cellA; (· rfl); (· ((repeat (first | with_reducible apply List.mem_cons_self | with_reducible apply List.mem_cons_of_mem)); try with_reducible assumption)); (· (repeat (first | with_reducible apply LSub.done | with_reducible apply LSub.take | with_reducible apply LSub.drop))))))) (.drop .refl) ⟨rfl, rfl⟩
  | some t =>
    obtain ⟨A, B, hL, hi, ht, hA, hAt⟩ := idx_of hf
    have hlA : A.length < L.length := (List.getElem?_eq_some_iff.1 hAt).1
    rw [hi]
    obtain ⟨bB, off, xs, ty, fz, rfl, hmr, hc⟩ := hR (by omega)
    obtain ⟨_, _, g1, g2⟩ := hc _ t hAt
    repeat (first | (show OpsS _ _ _ _ _ _ (_ :: _) _ _ _; first | refine ozq ?_ | refine ozn ?_) | refine c_seq ?_ | refine p_then ?_ | refine c_region ?_ | refine s_nil ?_ | refine c_cond_t rfl ?_ | refine c_cond_f rfl ?_ | refine c_skip ?_ | refine c_ret ?_ | refine p_then_ret ?_ | refine p_end ?_ | refine c_if_t rfl (by omega) ?_ | refine c_if_f rfl (by omega) ?_)
    refine t_q (q_loadA rfl (.tail _ hmr) g1 g2) rfl rfl rfl ?_
    repeat (first | (show OpsS _ _ _ _ _ _ (_ :: _) _ _ _; first | refine ozq ?_ | refine ozn ?_) | refine c_seq ?_ | refine p_then ?_ | refine c_region ?_ | refine s_nil ?_ | refine c_cond_t rfl ?_ | refine c_cond_f rfl ?_ | refine c_skip ?_ | refine c_ret ?_ | refine p_then_ret ?_ | refine p_end ?_ | refine c_if_t rfl (by omega) ?_ | refine c_if_f rfl (by omega) ?_)
    exact k_ret2 [] (thC b4 t :: l) rfl (l' := l) .refl (by (repeat (first | apply ResS.nil | (apply rs_tmp; (· rfl)) | (apply rs_cell1; (· rfl); (· ((repeat (first | with_reducible apply List.mem_cons_self | with_reducible apply List.mem_cons_of_mem)); try with_reducible assumption)); (· rfl)) | (apply rs_cellA; (· rfl); (· ((repeat (first | with_reducible apply List.mem_cons_self | with_reducible apply List.mem_cons_of_mem)); try with_reducible assumption)); (· (repeat (first | with_reducible apply LSub.done | with_reducible apply LSub.take | with_reducible apply LSub.drop))))))) (.drop .refl) ⟨rfl, rfl⟩
theorem rserver_any (b : Nat) (L : TL) (lr : List Chunk) (hr : IsRX b L lr) (hn : L.length ≤ 900000) (a : Int) (l : List Chunk) (hsub : ∀ c, c ∈ lr → c ∈ l) :
    Fn Try.prog 22 [.pointer (some ⟨b, 0, none⟩), .int .i64 a] l fun v l' => v = .int .i64 (serverD L a) ∧ l' = l := by
  obtain ⟨p, cap, hm, _, hR⟩ := hr.view hsub
  refine fn_of_body Try.func22 rfl rfl fun E => ?_
  simp only [argF, Try.ntmps22]
  repeat (first | (show OpsS _ _ _ _ _ _ (_ :: _) _ _ _; first | refine ozq ?_ | refine ozs ?_ | refine ozs0 ?_ | refine ozt ?_ | refine ozf ?_) | refine c_seq ?_ | refine p_then ?_ | refine c_region ?_ | refine s_nil ?_ | refine c_cond_t rfl ?_ | refine c_cond_f rfl ?_ | refine c_block ?_ | refine c_skip ?_ | refine c_exit ?_ | refine p_block ?_ | refine p_then_exit ?_ | refine p_block_here ?_ | refine p_block_on rfl ?_ | refine c_ret ?_ | refine p_then_ret ?_ | refine p_block_ret ?_ | refine p_end ?_ | refine c_if_t rfl (by omega) ?_ | refine c_if_f rfl (by omega) ?_)
  refine k_loop (α := Nat) (fun k => [(0, .pointer (some ⟨b, 0, none⟩)), (1, .int .i64 a), (5, .int .i64 k)]) (fun _ => l) (fun k => k ≤ L.length ∧ ∀ x, x ∈ L.take k → ¬ (a ≠ 0 ∧ x.ca = a)) (fun k => L.length - k) 0 ⟨Nat.zero_le _, by simp⟩ ⟨rfl, rfl, rfl, trivial⟩ .refl ?_
  rintro k ⟨hk, hj⟩
  by_cases hlt : k < L.length
  · obtain ⟨bB, off, xs, t, fz, rfl, hmr, hc⟩ := hR (by omega)
    obtain ⟨x, hx⟩ : ∃ x, L[k]? = some x := ⟨_, List.getElem?_eq_getElem hlt⟩
    obtain ⟨g0, g9, _⟩ := hc k x hx
    have htk : L.take (k + 1) = L.take k ++ [x] := by rw [List.take_add_one, hx]; rfl
    repeat (first | (show OpsS _ _ _ _ _ _ (_ :: _) _ _ _; first | refine ozq ?_ | refine ozs ?_ | refine ozs0 ?_ | refine ozt ?_ | refine ozf ?_) | refine c_seq ?_ | refine p_then ?_ | refine c_region ?_ | refine s_nil ?_ | refine c_cond_t rfl ?_ | refine c_cond_f rfl ?_ | refine c_block ?_ | refine c_skip ?_ | refine c_exit ?_ | refine p_block ?_ | refine p_then_exit ?_ | refine p_block_here ?_ | refine p_block_on rfl ?_ | refine c_ret ?_ | refine p_then_ret ?_ | refine p_block_ret ?_ | refine p_end ?_ | refine c_if_t rfl (by omega) ?_ | refine c_if_f rfl (by omega) ?_)
    by_cases ha0 : a = 0
    · repeat (first | (show OpsS _ _ _ _ _ _ (_ :: _) _ _ _; first | refine ozq ?_ | refine ozs ?_ | refine ozs0 ?_ | refine ozt ?_ | refine ozf ?_) | refine c_seq ?_ | refine p_then ?_ | refine c_region ?_ | refine s_nil ?_ | refine c_cond_t rfl ?_ | refine c_cond_f rfl ?_ | refine c_block ?_ | refine c_skip ?_ | refine c_exit ?_ | refine p_block ?_ | refine p_then_exit ?_ | refine p_block_here ?_ | refine p_block_on rfl ?_ | refine c_ret ?_ | refine p_then_ret ?_ | refine p_block_ret ?_ | refine p_end ?_ | refine c_if_t rfl (by omega) ?_ | refine c_if_f rfl (by omega) ?_)
      exact k_next (k + 1) ⟨by omega, fun y hy h => h.1 ha0⟩ (by omega) ⟨rfl, rfl, rfl, trivial⟩ .refl
    by_cases hxs : x.ca = a
    · rw [serv_pos (by rw [← htk]; exact List.take_prefix _ _) ha0 (fun y hy h => hj y hy ⟨ha0, h⟩) hxs]
      repeat (first | (show OpsS _ _ _ _ _ _ (_ :: _) _ _ _; first | refine ozq ?_ | refine ozs ?_ | refine ozs0 ?_ | refine ozt ?_ | refine ozf ?_) | refine c_seq ?_ | refine p_then ?_ | refine c_region ?_ | refine s_nil ?_ | refine c_cond_t rfl ?_ | refine c_cond_f rfl ?_ | refine c_block ?_ | refine c_skip ?_ | refine c_exit ?_ | refine p_block ?_ | refine p_then_exit ?_ | refine p_block_here ?_ | refine p_block_on rfl ?_ | refine c_ret ?_ | refine p_then_ret ?_ | refine p_block_ret ?_ | refine p_end ?_ | refine c_if_t rfl (by omega) ?_ | refine c_if_f rfl (by omega) ?_)
      exact k_ret [] rfl .refl (by (repeat (first | apply ResS.nil | (apply rs_tmp; (· rfl)) | (apply rs_cell1; (· rfl); (· ((repeat (first | with_reducible apply List.mem_cons_self | with_reducible apply List.mem_cons_of_mem)); try with_reducible assumption)); (· rfl)) | (apply rs_cellA; (· rfl); (· ((repeat (first | with_reducible apply List.mem_cons_self | with_reducible apply List.mem_cons_of_mem)); try with_reducible assumption)); (· (repeat (first | with_reducible apply LSub.done | with_reducible apply LSub.take | with_reducible apply LSub.drop))))))) ⟨rfl, rfl⟩
    · repeat (first | (show OpsS _ _ _ _ _ _ (_ :: _) _ _ _; first | refine ozq ?_ | refine ozs ?_ | refine ozs0 ?_ | refine ozt ?_ | refine ozf ?_) | refine c_seq ?_ | refine p_then ?_ | refine c_region ?_ | refine s_nil ?_ | refine c_cond_t rfl ?_ | refine c_cond_f rfl ?_ | refine c_block ?_ | refine c_skip ?_ | refine c_exit ?_ | refine p_block ?_ | refine p_then_exit ?_ | refine p_block_here ?_ | refine p_block_on rfl ?_ | refine c_ret ?_ | refine p_then_ret ?_ | refine p_block_ret ?_ | refine p_end ?_ | refine c_if_t rfl (by omega) ?_ | refine c_if_f rfl (by omega) ?_)
      refine k_next (k + 1) ⟨by omega, fun y hy => ?_⟩ (by omega) ⟨rfl, rfl, rfl, trivial⟩ .refl
      rw [htk] at hy
      rcases List.mem_append.1 hy with hy | hy
      · exact hj y hy
      · rw [List.mem_singleton.1 hy]; exact fun h => hxs h.2
  · obtain rfl : k = L.length := by omega
    rw [List.take_length] at hj
    rw [serv_none hj]
    repeat (first | (show OpsS _ _ _ _ _ _ (_ :: _) _ _ _; first | refine ozq ?_ | refine ozs ?_ | refine ozs0 ?_ | refine ozt ?_ | refine ozf ?_) | refine c_seq ?_ | refine p_then ?_ | refine c_region ?_ | refine s_nil ?_ | refine c_cond_t rfl ?_ | refine c_cond_f rfl ?_ | refine c_block ?_ | refine c_skip ?_ | refine c_exit ?_ | refine p_block ?_ | refine p_then_exit ?_ | refine p_block_here ?_ | refine p_block_on rfl ?_ | refine c_ret ?_ | refine p_then_ret ?_ | refine p_block_ret ?_ | refine p_end ?_ | refine c_if_t rfl (by omega) ?_ | refine c_if_f rfl (by omega) ?_)
    exact k_ret [] rfl .refl (by (repeat (first | apply ResS.nil | (apply rs_tmp; (· rfl)) | (apply rs_cell1; (· rfl); (· ((repeat (first | with_reducible apply List.mem_cons_self | with_reducible apply List.mem_cons_of_mem)); try with_reducible assumption)); (· rfl)) | (apply rs_cellA; (· rfl); (· ((repeat (first | with_reducible apply List.mem_cons_self | with_reducible apply List.mem_cons_of_mem)); try with_reducible assumption)); (· (repeat (first | with_reducible apply LSub.done | with_reducible apply LSub.take | with_reducible apply LSub.drop))))))) ⟨rfl, rfl⟩
end Go.Proofs.Ytbegoggigfinjaa
