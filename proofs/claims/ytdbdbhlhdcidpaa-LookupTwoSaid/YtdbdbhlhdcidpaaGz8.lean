/- Chapter 15's own answer: the state; at, Size, Has, Get. Chapter 15's own answer: Set, Drop. Chapter 15's own answer: Add. Bits: or, and not; a field of a word. Laws of my own, no program's. Fields of a word. copy, cap, append of zeros, slices.overlaps. Laws of my own, no program's. Laws that the statement's proof leans on. -/
import Derived.Test.YtdbdbhlhdcidpaaGz4
import Derived.Test.YtdbdbhlhdcidpaaGz6
import Derived.Test.YtdbdbhlhdcidpaaGz7
import Derived.Lib.Overlaps
import Derived.Laws.CopyRow
/- Chapter 15's own answer: the state; at, Size, Has, Get. -/
set_option linter.unusedVariables false
set_option linter.unusedSimpArgs false
namespace Go.Proofs.Ytdbdbhlhdcidpaa
open Go.RowKit
set_option maxRecDepth 20000

section
variable {α : Type} {key : α → Int}
def idxK (key : α → Int) (L : List α) (a : Int) : Int := if (findK key L a).isSome = true then ((L.takeWhile fun t => decide (key t ≠ a)).length : Nat) else -1
theorem idx_of {L : List α} {a : Int} {t : α} (h : findK key L a = some t) : ∃ A B, L = A ++ t :: B ∧ idxK key L a = (A.length : Nat) ∧ key t = a ∧ (∀ x, x ∈ A → key x ≠ a) ∧ L[A.length]? = some t := by
  obtain ⟨A, B, rfl, ht, hA⟩ := find_split h
  refine ⟨A, B, rfl, ?_, ht, hA, by rw [List.getElem?_append_right (Nat.le_refl _), Nat.sub_self]; rfl⟩
  unfold idxK
  rw [h, List.takeWhile_append_of_pos fun x hx => by simpa using hA x hx, List.takeWhile_cons_of_neg (by simpa using ht), List.append_nil]; rfl
theorem idx_neg {L : List α} {a : Int} (h : findK key L a = none) : idxK key L a = -1 := by unfold idxK; rw [h]; rfl
theorem idx_hit {L : List α} {a : Int} {k : Nat} {x : α} (hx : L[k]? = some x) (hs : key x = a) (hn : ∀ j y, j < k → L[j]? = some y → key y ≠ a) : idxK key L a = (k : Nat) := by
  have hk := (List.getElem?_eq_some_iff.1 hx).1
  have hL : L = L.take k ++ x :: L.drop (k + 1) := by
    have h1 := List.take_append_drop k L
    rw [List.drop_eq_getElem_cons hk] at h1
    have h2 : L[k] = x := by rw [List.getElem?_eq_getElem hk] at hx; exact Option.some.inj hx
    rw [h2] at h1; exact h1.symm
  have hA : ∀ y, y ∈ L.take k → key y ≠ a := fun y hy => by
    obtain ⟨j, hj⟩ := List.mem_iff_getElem?.1 hy
    rw [List.getElem?_take] at hj
    split at hj
    · exact hn j y (by assumption) hj
    · cases hj
  have hf : findK key L a = some x := by
    unfold findK
    rw [hL, find_append, List.find?_eq_none.2 fun y hy => by simpa using hA y hy, Option.none_or, List.find?_cons, decide_eq_true hs]
  unfold idxK
  rw [hf]
  have : L.takeWhile (fun t => decide (key t ≠ a)) = L.take k := by
    conv => lhs; rw [hL]
    rw [List.takeWhile_append_of_pos fun y hy => by simpa using hA y hy, List.takeWhile_cons_of_neg (by simpa using hs), List.append_nil]
  rw [this, List.length_take, Nat.min_eq_left (Nat.le_of_lt hk)]; rfl
end
abbrev encN (nd : NdS) : List Value := [.int .i64 nd.id, nd.val]
def ncs (S : List NdS) : List Value := S.flatMap encN
abbrev rxC (b : Nat) (v : Value) : Chunk := (b, .cells #[v] 64 (0, 0))
structure RB (b : Nat) (S : List NdS) (v : Value) (cs lr : List Chunk) : Prop where
  eq : lr = rxC b v :: (cs ++ S.map NdS.blk)
  own : OwnSl 104 2 v S.length (ncs S) cs
  asc : S.Pairwise fun x y => x.id < y.id
  sz : ∀ nd, nd ∈ S → 0 < nd.C.length ∧ nd.C.length ≤ 16
def IsR (b : Nat) (D : SD) (lr : List Chunk) : Prop := ∃ S v cs, S.map NdS.d = D ∧ RB b S v cs lr
theorem RB.m1 {b : Nat} {S : List NdS} {v : Value} {cs lr : List Chunk} (h : RB b S v cs lr) : rxC b v ∈ lr := by rw [h.eq]; exact .head _
theorem RB.m2 {b : Nat} {S : List NdS} {v : Value} {cs lr : List Chunk} (h : RB b S v cs lr) {x : Chunk} (hx : x ∈ cs) : x ∈ lr := by rw [h.eq]; exact .tail _ (List.mem_append_left _ hx)
theorem RB.m3 {b : Nat} {S : List NdS} {v : Value} {cs lr : List Chunk} (h : RB b S v cs lr) {nd : NdS} (hn : nd ∈ S) : nd.blk ∈ lr := by rw [h.eq]; exact .tail _ (List.mem_append_right _ (List.mem_map.2 ⟨nd, hn, rfl⟩))
theorem ncs_at {xs : Array Value} {o : Nat} {nd : NdS} (h : xs.extract o (o + 2) = List.toArray (encN nd)) (hle : o + 2 ≤ xs.size) : xs[o]? = some (.int .i64 nd.id) ∧ xs[o + 1]? = some nd.val := by
  have e : ∀ j, j < 2 → xs[o + j]? = (encN nd)[j]? := fun j hj => by
    have e2 : (List.toArray (encN nd))[j]? = (encN nd)[j]? := by simp
    rw [← e2, ← h, Array.getElem?_extract, if_pos (by omega)]
  exact ⟨e 0 (by omega), e 1 (by omega)⟩
theorem RB.view {b : Nat} {S : List NdS} {v : Value} {cs lr l : List Chunk} (h : RB b S v cs lr) (hs : ∀ c, c ∈ lr → c ∈ l) : ∃ p cap, v = .slice p S.length cap ∧ rxC b (.slice p S.length cap) ∈ l ∧ (0 < S.length → ∃ bB off xs t fz, p = some ⟨bB, off, none⟩ ∧ (bB, Obj.cells xs t fz) ∈ l ∧ ∀ i x, S[i]? = some x → xs[off + i * 2]? = some (.int .i64 x.id) ∧ xs[off + i * 2 + 1]? = some x.val ∧ off + i * 2 + 2 ≤ xs.size ∧ xs.extract (off + i * 2) (off + i * 2 + 2) = List.toArray (encN x)) := by
  have hSN : RowSl l v 2 encN S := OwnSl.rowSl (enc := encN) h.own (fun _ => rfl) fun c hc => hs c (h.m2 hc)
  obtain ⟨p, cap, rfl, hR⟩ := hSN
  refine ⟨p, cap, rfl, hs _ h.m1, fun h0 => ?_⟩
  obtain ⟨bB, off, xs, t, fz, h1, h2, h3⟩ := hR h0
  refine ⟨bB, off, xs, t, fz, h1, h2, fun i x hx => ?_⟩
  obtain ⟨g1, g2⟩ := h3 i x hx
  obtain ⟨k1, k2⟩ := ncs_at g2 g1
  exact ⟨k1, k2, g1, g2⟩
set_option pp.deepTerms false
set_option pp.deepTerms.threshold 4
set_option maxHeartbeats 400000
theorem rat_any (b : Nat) (S : List NdS) (v : Value) (cs lr : List Chunk) (hr : RB b S v cs lr) (hn : S.length ≤ 900000) (a : Int) (l : List Chunk) (hsub : ∀ c, c ∈ lr → c ∈ l) :
    Fn Try.prog 42 [.pointer (some ⟨b, 0, none⟩), .int .i64 a] l fun v l' => v = .int .i64 (idxK NdS.id S a) ∧ l' = l := by
  obtain ⟨p, cap, rfl, hm, hR⟩ := hr.view hsub
  refine fn_of_body Try.func42 rfl rfl fun E => ?_
  simp only [argF, Try.ntmps42]
  repeat (first | (show OpsS _ _ _ _ _ _ (_ :: _) _ _ _; first | refine ozq ?_) | refine c_seq ?_ | refine p_then ?_ | refine c_region ?_ | refine s_nil ?_ | refine c_cond_t rfl ?_ | refine c_cond_f rfl ?_ | refine c_block ?_ | refine c_skip ?_ | refine c_exit ?_ | refine p_block ?_ | refine p_then_exit ?_ | refine p_block_here ?_ | refine p_block_on rfl ?_ | refine c_ret ?_ | refine p_then_ret ?_ | refine p_block_ret ?_ | refine p_end ?_ | refine c_if_t rfl (by omega) ?_ | refine c_if_f rfl (by omega) ?_)
  refine k_loop (α := Nat) (fun k => [(0, .pointer (some ⟨b, 0, none⟩)), (1, .int .i64 a), (5, .int .i64 k)]) (fun _ => l) (fun k => k ≤ S.length ∧ ∀ j y, j < k → S[j]? = some y → y.id ≠ a) (fun k => S.length - k) 0 ⟨Nat.zero_le _, fun j y h => by omega⟩ ⟨rfl, rfl, rfl, trivial⟩ .refl ?_
  rintro k ⟨hk, hj⟩
  by_cases hlt : k < S.length
  · obtain ⟨bB, off, xs, t, fz, rfl, hmr, hc⟩ := hR (by omega)
    obtain ⟨x, hx⟩ : ∃ x, S[k]? = some x := ⟨_, List.getElem?_eq_getElem hlt⟩
    obtain ⟨g0, _⟩ := hc k x hx
    repeat (first | (show OpsS _ _ _ _ _ _ (_ :: _) _ _ _; first | refine ozq ?_) | refine c_seq ?_ | refine p_then ?_ | refine c_region ?_ | refine s_nil ?_ | refine c_cond_t rfl ?_ | refine c_cond_f rfl ?_ | refine c_block ?_ | refine c_skip ?_ | refine c_exit ?_ | refine p_block ?_ | refine p_then_exit ?_ | refine p_block_here ?_ | refine p_block_on rfl ?_ | refine c_ret ?_ | refine p_then_ret ?_ | refine p_block_ret ?_ | refine p_end ?_ | refine c_if_t rfl (by omega) ?_ | refine c_if_f rfl (by omega) ?_)
    by_cases hxs : x.id = a
    · rw [idx_hit (key := NdS.id) hx hxs hj]
      repeat (first | (show OpsS _ _ _ _ _ _ (_ :: _) _ _ _; first | refine ozq ?_) | refine c_seq ?_ | refine p_then ?_ | refine c_region ?_ | refine s_nil ?_ | refine c_cond_t rfl ?_ | refine c_cond_f rfl ?_ | refine c_block ?_ | refine c_skip ?_ | refine c_exit ?_ | refine p_block ?_ | refine p_then_exit ?_ | refine p_block_here ?_ | refine p_block_on rfl ?_ | refine c_ret ?_ | refine p_then_ret ?_ | refine p_block_ret ?_ | refine p_end ?_ | refine c_if_t rfl (by omega) ?_ | refine c_if_f rfl (by omega) ?_)
      exact k_ret [] rfl .refl (by (repeat (first | apply ResS.nil | (apply rs_tmp; (· rfl)) | (apply rs_cell1; (· rfl); (· ((repeat (first | with_reducible apply List.mem_cons_self | with_reducible apply List.mem_cons_of_mem)); try with_reducible assumption)); (· rfl)) | (apply rs_cellA; (· rfl); (· ((repeat (first | with_reducible apply List.mem_cons_self | with_reducible apply List.mem_cons_of_mem)); try with_reducible assumption)); (· (repeat (first | with_reducible apply LSub.done | with_reducible apply LSub.take | with_reducible apply LSub.drop))))))) ⟨rfl, rfl⟩
    · repeat (first | (show OpsS _ _ _ _ _ _ (_ :: _) _ _ _; first | refine ozq ?_) | refine c_seq ?_ | refine p_then ?_ | refine c_region ?_ | refine s_nil ?_ | refine c_cond_t rfl ?_ | refine c_cond_f rfl ?_ | refine c_block ?_ | refine c_skip ?_ | refine c_exit ?_ | refine p_block ?_ | refine p_then_exit ?_ | refine p_block_here ?_ | refine p_block_on rfl ?_ | refine c_ret ?_ | refine p_then_ret ?_ | refine p_block_ret ?_ | refine p_end ?_ | refine c_if_t rfl (by omega) ?_ | refine c_if_f rfl (by omega) ?_)
      refine k_next (k + 1) ⟨by omega, fun j y h1 h2 => ?_⟩ (by omega) ⟨rfl, rfl, rfl, trivial⟩ .refl
      by_cases e : j = k
      · rw [e, hx] at h2; cases h2; exact hxs
      · exact hj j y (by omega) h2
  · obtain rfl : k = S.length := by omega
    rw [idx_neg (findK_none.2 fun y hy => by
      obtain ⟨j, hjy⟩ := List.mem_iff_getElem?.1 hy
      exact hj j y (List.getElem?_eq_some_iff.1 hjy).1 hjy)]
    repeat (first | (show OpsS _ _ _ _ _ _ (_ :: _) _ _ _; first | refine ozq ?_) | refine c_seq ?_ | refine p_then ?_ | refine c_region ?_ | refine s_nil ?_ | refine c_cond_t rfl ?_ | refine c_cond_f rfl ?_ | refine c_block ?_ | refine c_skip ?_ | refine c_exit ?_ | refine p_block ?_ | refine p_then_exit ?_ | refine p_block_here ?_ | refine p_block_on rfl ?_ | refine c_ret ?_ | refine p_then_ret ?_ | refine p_block_ret ?_ | refine p_end ?_ | refine c_if_t rfl (by omega) ?_ | refine c_if_f rfl (by omega) ?_)
    exact k_ret [] rfl .refl (by (repeat (first | apply ResS.nil | (apply rs_tmp; (· rfl)) | (apply rs_cell1; (· rfl); (· ((repeat (first | with_reducible apply List.mem_cons_self | with_reducible apply List.mem_cons_of_mem)); try with_reducible assumption)); (· rfl)) | (apply rs_cellA; (· rfl); (· ((repeat (first | with_reducible apply List.mem_cons_self | with_reducible apply List.mem_cons_of_mem)); try with_reducible assumption)); (· (repeat (first | with_reducible apply LSub.done | with_reducible apply LSub.take | with_reducible apply LSub.drop))))))) ⟨rfl, rfl⟩
theorem rsize_any (b : Nat) (D : SD) (lr : List Chunk) (hr : IsR b D lr) (hn : D.length ≤ 900000) (a : Int) (l : List Chunk) (hsub : ∀ c, c ∈ lr → c ∈ l) :
    Fn Try.prog 53 [.pointer (some ⟨b, 0, none⟩), .int .i64 a] l fun v l' => v = .int .i64 (sizeD D a) ∧ l' = l := by
  obtain ⟨S, v, cs, rfl, hS⟩ := hr
  have hn2 : S.length ≤ 900000 := by simpa using hn
  obtain ⟨p, cap, rfl, hm, hR⟩ := hS.view hsub
  refine fn_of_body Try.func53 rfl rfl fun E => ?_
  simp only [argF, Try.ntmps53]
  repeat (first | (show OpsS _ _ _ _ _ _ (_ :: _) _ _ _; first | refine ozq ?_) | refine c_seq ?_ | refine p_then ?_ | refine c_region ?_ | refine s_nil ?_ | refine c_cond_t rfl ?_ | refine c_cond_f rfl ?_ | refine c_skip ?_ | refine c_ret ?_ | refine p_then_ret ?_ | refine p_end ?_ | refine c_if_t rfl (by omega) ?_ | refine c_if_f rfl (by omega) ?_)
  refine t_q (q_call rfl rfl fun l2 hl => rat_any b S _ cs lr hS hn2 a l2 fun c hc => hl c (hsub c hc)) rfl rfl rfl ?_
  cases hf : findK NdS.id S a with
  | none =>
    rw [idx_neg hf, show sizeD (S.map NdS.d) a = 0 by unfold sizeD; rw [find_d, hf]; rfl]
    repeat (first | (show OpsS _ _ _ _ _ _ (_ :: _) _ _ _; first | refine ozq ?_) | refine c_seq ?_ | refine p_then ?_ | refine c_region ?_ | refine s_nil ?_ | refine c_cond_t rfl ?_ | refine c_cond_f rfl ?_ | refine c_skip ?_ | refine c_ret ?_ | refine p_then_ret ?_ | refine p_end ?_ | refine c_if_t rfl (by omega) ?_ | refine c_if_f rfl (by omega) ?_)
    exact k_ret [] rfl .refl (by (repeat (first | apply ResS.nil | (apply rs_tmp; (· rfl)) | (apply rs_cell1; (· rfl); (· ((repeat (first | with_reducible apply List.mem_cons_self | with_reducible apply List.mem_cons_of_mem)); try with_reducible assumption)); (· rfl)) | (apply rs_cellA; (· rfl); (· ((repeat (first | with_reducible apply List.mem_cons_self | with_reducible apply List.mem_cons_of_mem)); try with_reducible assumption)); (· (repeat (first | with_reducible apply LSub.done | with_reducible apply LSub.take | with_reducible apply LSub.drop))))))) ⟨rfl, rfl⟩
  | some nd =>
    obtain ⟨A, B, hL, hi, ht, hA, hAt⟩ := idx_of hf
    have hlA : A.length < S.length := (List.getElem?_eq_some_iff.1 hAt).1
    rw [hi, show sizeD (S.map NdS.d) a = (nd.C.length : Nat) by unfold sizeD; rw [find_d, hf]; rfl]
    obtain ⟨bB, off, xs, ty, fz, rfl, hmr, hc⟩ := hR (by omega)
    obtain ⟨g0, g1, _⟩ := hc _ nd hAt
    repeat (first | (show OpsS _ _ _ _ _ _ (_ :: _) _ _ _; first | refine ozq ?_) | refine c_seq ?_ | refine p_then ?_ | refine c_region ?_ | refine s_nil ?_ | refine c_cond_t rfl ?_ | refine c_cond_f rfl ?_ | refine c_skip ?_ | refine c_ret ?_ | refine p_then_ret ?_ | refine p_end ?_ | refine c_if_t rfl (by omega) ?_ | refine c_if_f rfl (by omega) ?_)
    exact k_ret [] rfl .refl (by (repeat (first | apply ResS.nil | (apply rs_tmp; (· rfl)) | (apply rs_cell1; (· rfl); (· ((repeat (first | with_reducible apply List.mem_cons_self | with_reducible apply List.mem_cons_of_mem)); try with_reducible assumption)); (· rfl)) | (apply rs_cellA; (· rfl); (· ((repeat (first | with_reducible apply List.mem_cons_self | with_reducible apply List.mem_cons_of_mem)); try with_reducible assumption)); (· (repeat (first | with_reducible apply LSub.done | with_reducible apply LSub.take | with_reducible apply LSub.drop))))))) ⟨rfl, rfl⟩
theorem rhas_any (b : Nat) (D : SD) (lr : List Chunk) (hr : IsR b D lr) (hn : D.length ≤ 900000) (s : slT) (l : List Chunk) (hsub : ∀ c, c ∈ lr → c ∈ l) :
    Fn Try.prog 32 [.pointer (some ⟨b, 0, none⟩), .agg (List.toArray (encT s))] l fun v l' => v = .bool (okD D s) ∧ l' = l := by
  refine fn_of_body Try.func32 rfl rfl fun E => ?_
  simp only [argF, Try.ntmps32]
  repeat (first | (show OpsS _ _ _ _ _ _ (_ :: _) _ _ _; first | refine ozq ?_) | refine c_seq ?_ | refine p_then ?_ | refine c_region ?_ | refine s_nil ?_ | refine c_ret ?_ | refine p_then_ret ?_ | refine p_end ?_)
  (first | refine t_e (e_box1 rfl rfl) rfl rfl rfl ?_ | refine t_e (e_boxA rfl) rfl rfl rfl ?_); rintro _ _ ⟨b3, _, rfl, rfl⟩
  unfold okD
  by_cases h0 : 0 ≤ s.2
  · rw [decide_eq_true h0, Bool.true_and]
    repeat (first | (show OpsS _ _ _ _ _ _ (_ :: _) _ _ _; first | refine ozq ?_) | refine c_seq ?_ | refine p_then ?_ | refine c_region ?_ | refine s_nil ?_ | refine c_ret ?_ | refine p_then_ret ?_ | refine p_end ?_)
    refine c_draw [(0, true), (1, true), (2, true), (3, true), (4, true), (5, true), (6, true), (7, true), (8, true), (9, true), (10, true), (11, true), (12, true)] [[], [0], [0, 1], [0, 1, 2], [0, 1, 2, 3], [0, 1, 2, 3, 4], [0, 1, 2, 3], [0, 1, 2, 3], [0, 1, 2, 3, 7], [0, 1, 2, 3, 6, 7, 8], [0, 1, 2, 3, 4, 5, 6, 7, 8, 9], [0, 1, 2, 3, 4, 5, 6, 7, 8, 9, 10], [0, 1, 2, 3, 4, 5, 6, 7, 8, 9, 10, 11]] _ (by kernel_rfl) (by kernel_rfl) (by (repeat (first | apply Attach.nil | (apply Attach.cons; · rfl)))) (fun _ h => h) ?_
    repeat (first | refine pl_nil ?_ | (show PlanS _ _ _ _ _ _ _ _ _ _ ((_, true, _) :: _) _ _ _; first | refine pzq ?_ | refine pzt ?_ | refine pzf ?_) | (show PlanS _ _ _ _ _ _ _ _ none [] ((_, _, _) :: _) _ _ _; first | refine pzs ?_ | refine pzs0 ?_) | (show PlanS _ _ _ _ _ _ _ _ _ _ ((_, _, _) :: _) _ _ _; first | refine pzt ?_ | refine pzf ?_) | (show PlanS _ _ _ _ _ _ _ _ none [] ((_, false, _) :: _) _ _ _; first | refine pze ?_))
    refine pl_h (q_call rfl rfl fun l2 hl => rsize_any b D lr hr hn s.1 l2 fun c hc => hl c (.tail _ (hsub c hc))) rfl rfl rfl ?_
    repeat (first | refine pl_nil ?_ | (show PlanS _ _ _ _ _ _ _ _ _ _ ((_, true, _) :: _) _ _ _; first | refine pzq ?_ | refine pzt ?_ | refine pzf ?_) | (show PlanS _ _ _ _ _ _ _ _ none [] ((_, _, _) :: _) _ _ _; first | refine pzs ?_ | refine pzs0 ?_) | (show PlanS _ _ _ _ _ _ _ _ _ _ ((_, _, _) :: _) _ _ _; first | refine pzt ?_ | refine pzf ?_) | (show PlanS _ _ _ _ _ _ _ _ none [] ((_, false, _) :: _) _ _ _; first | refine pze ?_))
    repeat (first | (show OpsS _ _ _ _ _ _ (_ :: _) _ _ _; first | refine ozq ?_) | refine c_seq ?_ | refine p_then ?_ | refine c_region ?_ | refine s_nil ?_ | refine c_ret ?_ | refine p_then_ret ?_ | refine p_end ?_)
    exact k_ret [] rfl (.drop .refl) (by (repeat (first | apply ResS.nil | (apply rs_tmp; (· rfl)) | (apply rs_cell1; (· rfl); (· ((repeat (first | with_reducible apply List.mem_cons_self | with_reducible apply List.mem_cons_of_mem)); try with_reducible assumption)); (· rfl)) | (apply rs_cellA; (· rfl); (· ((repeat (first | with_reducible apply List.mem_cons_self | with_reducible apply List.mem_cons_of_mem)); try with_reducible assumption)); (· (repeat (first | with_reducible apply LSub.done | with_reducible apply LSub.take | with_reducible apply LSub.drop))))))) ⟨rfl, rfl⟩
  · rw [decide_eq_false h0, Bool.false_and]
    repeat (first | (show OpsS _ _ _ _ _ _ (_ :: _) _ _ _; first | refine ozq ?_) | refine c_seq ?_ | refine p_then ?_ | refine c_region ?_ | refine s_nil ?_ | refine c_ret ?_ | refine p_then_ret ?_ | refine p_end ?_)
    refine c_draw [(0, true), (1, true), (2, true), (3, true), (4, true), (5, true), (6, true), (7, true), (8, true), (9, true), (10, true), (11, true), (12, true)] [[], [0], [0, 1], [0, 1, 2], [0, 1, 2, 3], [0, 1, 2, 3, 4], [0, 1, 2, 3], [0, 1, 2, 3], [0, 1, 2, 3, 7], [0, 1, 2, 3, 6, 7, 8], [0, 1, 2, 3, 4, 5, 6, 7, 8, 9], [0, 1, 2, 3, 4, 5, 6, 7, 8, 9, 10], [0, 1, 2, 3, 4, 5, 6, 7, 8, 9, 10, 11]] _ (by kernel_rfl) (by kernel_rfl) (by (repeat (first | apply Attach.nil | (apply Attach.cons; · rfl)))) (fun _ h => h) ?_
    repeat (first | refine pl_nil ?_ | (show PlanS _ _ _ _ _ _ _ _ _ _ ((_, true, _) :: _) _ _ _; first | refine pzq ?_ | refine pzt ?_ | refine pzf ?_) | (show PlanS _ _ _ _ _ _ _ _ none [] ((_, _, _) :: _) _ _ _; first | refine pzs ?_ | refine pzs0 ?_) | (show PlanS _ _ _ _ _ _ _ _ _ _ ((_, _, _) :: _) _ _ _; first | refine pzt ?_ | refine pzf ?_) | (show PlanS _ _ _ _ _ _ _ _ none [] ((_, false, _) :: _) _ _ _; first | refine pze ?_))
    repeat (first | (show OpsS _ _ _ _ _ _ (_ :: _) _ _ _; first | refine ozq ?_) | refine c_seq ?_ | refine p_then ?_ | refine c_region ?_ | refine s_nil ?_ | refine c_ret ?_ | refine p_then_ret ?_ | refine p_end ?_)
    exact k_ret [] rfl (.drop .refl) (by (repeat (first | apply ResS.nil | (apply rs_tmp; (· rfl)) | (apply rs_cell1; (· rfl); (· ((repeat (first | with_reducible apply List.mem_cons_self | with_reducible apply List.mem_cons_of_mem)); try with_reducible assumption)); (· rfl)) | (apply rs_cellA; (· rfl); (· ((repeat (first | with_reducible apply List.mem_cons_self | with_reducible apply List.mem_cons_of_mem)); try with_reducible assumption)); (· (repeat (first | with_reducible apply LSub.done | with_reducible apply LSub.take | with_reducible apply LSub.drop))))))) ⟨rfl, rfl⟩
theorem ok_split {S : List NdS} {s : slT} (hok : okD (S.map NdS.d) s = true) : ∃ nd k c, findK NdS.id S s.1 = some nd ∧ s.2 = ((k : Nat) : Int) ∧ nd.C[k]? = some c ∧ atD (S.map NdS.d) s = c := by
  have hok2 := hok
  unfold okD sizeD at hok2
  rw [Bool.and_eq_true, decide_eq_true_eq, decide_eq_true_eq, find_d] at hok2
  cases hf : findK NdS.id S s.1 with
  | none => rw [hf] at hok2; simp at hok2; omega
  | some nd =>
    rw [hf] at hok2
    simp only [Option.map_some] at hok2
    obtain ⟨k, hk⟩ : ∃ k : Nat, s.2 = (k : Nat) := ⟨s.2.toNat, by omega⟩
    obtain ⟨c, hc⟩ : ∃ c, nd.C[k]? = some c := ⟨_, List.getElem?_eq_getElem (by omega)⟩
    refine ⟨nd, k, c, rfl, hk, hc, ?_⟩
    unfold atD
    rw [find_d, hf, hk]
    show nd.C.getD k capZ = c
    rw [List.getD_eq_getElem?_getD, hc]; rfl
theorem rget_any (b : Nat) (D : SD) (lr : List Chunk) (hr : IsR b D lr) (hn : D.length ≤ 900000) (s : slT) (l : List Chunk) (hsub : ∀ c, c ∈ lr → c ∈ l) :
    Fn Try.prog 33 [.pointer (some ⟨b, 0, none⟩), .agg (List.toArray (encT s))] l fun v l' => v = .tuple #[.agg (List.toArray (encC (getD' D s).1)), .int .i64 (getD' D s).2] ∧ l' = l := by
  have hr0 := hr
  obtain ⟨S, v, cs, rfl, hS⟩ := hr
  have hn2 : S.length ≤ 900000 := by simpa using hn
  obtain ⟨p, cap, rfl, hm, hR⟩ := hS.view hsub
  refine fn_of_body Try.func33 rfl rfl fun E => ?_
  simp only [argF, Try.ntmps33]
  repeat (first | (show OpsS _ _ _ _ _ _ (_ :: _) _ _ _; first | refine ozq ?_ | refine ozn ?_) | refine c_seq ?_ | refine p_then ?_ | refine c_region ?_ | refine s_nil ?_ | refine c_cond_t rfl ?_ | refine c_cond_f rfl ?_ | refine c_skip ?_ | refine c_ret ?_ | refine p_then_ret ?_ | refine p_end ?_ | refine c_if_t rfl (by omega) ?_ | refine c_if_f rfl (by omega) ?_)
  (first | refine t_e (e_box1 rfl rfl) rfl rfl rfl ?_ | refine t_e (e_boxA rfl) rfl rfl rfl ?_); rintro _ _ ⟨b3, _, rfl, rfl⟩
  repeat (first | (show OpsS _ _ _ _ _ _ (_ :: _) _ _ _; first | refine ozq ?_ | refine ozn ?_) | refine c_seq ?_ | refine p_then ?_ | refine c_region ?_ | refine s_nil ?_ | refine c_cond_t rfl ?_ | refine c_cond_f rfl ?_ | refine c_skip ?_ | refine c_ret ?_ | refine p_then_ret ?_ | refine p_end ?_ | refine c_if_t rfl (by omega) ?_ | refine c_if_f rfl (by omega) ?_)
  refine t_e e_alloc rfl rfl rfl ?_; rintro _ _ ⟨b4, _, rfl, rfl⟩
  repeat (first | (show OpsS _ _ _ _ _ _ (_ :: _) _ _ _; first | refine ozq ?_ | refine ozn ?_) | refine c_seq ?_ | refine p_then ?_ | refine c_region ?_ | refine s_nil ?_ | refine c_cond_t rfl ?_ | refine c_cond_f rfl ?_ | refine c_skip ?_ | refine c_ret ?_ | refine p_then_ret ?_ | refine p_end ?_ | refine c_if_t rfl (by omega) ?_ | refine c_if_f rfl (by omega) ?_)
  refine t_q (q_call rfl rfl fun l2 hl => rhas_any b _ lr hr0 hn s l2 fun c hc => hl c (.tail _ (.tail _ (hsub c hc)))) rfl rfl rfl ?_
  cases hok : okD (S.map NdS.d) s with
  | false =>
    rw [show getD' (S.map NdS.d) s = (capZ, 3) by unfold getD'; rw [hok]; rfl]
    repeat (first | (show OpsS _ _ _ _ _ _ (_ :: _) _ _ _; first | refine ozq ?_ | refine ozn ?_) | refine c_seq ?_ | refine p_then ?_ | refine c_region ?_ | refine s_nil ?_ | refine c_cond_t rfl ?_ | refine c_cond_f rfl ?_ | refine c_skip ?_ | refine c_ret ?_ | refine p_then_ret ?_ | refine p_end ?_ | refine c_if_t rfl (by omega) ?_ | refine c_if_f rfl (by omega) ?_)
    exact k_ret2 [] (capC b4 capZ :: slC b3 s :: l) rfl (l' := l) .refl (by (repeat (first | apply ResS.nil | (apply rs_tmp; (· rfl)) | (apply rs_cell1; (· rfl); (· ((repeat (first | with_reducible apply List.mem_cons_self | with_reducible apply List.mem_cons_of_mem)); try with_reducible assumption)); (· rfl)) | (apply rs_cellA; (· rfl); (· ((repeat (first | with_reducible apply List.mem_cons_self | with_reducible apply List.mem_cons_of_mem)); try with_reducible assumption)); (· (repeat (first | with_reducible apply LSub.done | with_reducible apply LSub.take | with_reducible apply LSub.drop))))))) (.drop (.drop .refl)) ⟨rfl, rfl⟩
  | true =>
    obtain ⟨nd, k, c, hf, hk, hc, hat⟩ := ok_split hok
    rw [show getD' (S.map NdS.d) s = (c, 0) by unfold getD'; rw [hok, hat]; rfl]
    obtain ⟨A, B, hL, hi, ht, hA, hAt⟩ := idx_of hf
    have hlA : A.length < S.length := (List.getElem?_eq_some_iff.1 hAt).1
    have hkl : k < nd.C.length := (List.getElem?_eq_some_iff.1 hc).1
    obtain ⟨bB, off, xs, ty, fz, rfl, hmr, hcx⟩ := hR (by omega)
    obtain ⟨g0, g1, _⟩ := hcx _ nd hAt
    obtain ⟨c1, c2⟩ := ccs_at hc
    have hmb : nd.blk ∈ l := hsub _ (hS.m3 (findK_some hf).1)
    obtain ⟨s1, s2⟩ := s
    simp only at hk hf hi
    subst hk
    repeat (first | (show OpsS _ _ _ _ _ _ (_ :: _) _ _ _; first | refine ozq ?_ | refine ozn ?_) | refine c_seq ?_ | refine p_then ?_ | refine c_region ?_ | refine s_nil ?_ | refine c_cond_t rfl ?_ | refine c_cond_f rfl ?_ | refine c_skip ?_ | refine c_ret ?_ | refine p_then_ret ?_ | refine p_end ?_ | refine c_if_t rfl (by omega) ?_ | refine c_if_f rfl (by omega) ?_)
    refine c_draw [(0, true), (1, true), (2, true), (3, true), (4, true), (5, true), (6, true), (7, true), (8, true), (9, true), (10, true), (11, true), (12, true), (13, true), (14, true), (15, false), (16, true)] [[], [0], [0, 1], [0, 1, 2], [], [], [5], [4, 5, 6], [0, 1, 2, 3, 4, 5, 6, 7], [0, 1, 2, 3, 4, 5, 6, 7, 8], [0, 1, 2, 3, 4, 5, 6, 7, 8, 9], [], [11], [0, 1, 2, 3, 4, 5, 6, 7, 8, 9, 10, 11, 12], [0, 1, 2, 3, 4, 5, 6, 7, 8, 9, 10, 11, 12, 13], [0, 1, 2, 3, 4, 5, 6, 7, 8, 9, 10, 11, 12, 13, 14], [0, 1, 2, 3, 4, 5, 6, 7, 8, 9, 10, 11, 12, 13, 14, 15]] (slC b3 (s1, ((k : Nat) : Int)) :: l) (by kernel_rfl) (by kernel_rfl) (by (repeat (first | apply Attach.nil | (apply Attach.cons; · rfl)))) (List.Sublist.subset (by (repeat (first | with_reducible apply List.Sublist.refl | with_reducible apply List.nil_sublist | with_reducible apply List.Sublist.cons_cons | with_reducible apply List.Sublist.cons)))) ?_
    repeat (first | refine pl_nil ?_ | (show PlanS _ _ _ _ _ _ _ _ _ _ ((_, true, _) :: _) _ _ _; first | refine pzq ?_) | (show PlanS _ _ _ _ _ _ _ _ none [] ((_, false, _) :: _) _ _ _; first | refine pzn ?_ | refine pze ?_))
    refine pl_h (q_call rfl rfl fun l2 hl => rat_any b S _ cs lr hS hn2 s1 l2 fun c hc => hl c (.tail _ (hsub c hc))) rfl rfl rfl ?_
    rw [hi]
    repeat (first | refine pl_nil ?_ | (show PlanS _ _ _ _ _ _ _ _ _ _ ((_, true, _) :: _) _ _ _; first | refine pzq ?_) | (show PlanS _ _ _ _ _ _ _ _ none [] ((_, false, _) :: _) _ _ _; first | refine pzn ?_ | refine pze ?_))
    refine pl_h (q_loadA (n := 8) rfl (.tail _ hmb) c2 c1) rfl rfl rfl ?_
    repeat (first | refine pl_nil ?_ | (show PlanS _ _ _ _ _ _ _ _ _ _ ((_, true, _) :: _) _ _ _; first | refine pzq ?_) | (show PlanS _ _ _ _ _ _ _ _ none [] ((_, false, _) :: _) _ _ _; first | refine pzn ?_ | refine pze ?_))
    repeat (first | (show OpsS _ _ _ _ _ _ (_ :: _) _ _ _; first | refine ozq ?_ | refine ozn ?_) | refine c_seq ?_ | refine p_then ?_ | refine c_region ?_ | refine s_nil ?_ | refine c_cond_t rfl ?_ | refine c_cond_f rfl ?_ | refine c_skip ?_ | refine c_ret ?_ | refine p_then_ret ?_ | refine p_end ?_ | refine c_if_t rfl (by omega) ?_ | refine c_if_f rfl (by omega) ?_)
    exact k_ret2 [] (capC b4 c :: slC b3 (s1, ((k : Nat) : Int)) :: l) rfl (l' := l) .refl (by (repeat (first | apply ResS.nil | (apply rs_tmp; (· rfl)) | (apply rs_cell1; (· rfl); (· ((repeat (first | with_reducible apply List.mem_cons_self | with_reducible apply List.mem_cons_of_mem)); try with_reducible assumption)); (· rfl)) | (apply rs_cellA; (· rfl); (· ((repeat (first | with_reducible apply List.mem_cons_self | with_reducible apply List.mem_cons_of_mem)); try with_reducible assumption)); (· (repeat (first | with_reducible apply LSub.done | with_reducible apply LSub.take | with_reducible apply LSub.drop))))))) (.drop (.drop .refl)) ⟨rfl, rfl⟩
end Go.Proofs.Ytdbdbhlhdcidpaa

/- Chapter 15's own answer: Set, Drop. -/
set_option linter.unusedVariables false
set_option linter.unusedSimpArgs false
namespace Go.Proofs.Ytdbdbhlhdcidpaa
open Go.RowKit
set_option maxRecDepth 20000

theorem ncs_app (A B : List NdS) : ncs (A ++ B) = ncs A ++ ncs B := List.flatMap_append
theorem ncs_l (A : List NdS) : (ncs A).length = A.length * 2 := by
  induction A with
  | nil => rfl
  | cons x r ih => rw [show x :: r = [x] ++ r from rfl, ncs_app, List.length_append, ih, List.length_append, Nat.add_mul]; rfl
theorem ncs_ones {S : List NdS} : ∀ u ∈ ncs S, u.oneCell' = true := fun u hu => by
  obtain ⟨x, _, hx⟩ := List.mem_flatMap.1 hu
  simp only [encN, List.mem_cons, List.not_mem_nil, or_false] at hx
  rcases hx with rfl | rfl <;> rfl
theorem encN_ones (x : NdS) : ∀ u ∈ encN x, u.oneCell' = true := fun u hx => by
  simp only [encN, List.mem_cons, List.not_mem_nil, or_false] at hx
  rcases hx with rfl | rfl <;> rfl
theorem ncs_fst {A B : List NdS} {sp : List Value} {j : Nat} {u : Value} (h : (ncs A)[j]? = some u) : (List.toArray (ncs (A ++ B) ++ sp))[0 + j]? = some u := by
  have hl := (List.getElem?_eq_some_iff.1 h).1
  rw [Nat.zero_add, List.getElem?_toArray, ncs_app, List.append_assoc, List.getElem?_append_left hl]; exact h
theorem ncs_snd {A B : List NdS} {sp : List Value} {j : Nat} {u : Value} (h : (ncs B)[j]? = some u) : (List.toArray (ncs (A ++ B) ++ sp))[A.length * 2 + j]? = some u := by
  have hl := (List.getElem?_eq_some_iff.1 h).1
  rw [List.getElem?_toArray, ncs_app, List.append_assoc, List.getElem?_append_right (by rw [ncs_l]; omega), ncs_l, Nat.add_sub_cancel_left, List.getElem?_append_left hl]; exact h
theorem asc_repl {A B : List NdS} {x y : NdS} (h : (A ++ x :: B).Pairwise fun x y => x.id < y.id) (hk : y.id = x.id) : (A ++ y :: B).Pairwise fun x y => x.id < y.id := by
  obtain ⟨h2, h3, h4⟩ := List.pairwise_append.1 h
  obtain ⟨h5, h6⟩ := List.pairwise_cons.1 h3
  refine List.pairwise_append.2 ⟨h2, List.pairwise_cons.2 ⟨fun z hz => by rw [hk]; exact h5 z hz, h6⟩, fun z hz w hw => ?_⟩
  rcases List.mem_cons.1 hw with rfl | hw
  · rw [hk]; exact h4 z hz x List.mem_cons_self
  · exact h4 z hz w (List.mem_cons_of_mem _ hw)
theorem asc_cut {A B : List NdS} {x : NdS} (h : (A ++ x :: B).Pairwise fun x y => x.id < y.id) : (A ++ B).Pairwise fun x y => x.id < y.id :=
  h.sublist (List.Sublist.append_left (List.sublist_cons_self _ _) _)
theorem keep_drop15 (x : Chunk) (c2 cs A B G : List Chunk) (y : Chunk) : Keep (c2 ++ (x :: (cs ++ (A ++ y :: B) ++ G))) ((x :: (c2 ++ (A ++ B))) ++ G) := by
  refine Keep.trans (.of_perm List.perm_middle) ?_
  refine Keep.trans (l := x :: (c2 ++ ((A ++ y :: B) ++ G))) ?_ ?_
  · exact ⟨cs, by
      have h : (c2 ++ (cs ++ (A ++ y :: B) ++ G)).Perm (cs ++ (c2 ++ ((A ++ y :: B) ++ G))) := by
        rw [List.append_assoc]; exact List.perm_append_comm_assoc _ _ _
      exact (h.cons x).trans List.perm_middle.symm⟩
  · obtain ⟨X, hX⟩ := keep_cut A B G y
    refine ⟨X, ?_⟩
    have h1 : (x :: (c2 ++ ((A ++ y :: B) ++ G))).Perm (x :: (c2 ++ (X ++ ((A ++ B) ++ G)))) := (hX.append_left c2).cons x
    refine h1.trans ?_
    have h2 : (x :: (c2 ++ (X ++ ((A ++ B) ++ G)))).Perm (X ++ (x :: (c2 ++ ((A ++ B) ++ G)))) := by
      have := (List.perm_append_comm_assoc c2 X ((A ++ B) ++ G)).cons x
      exact this.trans List.perm_middle.symm
    refine h2.trans (.of_eq ?_)
    simp
set_option pp.deepTerms false
set_option pp.deepTerms.threshold 4
set_option maxHeartbeats 400000
theorem rset_any (b : Nat) (D : SD) (lr : List Chunk) (hr : IsR b D lr) (hn : D.length ≤ 900000) (s : slT) (c : CapT) (hg : c.guard ≤ 9223372036854775807) (G : List Chunk) :
    Fn Try.prog 26 [.pointer (some ⟨b, 0, none⟩), .agg (List.toArray (encT s)), .agg (List.toArray (encC c))] (lr ++ G) fun v l' => v = .int .i64 (setD D s c).1 ∧ ∃ lr', IsR b (setD D s c).2 lr' ∧ l' = lr' ++ G := by
  have hr0 := hr
  obtain ⟨S, v, cs, rfl, hS⟩ := hr
  have hn2 : S.length ≤ 900000 := by simpa using hn
  refine fn_of_body Try.func26 rfl rfl fun E => ?_
  simp only [argF, Try.ntmps26]
  repeat (first | (show OpsS _ _ _ _ _ _ (_ :: _) _ _ _; first | refine ozq ?_) | refine c_seq ?_ | refine p_then ?_ | refine c_region ?_ | refine s_nil ?_ | refine c_cond_t rfl ?_ | refine c_cond_f rfl ?_ | refine c_skip ?_ | refine c_ret ?_ | refine p_then_ret ?_ | refine p_end ?_ | refine c_if_t rfl (by omega) ?_ | refine c_if_f rfl (by omega) ?_)
  (first | refine t_e (e_box1 rfl rfl) rfl rfl rfl ?_ | refine t_e (e_boxA rfl) rfl rfl rfl ?_); rintro _ _ ⟨b4, _, rfl, rfl⟩
  repeat (first | (show OpsS _ _ _ _ _ _ (_ :: _) _ _ _; first | refine ozq ?_) | refine c_seq ?_ | refine p_then ?_ | refine c_region ?_ | refine s_nil ?_ | refine c_cond_t rfl ?_ | refine c_cond_f rfl ?_ | refine c_skip ?_ | refine c_ret ?_ | refine p_then_ret ?_ | refine p_end ?_ | refine c_if_t rfl (by omega) ?_ | refine c_if_f rfl (by omega) ?_)
  (first | refine t_e (e_box1 rfl rfl) rfl rfl rfl ?_ | refine t_e (e_boxA rfl) rfl rfl rfl ?_); rintro _ _ ⟨b5, _, rfl, rfl⟩
  repeat (first | (show OpsS _ _ _ _ _ _ (_ :: _) _ _ _; first | refine ozq ?_) | refine c_seq ?_ | refine p_then ?_ | refine c_region ?_ | refine s_nil ?_ | refine c_cond_t rfl ?_ | refine c_cond_f rfl ?_ | refine c_skip ?_ | refine c_ret ?_ | refine p_then_ret ?_ | refine p_end ?_ | refine c_if_t rfl (by omega) ?_ | refine c_if_f rfl (by omega) ?_)
  refine t_q (q_call rfl rfl fun l2 hl => rhas_any b _ lr hr0 hn s l2 fun x hx => hl x (.tail _ (.tail _ (List.mem_append_left _ hx)))) rfl rfl rfl ?_
  cases hok : okD (S.map NdS.d) s with
  | false =>
    rw [show setD (S.map NdS.d) s c = (3, S.map NdS.d) by unfold setD; rw [hok]; rfl]
    repeat (first | (show OpsS _ _ _ _ _ _ (_ :: _) _ _ _; first | refine ozq ?_) | refine c_seq ?_ | refine p_then ?_ | refine c_region ?_ | refine s_nil ?_ | refine c_cond_t rfl ?_ | refine c_cond_f rfl ?_ | refine c_skip ?_ | refine c_ret ?_ | refine p_then_ret ?_ | refine p_end ?_ | refine c_if_t rfl (by omega) ?_ | refine c_if_f rfl (by omega) ?_)
    exact k_ret [] rfl (.drop (.drop .refl)) (by (repeat (first | apply ResS.nil | (apply rs_tmp; (· rfl)) | (apply rs_cell1; (· rfl); (· ((repeat (first | with_reducible apply List.mem_cons_self | with_reducible apply List.mem_cons_of_mem)); try with_reducible assumption)); (· rfl)) | (apply rs_cellA; (· rfl); (· ((repeat (first | with_reducible apply List.mem_cons_self | with_reducible apply List.mem_cons_of_mem)); try with_reducible assumption)); (· (repeat (first | with_reducible apply LSub.done | with_reducible apply LSub.take | with_reducible apply LSub.drop))))))) ⟨rfl, _, hr0, rfl⟩
  | true =>
    cases hM : mayC c with
    | false =>
      rw [show setD (S.map NdS.d) s c = (5, S.map NdS.d) by unfold setD; rw [hok, hM]; rfl]
      repeat (first | (show OpsS _ _ _ _ _ _ (_ :: _) _ _ _; first | refine ozq ?_) | refine c_seq ?_ | refine p_then ?_ | refine c_region ?_ | refine s_nil ?_ | refine c_cond_t rfl ?_ | refine c_cond_f rfl ?_ | refine c_skip ?_ | refine c_ret ?_ | refine p_then_ret ?_ | refine p_end ?_ | refine c_if_t rfl (by omega) ?_ | refine c_if_f rfl (by omega) ?_)
      refine t_q (q_call rfl rfl fun l2 _ => rmay_any c l2) rfl rfl rfl ?_
      rw [may_eq c hg, hM]
      repeat (first | (show OpsS _ _ _ _ _ _ (_ :: _) _ _ _; first | refine ozq ?_) | refine c_seq ?_ | refine p_then ?_ | refine c_region ?_ | refine s_nil ?_ | refine c_cond_t rfl ?_ | refine c_cond_f rfl ?_ | refine c_skip ?_ | refine c_ret ?_ | refine p_then_ret ?_ | refine p_end ?_ | refine c_if_t rfl (by omega) ?_ | refine c_if_f rfl (by omega) ?_)
      exact k_ret [] rfl (.drop (.drop .refl)) (by (repeat (first | apply ResS.nil | (apply rs_tmp; (· rfl)) | (apply rs_cell1; (· rfl); (· ((repeat (first | with_reducible apply List.mem_cons_self | with_reducible apply List.mem_cons_of_mem)); try with_reducible assumption)); (· rfl)) | (apply rs_cellA; (· rfl); (· ((repeat (first | with_reducible apply List.mem_cons_self | with_reducible apply List.mem_cons_of_mem)); try with_reducible assumption)); (· (repeat (first | with_reducible apply LSub.done | with_reducible apply LSub.take | with_reducible apply LSub.drop))))))) ⟨rfl, _, hr0, rfl⟩
    | true =>
      rw [show setD (S.map NdS.d) s c = (0, putD (S.map NdS.d) s c) by unfold setD; rw [hok, hM]; rfl]
      repeat (first | (show OpsS _ _ _ _ _ _ (_ :: _) _ _ _; first | refine ozq ?_) | refine c_seq ?_ | refine p_then ?_ | refine c_region ?_ | refine s_nil ?_ | refine c_cond_t rfl ?_ | refine c_cond_f rfl ?_ | refine c_skip ?_ | refine c_ret ?_ | refine p_then_ret ?_ | refine p_end ?_ | refine c_if_t rfl (by omega) ?_ | refine c_if_f rfl (by omega) ?_)
      refine t_q (q_call rfl rfl fun l2 _ => rmay_any c l2) rfl rfl rfl ?_
      rw [may_eq c hg, hM]
      obtain ⟨nd, k, x, hf, hk, hx, hat⟩ := ok_split hok
      obtain ⟨A, B, hL, hi, ht, hA, hAt⟩ := idx_of hf
      have hlA : A.length < S.length := (List.getElem?_eq_some_iff.1 hAt).1
      have hkl : k < nd.C.length := (List.getElem?_eq_some_iff.1 hx).1
      obtain ⟨g1, g2⟩ := ccs_at hx
      obtain ⟨s1, s2⟩ := s
      simp only at hk hf hi ht
      subst hk
      subst ht
      have hRS : RowSl cs v 2 encN S := OwnSl.rowSl (enc := encN) hS.own (fun _ => rfl) fun c hc => hc
      obtain ⟨p, cap, rfl, hR⟩ := hRS
      obtain ⟨bB, off, xs, ty, fz, rfl, hmr, hcx⟩ := hR (by omega)
      obtain ⟨j1, j2⟩ := hcx _ nd hAt
      obtain ⟨k0, k1⟩ := ncs_at j2 j1
      obtain ⟨T, hT⟩ : ∃ T, T = capC b5 c :: slC b4 (nd.id, ((k : Nat) : Int)) :: rxC b (.slice (some ⟨bB, off, none⟩) S.length cap) :: cs := ⟨_, rfl⟩
      have q1 : capC b5 c ∈ T := by rw [hT]; exact .head _
      have q2 : slC b4 (nd.id, ((k : Nat) : Int)) ∈ T := by rw [hT]; exact .tail _ (.head _)
      have q3 : rxC b (.slice (some ⟨bB, off, none⟩) S.length cap) ∈ T := by rw [hT]; exact .tail _ (.tail _ (.head _))
      have q4 : (bB, Obj.cells xs ty fz) ∈ T := by rw [hT]; exact .tail _ (.tail _ (.tail _ hmr))
      have hSm : S.map NdS.blk = A.map NdS.blk ++ nd.blk :: B.map NdS.blk := by rw [hL, List.map_append, List.map_cons]
      have hlr : ∀ x, x ∈ lr → x ∈ T ++ (A.map NdS.blk ++ nd.blk :: (B.map NdS.blk ++ G)) := fun x hx => by
        rw [hS.eq, hSm] at hx
        rw [hT]
        rcases List.mem_cons.1 hx with rfl | hx
        · exact .tail _ (.tail _ (.head _))
        · refine .tail _ (.tail _ (.tail _ ?_))
          rcases List.mem_append.1 hx with hx | hx
          · exact List.mem_append_left _ hx
          · refine List.mem_append_right _ ?_
            rcases List.mem_append.1 hx with hx | hx
            · exact List.mem_append_left _ hx
            · refine List.mem_append_right _ ?_
              rcases List.mem_cons.1 hx with rfl | hx
              · exact .head _
              · exact .tail _ (List.mem_append_left _ hx)
      repeat (first | (show OpsS _ _ _ _ _ _ (_ :: _) _ _ _; first | refine ozq ?_) | refine c_seq ?_ | refine p_then ?_ | refine c_region ?_ | refine s_nil ?_ | refine c_cond_t rfl ?_ | refine c_cond_f rfl ?_ | refine c_skip ?_ | refine c_ret ?_ | refine p_then_ret ?_ | refine p_end ?_ | refine c_if_t rfl (by omega) ?_ | refine c_if_f rfl (by omega) ?_)
      refine c_keep (Keep.of_perm (l' := T ++ (A.map NdS.blk ++ nd.blk :: (B.map NdS.blk ++ G))) (.of_eq (by rw [hT, hS.eq, hSm]; simp))) ?_
      refine c_draw [(0, true), (1, true), (2, true), (3, true), (4, true), (5, true), (6, true), (7, true), (8, true), (9, true), (10, true), (11, true), (12, true), (13, true), (14, true), (15, false)] [[], [0], [0, 1], [0, 1, 2], [], [], [5], [4, 5, 6], [0, 1, 2, 3, 4, 5, 6, 7], [0, 1, 2, 3, 4, 5, 6, 7, 8], [0, 1, 2, 3, 4, 5, 6, 7, 8, 9], [], [11], [], [0, 1, 2, 3, 4, 5, 6, 7, 8, 9, 10, 11, 12, 13], [0, 1, 2, 3, 4, 5, 6, 7, 8, 9, 10, 11, 12, 13, 14]] (T) (by kernel_rfl) (by kernel_rfl) (by (repeat (first | apply Attach.nil | (apply Attach.cons; · rfl)))) (fun x hx => List.mem_append_left _ hx) ?_
      repeat (first | refine pl_nil ?_ | (show PlanS _ _ _ _ _ _ _ _ _ _ ((_, true, _) :: _) _ _ _; first | refine pzq ?_) | (show PlanS _ _ _ _ _ _ _ _ none [] ((_, false, _) :: _) _ _ _; first | refine pzn ?_ | refine pze ?_))
      apply pl_s (S := lr)
      · exact q_call rfl rfl fun l2 hl => rat_any b S _ cs lr hS hn2 nd.id l2 hl
      · exact hlr
      · rfl
      · rfl
      · rfl
      rw [hi]
      repeat (first | refine pl_nil ?_ | (show PlanS _ _ _ _ _ _ _ _ _ _ ((_, true, _) :: _) _ _ _; first | refine pzq ?_) | (show PlanS _ _ _ _ _ _ _ _ none [] ((_, false, _) :: _) _ _ _; first | refine pzn ?_ | refine pze ?_))
      apply pl_nS
      · exact e_storeA (b := nd.gb) (off := k * 8) (cs := List.toArray (ccs nd.C)) (n := 8) rfl rfl rfl (by simp [Value.oneCell']) (upd_pre (upd_mid _ _ _ _ _) T) g2
      · rfl
      · rfl
      · rintro _ _ ⟨rfl, rfl⟩ x hx; exact List.mem_append_left _ hx
      · exact fun _ _ _ x hx ha => anc_all (by kernel_rfl) hx ha
      rintro _ _ ⟨rfl, rfl⟩
      rw [show setFrom (List.toArray (ccs nd.C)) (k * 8) (List.toArray (encC c)).toList = List.toArray (ccs (nd.C.set k c)) from set_ccs hx]
      repeat (first | refine pl_nil ?_ | (show PlanS _ _ _ _ _ _ _ _ _ _ ((_, true, _) :: _) _ _ _; first | refine pzq ?_) | (show PlanS _ _ _ _ _ _ _ _ none [] ((_, false, _) :: _) _ _ _; first | refine pzn ?_ | refine pze ?_))
      repeat (first | (show OpsS _ _ _ _ _ _ (_ :: _) _ _ _; first | refine ozq ?_) | refine c_seq ?_ | refine p_then ?_ | refine c_region ?_ | refine s_nil ?_ | refine c_cond_t rfl ?_ | refine c_cond_f rfl ?_ | refine c_skip ?_ | refine c_ret ?_ | refine p_then_ret ?_ | refine p_end ?_ | refine c_if_t rfl (by omega) ?_ | refine c_if_f rfl (by omega) ?_)
      obtain ⟨nd', hnd'⟩ : ∃ nd' : NdS, nd' = { nd with C := nd.C.set k c } := ⟨_, rfl⟩
      have hS' : (A ++ nd' :: B).map NdS.blk = A.map NdS.blk ++ nd'.blk :: B.map NdS.blk := by rw [List.map_append, List.map_cons]
      have hncs : ncs (A ++ nd' :: B) = ncs S := by
        rw [hL]
        show (A ++ nd' :: B).flatMap encN = (A ++ nd :: B).flatMap encN
        rw [List.flatMap_append, List.flatMap_append, List.flatMap_cons, List.flatMap_cons]
        rw [show encN nd' = encN nd by rw [hnd']; simp [encN, NdS.val]]
      have hlen : (A ++ nd' :: B).length = S.length := by rw [hL]; simp
      refine k_ret [] rfl (l' := (rxC b (.slice (some ⟨bB, off, none⟩) S.length cap) :: (cs ++ (A ++ nd' :: B).map NdS.blk)) ++ G) ?_ (by (repeat (first | apply ResS.nil | (apply rs_tmp; (· rfl)) | (apply rs_cell1; (· rfl); (· ((repeat (first | with_reducible apply List.mem_cons_self | with_reducible apply List.mem_cons_of_mem)); try with_reducible assumption)); (· rfl)) | (apply rs_cellA; (· rfl); (· ((repeat (first | with_reducible apply List.mem_cons_self | with_reducible apply List.mem_cons_of_mem)); try with_reducible assumption)); (· (repeat (first | with_reducible apply LSub.done | with_reducible apply LSub.take | with_reducible apply LSub.drop))))))) ⟨rfl, _, ⟨A ++ nd' :: B, _, cs, ?_, rfl, ?_, ?_, ?_⟩, rfl⟩
      · rw [hT, hS', hnd']
        simp only [List.cons_append, List.append_assoc]
        exact .drop (.drop .refl)
      · rw [hL, put_d (by rw [← hL]; exact hS.asc), hnd']
      · rw [hncs, hlen]; exact hS.own
      · exact asc_repl (by rw [← hL]; exact hS.asc) (by rw [hnd'])
      · intro y hy
        have h1 := hS.sz
        rw [hL] at h1
        rcases List.mem_append.1 hy with hy | hy
        · exact h1 y (List.mem_append_left _ hy)
        · rcases List.mem_cons.1 hy with rfl | hy
          · have := h1 nd (List.mem_append_right _ List.mem_cons_self)
            rw [hnd']; simpa using this
          · exact h1 y (List.mem_append_right _ (.tail _ hy))
def ValD (D : SD) : Prop := ∀ x, x ∈ D → ∀ c, c ∈ x.2 → c.kind = 0 → c = capZ
end Go.Proofs.Ytdbdbhlhdcidpaa

/- Chapter 15's own answer: Add. -/
set_option linter.unusedVariables false
set_option linter.unusedSimpArgs false
namespace Go.Proofs.Ytdbdbhlhdcidpaa
open Go.RowKit
set_option maxRecDepth 20000

theorem ncs_snoc (S : List NdS) (x : NdS) : ncs (S ++ [x]) = ncs S ++ encN x := by simp [ncs]
theorem ins_asc {α : Type} {key : α → Int} {L : List α} {t : α} (h : L.Pairwise fun x y => key x < key y) (hn : findK key L (key t) = none) : (insK key L t).Pairwise fun x y => key x < key y := by
  obtain ⟨W, Z, e1, e2, hL, hall, hgt⟩ := ins_split h (findK_none.1 hn)
  have hi : insK key L t = W ++ t :: Z := by unfold insK; rw [e1, e2]
  rw [hL, List.pairwise_append] at h
  rw [hi]
  refine List.pairwise_append.2 ⟨h.1, List.pairwise_cons.2 ⟨fun x hx => hgt x hx, h.2.1⟩, fun x hx y hy => ?_⟩
  have h1 := hall x hx
  rcases List.mem_cons.1 hy with rfl | hy
  · exact h1
  · have := hgt y hy; omega
theorem keep_add16 (x y : Chunk) (cv cs W Z G : List Chunk) : Keep (cv ++ (y :: (x :: (cs ++ (W ++ Z) ++ G)))) ((x :: (cv ++ (W ++ y :: Z))) ++ G) := by
  refine ⟨cs, ?_⟩
  have e1 : (cv ++ (y :: (x :: (cs ++ (W ++ Z) ++ G)))) = cv ++ ([y] ++ ([x] ++ (cs ++ (W ++ (Z ++ G))))) := by simp
  have e2 : (cs ++ ((x :: (cv ++ (W ++ y :: Z))) ++ G)) = cs ++ ([x] ++ (cv ++ (W ++ ([y] ++ (Z ++ G))))) := by simp
  rw [e1, e2]
  have h1 : (cv ++ ([y] ++ ([x] ++ (cs ++ (W ++ (Z ++ G)))))).Perm (cv ++ ([x] ++ (cs ++ (W ++ ([y] ++ (Z ++ G)))))) := by
    refine List.Perm.append_left cv ?_
    refine (List.perm_append_comm_assoc [y] [x] _).trans (List.Perm.append_left [x] ?_)
    refine (List.perm_append_comm_assoc [y] cs _).trans (List.Perm.append_left cs ?_)
    exact List.perm_append_comm_assoc [y] W _
  refine h1.trans ?_
  refine (List.perm_append_comm_assoc cv [x] _).trans ?_
  have h2 : ([x] ++ (cv ++ (cs ++ (W ++ ([y] ++ (Z ++ G)))))).Perm ([x] ++ (cs ++ (cv ++ (W ++ ([y] ++ (Z ++ G)))))) := (List.perm_append_comm_assoc cv cs _).append_left [x]
  exact h2.trans (List.perm_append_comm_assoc [x] cs _)
set_option pp.deepTerms false
set_option pp.deepTerms.threshold 4
set_option maxHeartbeats 400000
theorem radd_any (b : Nat) (D : SD) (lr : List Chunk) (hr : IsR b D lr) (hn : D.length ≤ 900000) (id n : Int) (G : List Chunk) :
    Fn Try.prog 24 [.pointer (some ⟨b, 0, none⟩), .int .i64 id, .int .i64 n] (lr ++ G) fun v l' => v = .int .i64 (addN D id n).1 ∧ ∃ lr', IsR b (addN D id n).2 lr' ∧ l' = lr' ++ G := by
  have hr0 := hr
  obtain ⟨S, v, cs, rfl, hS⟩ := hr
  have hn2 : S.length ≤ 900000 := by simpa using hn
  refine fn_of_body Try.func24 rfl rfl fun E => ?_
  simp only [argF, Try.ntmps24]
  by_cases h1 : id < 1
  · rw [show addN (S.map NdS.d) id n = (2, S.map NdS.d) by unfold addN; rw [if_pos (.inl h1)]]
    repeat (first | (show OpsS _ _ _ _ _ _ (_ :: _) _ _ _; first | refine ozq ?_ | refine ozs ?_ | refine ozs0 ?_ | refine ozt ?_ | refine ozf ?_ | refine ozn ?_) | refine c_seq ?_ | refine p_then ?_ | refine c_region ?_ | refine s_nil ?_ | refine c_cond_t rfl ?_ | refine c_cond_f rfl ?_ | refine c_block ?_ | refine c_skip ?_ | refine c_exit ?_ | refine p_block ?_ | refine p_then_exit ?_ | refine p_block_here ?_ | refine p_block_on rfl ?_ | refine c_ret ?_ | refine p_then_ret ?_ | refine p_block_ret ?_ | refine p_end ?_ | refine c_if_t rfl (by omega) ?_ | refine c_if_f rfl (by omega) ?_)
    exact k_ret [] rfl .refl (by (repeat (first | apply ResS.nil | (apply rs_tmp; (· rfl)) | (apply rs_cell1; (· rfl); (· ((repeat (first | with_reducible apply List.mem_cons_self | with_reducible apply List.mem_cons_of_mem)); try with_reducible assumption)); (· rfl)) | (apply rs_cellA; (· rfl); (· ((repeat (first | with_reducible apply List.mem_cons_self | with_reducible apply List.mem_cons_of_mem)); try with_reducible assumption)); (· (repeat (first | with_reducible apply LSub.done | with_reducible apply LSub.take | with_reducible apply LSub.drop))))))) ⟨rfl, _, hr0, rfl⟩
  by_cases h2 : n < 1
  · rw [show addN (S.map NdS.d) id n = (2, S.map NdS.d) by unfold addN; rw [if_pos (.inr (.inl h2))]]
    repeat (first | (show OpsS _ _ _ _ _ _ (_ :: _) _ _ _; first | refine ozq ?_ | refine ozs ?_ | refine ozs0 ?_ | refine ozt ?_ | refine ozf ?_ | refine ozn ?_) | refine c_seq ?_ | refine p_then ?_ | refine c_region ?_ | refine s_nil ?_ | refine c_cond_t rfl ?_ | refine c_cond_f rfl ?_ | refine c_block ?_ | refine c_skip ?_ | refine c_exit ?_ | refine p_block ?_ | refine p_then_exit ?_ | refine p_block_here ?_ | refine p_block_on rfl ?_ | refine c_ret ?_ | refine p_then_ret ?_ | refine p_block_ret ?_ | refine p_end ?_ | refine c_if_t rfl (by omega) ?_ | refine c_if_f rfl (by omega) ?_)
    exact k_ret [] rfl .refl (by (repeat (first | apply ResS.nil | (apply rs_tmp; (· rfl)) | (apply rs_cell1; (· rfl); (· ((repeat (first | with_reducible apply List.mem_cons_self | with_reducible apply List.mem_cons_of_mem)); try with_reducible assumption)); (· rfl)) | (apply rs_cellA; (· rfl); (· ((repeat (first | with_reducible apply List.mem_cons_self | with_reducible apply List.mem_cons_of_mem)); try with_reducible assumption)); (· (repeat (first | with_reducible apply LSub.done | with_reducible apply LSub.take | with_reducible apply LSub.drop))))))) ⟨rfl, _, hr0, rfl⟩
  by_cases h3 : 16 < n
  · rw [show addN (S.map NdS.d) id n = (2, S.map NdS.d) by unfold addN; rw [if_pos (.inr (.inr h3))]]
    repeat (first | (show OpsS _ _ _ _ _ _ (_ :: _) _ _ _; first | refine ozq ?_ | refine ozs ?_ | refine ozs0 ?_ | refine ozt ?_ | refine ozf ?_ | refine ozn ?_) | refine c_seq ?_ | refine p_then ?_ | refine c_region ?_ | refine s_nil ?_ | refine c_cond_t rfl ?_ | refine c_cond_f rfl ?_ | refine c_block ?_ | refine c_skip ?_ | refine c_exit ?_ | refine p_block ?_ | refine p_then_exit ?_ | refine p_block_here ?_ | refine p_block_on rfl ?_ | refine c_ret ?_ | refine p_then_ret ?_ | refine p_block_ret ?_ | refine p_end ?_ | refine c_if_t rfl (by omega) ?_ | refine c_if_f rfl (by omega) ?_)
    exact k_ret [] rfl .refl (by (repeat (first | apply ResS.nil | (apply rs_tmp; (· rfl)) | (apply rs_cell1; (· rfl); (· ((repeat (first | with_reducible apply List.mem_cons_self | with_reducible apply List.mem_cons_of_mem)); try with_reducible assumption)); (· rfl)) | (apply rs_cellA; (· rfl); (· ((repeat (first | with_reducible apply List.mem_cons_self | with_reducible apply List.mem_cons_of_mem)); try with_reducible assumption)); (· (repeat (first | with_reducible apply LSub.done | with_reducible apply LSub.take | with_reducible apply LSub.drop))))))) ⟨rfl, _, hr0, rfl⟩
  have h123 : ¬ (id < 1 ∨ n < 1 ∨ 16 < n) := by omega
  obtain ⟨k, rfl⟩ : ∃ k : Nat, n = (k : Nat) := ⟨n.toNat, by omega⟩
  repeat (first | (show OpsS _ _ _ _ _ _ (_ :: _) _ _ _; first | refine ozq ?_ | refine ozs ?_ | refine ozs0 ?_ | refine ozt ?_ | refine ozf ?_ | refine ozn ?_) | refine c_seq ?_ | refine p_then ?_ | refine c_region ?_ | refine s_nil ?_ | refine c_cond_t rfl ?_ | refine c_cond_f rfl ?_ | refine c_block ?_ | refine c_skip ?_ | refine c_exit ?_ | refine p_block ?_ | refine p_then_exit ?_ | refine p_block_here ?_ | refine p_block_on rfl ?_ | refine c_ret ?_ | refine p_then_ret ?_ | refine p_block_ret ?_ | refine p_end ?_ | refine c_if_t rfl (by omega) ?_ | refine c_if_f rfl (by omega) ?_)
  refine t_q (q_call rfl rfl fun l2 hl => rat_any b S _ cs lr hS hn2 id l2 fun c hc => hl c (List.mem_append_left _ hc)) rfl rfl rfl ?_
  cases hf : findK NdS.id S id with
  | some nd =>
    obtain ⟨A, B, hL, hi, ht, hA, hAt⟩ := idx_of hf
    rw [hi, show addN (S.map NdS.d) id (k : Nat) = (11, S.map NdS.d) by unfold addN; rw [if_neg h123, find_d, hf]; rfl]
    repeat (first | (show OpsS _ _ _ _ _ _ (_ :: _) _ _ _; first | refine ozq ?_ | refine ozs ?_ | refine ozs0 ?_ | refine ozt ?_ | refine ozf ?_ | refine ozn ?_) | refine c_seq ?_ | refine p_then ?_ | refine c_region ?_ | refine s_nil ?_ | refine c_cond_t rfl ?_ | refine c_cond_f rfl ?_ | refine c_block ?_ | refine c_skip ?_ | refine c_exit ?_ | refine p_block ?_ | refine p_then_exit ?_ | refine p_block_here ?_ | refine p_block_on rfl ?_ | refine c_ret ?_ | refine p_then_ret ?_ | refine p_block_ret ?_ | refine p_end ?_ | refine c_if_t rfl (by omega) ?_ | refine c_if_f rfl (by omega) ?_)
    exact k_ret [] rfl .refl (by (repeat (first | apply ResS.nil | (apply rs_tmp; (· rfl)) | (apply rs_cell1; (· rfl); (· ((repeat (first | with_reducible apply List.mem_cons_self | with_reducible apply List.mem_cons_of_mem)); try with_reducible assumption)); (· rfl)) | (apply rs_cellA; (· rfl); (· ((repeat (first | with_reducible apply List.mem_cons_self | with_reducible apply List.mem_cons_of_mem)); try with_reducible assumption)); (· (repeat (first | with_reducible apply LSub.done | with_reducible apply LSub.take | with_reducible apply LSub.drop))))))) ⟨rfl, _, hr0, rfl⟩
  | none =>
    rw [idx_neg hf, show addN (S.map NdS.d) id (k : Nat) = (0, insK Prod.fst (S.map NdS.d) (id, List.replicate k capZ)) by unfold addN; rw [if_neg h123, find_d, hf]; rfl]
    obtain ⟨W, Z, eW, eZ, hL, hWa, hZa⟩ := ins_split hS.asc (findK_none.1 hf)
    obtain ⟨ndN, hndN⟩ : ∃ ndN : Nat → NdS, ndN = fun gb => ⟨id, List.replicate k capZ, gb⟩ := ⟨_, rfl⟩
    have hencN : ∀ gb, encN (ndN gb) = [.int .i64 id, .slice (some ⟨gb, 0, none⟩) k k] := fun gb => by rw [hndN]; simp [encN, NdS.val]
    have hblk : ∀ gb, (gb, Obj.cells (List.toArray (ccs (List.replicate k capZ))) 32 (0, 0)) = (ndN gb).blk := fun gb => by rw [hndN]
    obtain ⟨R, hR⟩ : ∃ R : Nat → List NdS, R = fun gb => W ++ ndN gb :: Z := ⟨_, rfl⟩
    have hins : ∀ gb, insK NdS.id S (ndN gb) = R gb := fun gb => by
      rw [hR]; unfold insK
      rw [show (ndN gb).id = id by rw [hndN], eW, eZ]
    have hlR : ∀ gb, (R gb).length = S.length + 1 := fun gb => by rw [hR, hL]; simp; omega
    have hlL : S.length = W.length + Z.length := by rw [hL]; simp
    obtain ⟨p, cap, rfl, hm, hRS⟩ := hS.view (l := lr ++ G) fun c hc => List.mem_append_left _ hc
    obtain ⟨cnt, hcnt⟩ : ∃ cnt : Nat → Nat, cnt = fun i => if i ≤ W.length then i else i + 1 := ⟨_, rfl⟩
    obtain ⟨F, hF⟩ : ∃ F, F = lr ++ G := ⟨_, rfl⟩
    have hfin : ∀ (gb : Nat) (w : Value) (cw : List Chunk), OwnSl 104 2 w (R gb).length (ncs (R gb)) cw → ∃ lr', IsR b (insK Prod.fst (S.map NdS.d) (id, List.replicate k capZ)) lr' ∧ (rxC b w :: (cw ++ (R gb).map NdS.blk)) ++ G = lr' ++ G := fun gb w cw hw => by
      refine ⟨_, ⟨R gb, w, cw, ?_, rfl, hw, ?_, ?_⟩, rfl⟩
      · rw [← hins gb, ins_map (key' := Prod.fst) (fun x => rfl), hndN]
      · rw [← hins gb]; exact ins_asc hS.asc (by rw [hndN]; exact hf)
      · intro x hx
        rw [← hins gb] at hx
        rcases mem_ins.1 hx with rfl | hx
        · rw [hndN]; simp; omega
        · exact hS.sz x hx
    rw [← hF] at hm hRS ⊢
    repeat (first | (show OpsS _ _ _ _ _ _ (_ :: _) _ _ _; first | refine ozq ?_ | refine ozs ?_ | refine ozs0 ?_ | refine ozt ?_ | refine ozf ?_ | refine ozn ?_) | refine c_seq ?_ | refine p_then ?_ | refine c_region ?_ | refine s_nil ?_ | refine c_cond_t rfl ?_ | refine c_cond_f rfl ?_ | refine c_block ?_ | refine c_skip ?_ | refine c_exit ?_ | refine p_block ?_ | refine p_then_exit ?_ | refine p_block_here ?_ | refine p_block_on rfl ?_ | refine c_ret ?_ | refine p_then_ret ?_ | refine p_block_ret ?_ | refine p_end ?_ | refine c_if_t rfl (by omega) ?_ | refine c_if_f rfl (by omega) ?_)
    refine k_loop (α := Nat × Value × List Chunk × Nat) (fun x => [(0, .pointer (some ⟨b, 0, none⟩)), (1, .int .i64 id), (2, .int .i64 (k : Nat)), (7, x.2.1), (8, .bool (decide (W.length < x.1))), (9, .int .i64 x.1)]) (fun x => x.2.2.1 ++ ((if W.length < x.1 then [(ndN x.2.2.2).blk] else []) ++ F)) (fun x => x.1 ≤ S.length ∧ OwnSl 104 2 x.2.1 ((R x.2.2.2).take (cnt x.1)).length (ncs ((R x.2.2.2).take (cnt x.1))) x.2.2.1) (fun x => S.length - x.1) (0, .slice none 0 0, [], 0) ⟨Nat.zero_le _, by rw [hcnt]; exact OwnSl.nil _ _⟩ ⟨rfl, rfl, rfl, rfl, by rw [decide_eq_false (show ¬ W.length < 0 by omega)]; rfl, rfl, trivial⟩ .refl ?_
    rintro ⟨i, w, cv, gb⟩ ⟨hi, hw⟩
    dsimp only at hi hw ⊢
    by_cases hlt : i < S.length
    · obtain ⟨bB, off, xs, ty, fz, rfl, hmr, hc⟩ := hRS (by omega)
      obtain ⟨x, hx⟩ : ∃ x, S[i]? = some x := ⟨_, List.getElem?_eq_getElem hlt⟩
      obtain ⟨g0, _, g1, g2⟩ := hc i x hx
      rcases Nat.lt_trichotomy i W.length with k1 | k1 | k1
      · have hxa : x.id < id := hWa x (List.mem_of_getElem? (i := i) (by rw [hL, List.getElem?_append_left k1] at hx; exact hx))
        have hc1 : cnt (i + 1) = cnt i + 1 := by rw [hcnt]; simp only; rw [if_pos (by omega), if_pos (by omega)]
        have hRi : (R gb)[cnt i]? = some x := by
          rw [hcnt, hR]; simp only; rw [if_pos (by omega), List.getElem?_append_left k1]
          rw [hL, List.getElem?_append_left k1] at hx; exact hx
        rw [decide_eq_false (show ¬ W.length < i by omega), if_neg (show ¬ W.length < i by omega), List.nil_append]
        have hm3 : rxC b (.slice (some ⟨bB, off, none⟩) S.length cap) ∈ cv ++ F := List.mem_append_right _ hm
        have hmr5 : (bB, Obj.cells xs ty fz) ∈ cv ++ F := List.mem_append_right _ hmr
        repeat (first | (show OpsS _ _ _ _ _ _ (_ :: _) _ _ _; first | refine ozq ?_ | refine ozs ?_ | refine ozs0 ?_ | refine ozt ?_ | refine ozf ?_ | refine ozn ?_) | refine c_seq ?_ | refine p_then ?_ | refine c_region ?_ | refine s_nil ?_ | refine c_cond_t rfl ?_ | refine c_cond_f rfl ?_ | refine c_block ?_ | refine c_skip ?_ | refine c_exit ?_ | refine p_block ?_ | refine p_then_exit ?_ | refine p_block_here ?_ | refine p_block_on rfl ?_ | refine c_ret ?_ | refine p_then_ret ?_ | refine p_block_ret ?_ | refine p_end ?_ | refine c_if_t rfl (by omega) ?_ | refine c_if_f rfl (by omega) ?_)
        refine t_q (q_loadA rfl hmr5 g1 g2) rfl rfl rfl ?_
        repeat (first | (show OpsS _ _ _ _ _ _ (_ :: _) _ _ _; first | refine ozq ?_ | refine ozs ?_ | refine ozs0 ?_ | refine ozt ?_ | refine ozf ?_ | refine ozn ?_) | refine c_seq ?_ | refine p_then ?_ | refine c_region ?_ | refine s_nil ?_ | refine c_cond_t rfl ?_ | refine c_cond_f rfl ?_ | refine c_block ?_ | refine c_skip ?_ | refine c_exit ?_ | refine p_block ?_ | refine p_then_exit ?_ | refine p_block_here ?_ | refine p_block_on rfl ?_ | refine c_ret ?_ | refine p_then_ret ?_ | refine p_block_ret ?_ | refine p_end ?_ | refine c_if_t rfl (by omega) ?_ | refine c_if_f rfl (by omega) ?_)
        refine t_e (e_litA (k := 2) (e := 104) (ws := encN x) rfl rfl rfl (by decide) (by decide)) rfl rfl rfl ?_
        rintro _ _ ⟨bl, _, rfl, rfl⟩
        refine t_e (e_appX (k := 2) (X := []) (cs := cv) (F := F) (xs := ncs ((R gb).take (cnt i))) (n := ((R gb).take (cnt i)).length) (ws := encN x) rfl rfl rfl hw rfl (encN_ones x) (by rw [List.length_take, hlR]; omega) (by decide)) rfl rfl rfl ?_
        rintro w2 _ ⟨cv2, hw2, rfl⟩
        have hw9 : w2.oneCell' = true := hw2.one
        repeat (first | (show OpsS _ _ _ _ _ _ (_ :: _) _ _ _; first | refine ozq ?_ | refine ozs ?_ | refine ozs0 ?_ | refine ozt ?_ | refine ozf ?_ | refine ozn ?_) | refine c_seq ?_ | refine p_then ?_ | refine c_region ?_ | refine s_nil ?_ | refine c_cond_t rfl ?_ | refine c_cond_f rfl ?_ | refine c_block ?_ | refine c_skip ?_ | refine c_exit ?_ | refine p_block ?_ | refine p_then_exit ?_ | refine p_block_here ?_ | refine p_block_on rfl ?_ | refine c_ret ?_ | refine p_then_ret ?_ | refine p_block_ret ?_ | refine p_end ?_ | refine c_if_t rfl (by omega) ?_ | refine c_if_f rfl (by omega) ?_)
        refine k_next (i + 1, w2, cv2, gb) ⟨by simp only; omega, ?_⟩ (by simp only; omega) ⟨rfl, rfl, rfl, rfl, by rw [decide_eq_false (show ¬ W.length < i + 1 by omega)]; rfl, rfl, trivial⟩ (by simp only; rw [if_neg (show ¬ W.length < i + 1 by omega)]; exact .refl)
        simp only
        rw [hc1, List.take_add_one, hRi, Option.toList_some, ncs_snoc, List.length_append]; exact hw2
      · have hxa : id < x.id := hZa x (List.mem_of_getElem? (i := 0) (by rw [hL, List.getElem?_append_right (by omega), show i - W.length = 0 by omega] at hx; exact hx))
        have hc1 : cnt (i + 1) = cnt i + 1 + 1 := by rw [hcnt]; simp only; rw [if_neg (by omega), if_pos (by omega)]
        have hci : cnt i = W.length := by rw [hcnt]; simp only; rw [if_pos (by omega)]; exact k1
        have hRi : ∀ gb, (R gb)[cnt i]? = some (ndN gb) := fun gb => by
          rw [hci, hR]; simp only; rw [List.getElem?_append_right (by omega), Nat.sub_self]; rfl
        have hRj : ∀ gb, (R gb)[cnt i + 1]? = some x := fun gb => by
          rw [hci, hR]; simp only; rw [List.getElem?_append_right (by omega), show W.length + 1 - W.length = 0 + 1 by omega, List.getElem?_cons_succ]
          rw [hL, List.getElem?_append_right (by omega), show i - W.length = 0 by omega] at hx; exact hx
        have htk : ∀ gb', (R gb').take (cnt i) = (R gb).take (cnt i) := fun gb' => by
          rw [hci, hR]; simp only; rw [List.take_left' rfl, List.take_left' rfl]
        rw [decide_eq_false (show ¬ W.length < i by omega), if_neg (show ¬ W.length < i by omega), List.nil_append]
        have hm3 : rxC b (.slice (some ⟨bB, off, none⟩) S.length cap) ∈ cv ++ F := List.mem_append_right _ hm
        have hmr5 : (bB, Obj.cells xs ty fz) ∈ cv ++ F := List.mem_append_right _ hmr
        repeat (first | (show OpsS _ _ _ _ _ _ (_ :: _) _ _ _; first | refine ozq ?_ | refine ozs ?_ | refine ozs0 ?_ | refine ozt ?_ | refine ozf ?_ | refine ozn ?_) | refine c_seq ?_ | refine p_then ?_ | refine c_region ?_ | refine s_nil ?_ | refine c_cond_t rfl ?_ | refine c_cond_f rfl ?_ | refine c_block ?_ | refine c_skip ?_ | refine c_exit ?_ | refine p_block ?_ | refine p_then_exit ?_ | refine p_block_here ?_ | refine p_block_on rfl ?_ | refine c_ret ?_ | refine p_then_ret ?_ | refine p_block_ret ?_ | refine p_end ?_ | refine c_if_t rfl (by omega) ?_ | refine c_if_f rfl (by omega) ?_)
        refine t_e (e_makeSlice (n := k) (kk := 8) (xs := ccs (List.replicate k capZ)) rfl rfl (by omega) (by omega) (by decide) (ccs_zero k)) rfl rfl rfl ?_
        rintro _ _ ⟨gn, hgn, rfl, rfl⟩
        rw [hblk gn]
        repeat (first | (show OpsS _ _ _ _ _ _ (_ :: _) _ _ _; first | refine ozq ?_ | refine ozs ?_ | refine ozs0 ?_ | refine ozt ?_ | refine ozf ?_ | refine ozn ?_) | refine c_seq ?_ | refine p_then ?_ | refine c_region ?_ | refine s_nil ?_ | refine c_cond_t rfl ?_ | refine c_cond_f rfl ?_ | refine c_block ?_ | refine c_skip ?_ | refine c_exit ?_ | refine p_block ?_ | refine p_then_exit ?_ | refine p_block_here ?_ | refine p_block_on rfl ?_ | refine c_ret ?_ | refine p_then_ret ?_ | refine p_block_ret ?_ | refine p_end ?_ | refine c_if_t rfl (by omega) ?_ | refine c_if_f rfl (by omega) ?_)
        refine t_e (e_litA (k := 2) (e := 104) (ws := [.int .i64 id, .slice (some ⟨gn, 0, none⟩) k k]) rfl rfl rfl (by decide) (by decide)) rfl rfl rfl ?_
        rintro _ _ ⟨bl, _, rfl, rfl⟩
        refine t_e (e_appX (k := 2) (X := [(ndN gn).blk]) (cs := cv) (F := F) (xs := ncs ((R gb).take (cnt i))) (n := ((R gb).take (cnt i)).length) (ws := [.int .i64 id, .slice (some ⟨gn, 0, none⟩) k k]) rfl rfl rfl hw rfl (by simp [Value.oneCell']) (by rw [List.length_take, hlR]; omega) (by decide)) rfl rfl rfl ?_
        rintro w1 _ ⟨cv1, hw1, rfl⟩
        have hw8 : w1.oneCell' = true := hw1.one
        simp only [List.cons_append, List.nil_append]
        have hm6 : rxC b (.slice (some ⟨bB, off, none⟩) S.length cap) ∈ cv1 ++ F := List.mem_append_right _ hm
        have hmr6 : (bB, Obj.cells xs ty fz) ∈ cv1 ++ F := List.mem_append_right _ hmr
        repeat (first | (show OpsS _ _ _ _ _ _ (_ :: _) _ _ _; first | refine ozq ?_ | refine ozs ?_ | refine ozs0 ?_ | refine ozt ?_ | refine ozf ?_ | refine ozn ?_) | refine c_seq ?_ | refine p_then ?_ | refine c_region ?_ | refine s_nil ?_ | refine c_cond_t rfl ?_ | refine c_cond_f rfl ?_ | refine c_block ?_ | refine c_skip ?_ | refine c_exit ?_ | refine p_block ?_ | refine p_then_exit ?_ | refine p_block_here ?_ | refine p_block_on rfl ?_ | refine c_ret ?_ | refine p_then_ret ?_ | refine p_block_ret ?_ | refine p_end ?_ | refine c_if_t rfl (by omega) ?_ | refine c_if_f rfl (by omega) ?_)
        refine t_q (q_loadA rfl (.tail _ hmr6) g1 g2) rfl rfl rfl ?_
        repeat (first | (show OpsS _ _ _ _ _ _ (_ :: _) _ _ _; first | refine ozq ?_ | refine ozs ?_ | refine ozs0 ?_ | refine ozt ?_ | refine ozf ?_ | refine ozn ?_) | refine c_seq ?_ | refine p_then ?_ | refine c_region ?_ | refine s_nil ?_ | refine c_cond_t rfl ?_ | refine c_cond_f rfl ?_ | refine c_block ?_ | refine c_skip ?_ | refine c_exit ?_ | refine p_block ?_ | refine p_then_exit ?_ | refine p_block_here ?_ | refine p_block_on rfl ?_ | refine c_ret ?_ | refine p_then_ret ?_ | refine p_block_ret ?_ | refine p_end ?_ | refine c_if_t rfl (by omega) ?_ | refine c_if_f rfl (by omega) ?_)
        refine t_e (e_litA (k := 2) (e := 104) (ws := encN x) rfl rfl rfl (by decide) (by decide)) rfl rfl rfl ?_
        rintro _ _ ⟨bl2, _, rfl, rfl⟩
        refine t_e (e_appX (k := 2) (X := [(ndN gn).blk]) (cs := cv1) (F := F) (xs := ncs ((R gb).take (cnt i)) ++ [.int .i64 id, .slice (some ⟨gn, 0, none⟩) k k]) (n := ((R gb).take (cnt i)).length + 1) (ws := encN x) rfl rfl rfl hw1 rfl (encN_ones x) (by rw [List.length_take, hlR]; omega) (by decide)) rfl rfl rfl ?_
        rintro w2 _ ⟨cv2, hw2, rfl⟩
        have hw9 : w2.oneCell' = true := hw2.one
        repeat (first | (show OpsS _ _ _ _ _ _ (_ :: _) _ _ _; first | refine ozq ?_ | refine ozs ?_ | refine ozs0 ?_ | refine ozt ?_ | refine ozf ?_ | refine ozn ?_) | refine c_seq ?_ | refine p_then ?_ | refine c_region ?_ | refine s_nil ?_ | refine c_cond_t rfl ?_ | refine c_cond_f rfl ?_ | refine c_block ?_ | refine c_skip ?_ | refine c_exit ?_ | refine p_block ?_ | refine p_then_exit ?_ | refine p_block_here ?_ | refine p_block_on rfl ?_ | refine c_ret ?_ | refine p_then_ret ?_ | refine p_block_ret ?_ | refine p_end ?_ | refine c_if_t rfl (by omega) ?_ | refine c_if_f rfl (by omega) ?_)
        refine k_next (i + 1, w2, cv2, gn) ⟨by simp only; omega, ?_⟩ (by simp only; omega) ⟨rfl, rfl, rfl, rfl, by rw [decide_eq_true (show W.length < i + 1 by omega)]; rfl, rfl, trivial⟩ (by simp only; rw [if_pos (show W.length < i + 1 by omega)]; exact .of_perm (List.perm_append_comm_assoc _ _ _))
        simp only
        rw [hc1, List.take_add_one, hRj, List.take_add_one, hRi, Option.toList_some, Option.toList_some, ncs_snoc, ncs_snoc, List.length_append, List.length_append, htk gn, hencN]; exact hw2
      · have hc1 : cnt (i + 1) = cnt i + 1 := by rw [hcnt]; simp only; rw [if_neg (by omega), if_neg (by omega)]
        have hRi : (R gb)[cnt i]? = some x := by
          rw [hcnt, hR]; simp only; rw [if_neg (by omega), List.getElem?_append_right (by omega), show i + 1 - W.length = (i - W.length) + 1 by omega, List.getElem?_cons_succ]
          rw [hL, List.getElem?_append_right (by omega)] at hx; exact hx
        rw [decide_eq_true (show W.length < i by omega), if_pos (show W.length < i by omega)]
        have hm3 : rxC b (.slice (some ⟨bB, off, none⟩) S.length cap) ∈ cv ++ ([(ndN gb).blk] ++ F) := List.mem_append_right _ (.tail _ hm)
        have hmr5 : (bB, Obj.cells xs ty fz) ∈ cv ++ ([(ndN gb).blk] ++ F) := List.mem_append_right _ (.tail _ hmr)
        repeat (first | (show OpsS _ _ _ _ _ _ (_ :: _) _ _ _; first | refine ozq ?_ | refine ozs ?_ | refine ozs0 ?_ | refine ozt ?_ | refine ozf ?_ | refine ozn ?_) | refine c_seq ?_ | refine p_then ?_ | refine c_region ?_ | refine s_nil ?_ | refine c_cond_t rfl ?_ | refine c_cond_f rfl ?_ | refine c_block ?_ | refine c_skip ?_ | refine c_exit ?_ | refine p_block ?_ | refine p_then_exit ?_ | refine p_block_here ?_ | refine p_block_on rfl ?_ | refine c_ret ?_ | refine p_then_ret ?_ | refine p_block_ret ?_ | refine p_end ?_ | refine c_if_t rfl (by omega) ?_ | refine c_if_f rfl (by omega) ?_)
        refine t_q (q_loadA rfl hmr5 g1 g2) rfl rfl rfl ?_
        repeat (first | (show OpsS _ _ _ _ _ _ (_ :: _) _ _ _; first | refine ozq ?_ | refine ozs ?_ | refine ozs0 ?_ | refine ozt ?_ | refine ozf ?_ | refine ozn ?_) | refine c_seq ?_ | refine p_then ?_ | refine c_region ?_ | refine s_nil ?_ | refine c_cond_t rfl ?_ | refine c_cond_f rfl ?_ | refine c_block ?_ | refine c_skip ?_ | refine c_exit ?_ | refine p_block ?_ | refine p_then_exit ?_ | refine p_block_here ?_ | refine p_block_on rfl ?_ | refine c_ret ?_ | refine p_then_ret ?_ | refine p_block_ret ?_ | refine p_end ?_ | refine c_if_t rfl (by omega) ?_ | refine c_if_f rfl (by omega) ?_)
        refine t_e (e_litA (k := 2) (e := 104) (ws := encN x) rfl rfl rfl (by decide) (by decide)) rfl rfl rfl ?_
        rintro _ _ ⟨bl, _, rfl, rfl⟩
        refine t_e (e_appX (k := 2) (X := []) (cs := cv) (F := [(ndN gb).blk] ++ F) (xs := ncs ((R gb).take (cnt i))) (n := ((R gb).take (cnt i)).length) (ws := encN x) rfl rfl rfl hw rfl (encN_ones x) (by rw [List.length_take, hlR]; omega) (by decide)) rfl rfl rfl ?_
        rintro w2 _ ⟨cv2, hw2, rfl⟩
        have hw9 : w2.oneCell' = true := hw2.one
        repeat (first | (show OpsS _ _ _ _ _ _ (_ :: _) _ _ _; first | refine ozq ?_ | refine ozs ?_ | refine ozs0 ?_ | refine ozt ?_ | refine ozf ?_ | refine ozn ?_) | refine c_seq ?_ | refine p_then ?_ | refine c_region ?_ | refine s_nil ?_ | refine c_cond_t rfl ?_ | refine c_cond_f rfl ?_ | refine c_block ?_ | refine c_skip ?_ | refine c_exit ?_ | refine p_block ?_ | refine p_then_exit ?_ | refine p_block_here ?_ | refine p_block_on rfl ?_ | refine c_ret ?_ | refine p_then_ret ?_ | refine p_block_ret ?_ | refine p_end ?_ | refine c_if_t rfl (by omega) ?_ | refine c_if_f rfl (by omega) ?_)
        refine k_next (i + 1, w2, cv2, gb) ⟨by simp only; omega, ?_⟩ (by simp only; omega) ⟨rfl, rfl, rfl, rfl, by rw [decide_eq_true (show W.length < i + 1 by omega)]; rfl, rfl, trivial⟩ (by simp only; rw [if_pos (show W.length < i + 1 by omega)]; exact .refl)
        simp only
        rw [hc1, List.take_add_one, hRi, Option.toList_some, ncs_snoc, List.length_append]; exact hw2
    · obtain rfl : i = S.length := by omega
      have hlr : lr = rxC b (.slice p S.length cap) :: (cs ++ S.map NdS.blk) := hS.eq
      have hpS : ∀ gb, (R gb).map NdS.blk = W.map NdS.blk ++ (ndN gb).blk :: Z.map NdS.blk := fun gb => by rw [hR, List.map_append, List.map_cons]
      have hSm : S.map NdS.blk = W.map NdS.blk ++ Z.map NdS.blk := by rw [hL, List.map_append]
      by_cases hZ0 : W.length < S.length
      · have hcl : cnt S.length = (R gb).length := by rw [hcnt, hlR]; simp only; rw [if_neg (by omega)]
        rw [hcl, List.take_length] at hw
        have hw1 : w.oneCell' = true := hw.one
        rw [decide_eq_true hZ0, if_pos hZ0]
        have hm7 : rxC b (.slice p S.length cap) ∈ cv ++ ([(ndN gb).blk] ++ F) := List.mem_append_right _ (.tail _ hm)
        repeat (first | (show OpsS _ _ _ _ _ _ (_ :: _) _ _ _; first | refine ozq ?_ | refine ozs ?_ | refine ozs0 ?_ | refine ozt ?_ | refine ozf ?_ | refine ozn ?_) | refine c_seq ?_ | refine p_then ?_ | refine c_region ?_ | refine s_nil ?_ | refine c_cond_t rfl ?_ | refine c_cond_f rfl ?_ | refine c_block ?_ | refine c_skip ?_ | refine c_exit ?_ | refine p_block ?_ | refine p_then_exit ?_ | refine p_block_here ?_ | refine p_block_on rfl ?_ | refine c_ret ?_ | refine p_then_ret ?_ | refine p_block_ret ?_ | refine p_end ?_ | refine c_if_t rfl (by omega) ?_ | refine c_if_f rfl (by omega) ?_)
        rw [hF, hlr, hSm]
        simp only [List.cons_append, List.nil_append]
        refine t_n (e_store (b := b) (off := 0) (l' := cv ++ ((ndN gb).blk :: (rxC b w :: (cs ++ (W.map NdS.blk ++ Z.map NdS.blk) ++ G)))) rfl rfl hw1 (upd_pre (.there .here) cv) (by simp)) rfl rfl ?_
        rintro _ _ ⟨rfl, rfl⟩
        repeat (first | (show OpsS _ _ _ _ _ _ (_ :: _) _ _ _; first | refine ozq ?_ | refine ozs ?_ | refine ozs0 ?_ | refine ozt ?_ | refine ozf ?_ | refine ozn ?_) | refine c_seq ?_ | refine p_then ?_ | refine c_region ?_ | refine s_nil ?_ | refine c_cond_t rfl ?_ | refine c_cond_f rfl ?_ | refine c_block ?_ | refine c_skip ?_ | refine c_exit ?_ | refine p_block ?_ | refine p_then_exit ?_ | refine p_block_here ?_ | refine p_block_on rfl ?_ | refine c_ret ?_ | refine p_then_ret ?_ | refine p_block_ret ?_ | refine p_end ?_ | refine c_if_t rfl (by omega) ?_ | refine c_if_f rfl (by omega) ?_)
        refine k_ret [] rfl (l' := (rxC b w :: (cv ++ (R gb).map NdS.blk)) ++ G) ?_ (by (repeat (first | apply ResS.nil | (apply rs_tmp; (· rfl)) | (apply rs_cell1; (· rfl); (· ((repeat (first | with_reducible apply List.mem_cons_self | with_reducible apply List.mem_cons_of_mem)); try with_reducible assumption)); (· rfl)) | (apply rs_cellA; (· rfl); (· ((repeat (first | with_reducible apply List.mem_cons_self | with_reducible apply List.mem_cons_of_mem)); try with_reducible assumption)); (· (repeat (first | with_reducible apply LSub.done | with_reducible apply LSub.take | with_reducible apply LSub.drop))))))) ⟨rfl, hfin gb w cv hw⟩
        rw [hpS]; exact keep_add16 _ _ cv cs _ _ G
      · have hcl : cnt S.length = S.length := by rw [hcnt]; simp only; rw [if_pos (by omega)]
        have hRe : ∀ gb', R gb' = (R gb).take S.length ++ [ndN gb'] := fun gb' => by
          have hZn : Z = [] := List.eq_nil_of_length_eq_zero (by omega)
          rw [hR]; simp only; rw [hZn, show S.length = W.length by omega, List.take_left' rfl]
        rw [hcl] at hw
        have hw0 : w.oneCell' = true := hw.one
        rw [decide_eq_false hZ0, if_neg hZ0, List.nil_append]
        have hm7 : rxC b (.slice p S.length cap) ∈ cv ++ F := List.mem_append_right _ hm
        repeat (first | (show OpsS _ _ _ _ _ _ (_ :: _) _ _ _; first | refine ozq ?_ | refine ozs ?_ | refine ozs0 ?_ | refine ozt ?_ | refine ozf ?_ | refine ozn ?_) | refine c_seq ?_ | refine p_then ?_ | refine c_region ?_ | refine s_nil ?_ | refine c_cond_t rfl ?_ | refine c_cond_f rfl ?_ | refine c_block ?_ | refine c_skip ?_ | refine c_exit ?_ | refine p_block ?_ | refine p_then_exit ?_ | refine p_block_here ?_ | refine p_block_on rfl ?_ | refine c_ret ?_ | refine p_then_ret ?_ | refine p_block_ret ?_ | refine p_end ?_ | refine c_if_t rfl (by omega) ?_ | refine c_if_f rfl (by omega) ?_)
        refine t_e (e_makeSlice (n := k) (kk := 8) (xs := ccs (List.replicate k capZ)) rfl rfl (by omega) (by omega) (by decide) (ccs_zero k)) rfl rfl rfl ?_
        rintro _ _ ⟨gn, hgn, rfl, rfl⟩
        rw [hblk gn]
        repeat (first | (show OpsS _ _ _ _ _ _ (_ :: _) _ _ _; first | refine ozq ?_ | refine ozs ?_ | refine ozs0 ?_ | refine ozt ?_ | refine ozf ?_ | refine ozn ?_) | refine c_seq ?_ | refine p_then ?_ | refine c_region ?_ | refine s_nil ?_ | refine c_cond_t rfl ?_ | refine c_cond_f rfl ?_ | refine c_block ?_ | refine c_skip ?_ | refine c_exit ?_ | refine p_block ?_ | refine p_then_exit ?_ | refine p_block_here ?_ | refine p_block_on rfl ?_ | refine c_ret ?_ | refine p_then_ret ?_ | refine p_block_ret ?_ | refine p_end ?_ | refine c_if_t rfl (by omega) ?_ | refine c_if_f rfl (by omega) ?_)
        refine t_e (e_litA (k := 2) (e := 104) (ws := [.int .i64 id, .slice (some ⟨gn, 0, none⟩) k k]) rfl rfl rfl (by decide) (by decide)) rfl rfl rfl ?_
        rintro _ _ ⟨bl, _, rfl, rfl⟩
        refine t_e (e_appX (k := 2) (X := [(ndN gn).blk]) (cs := cv) (F := F) (xs := ncs ((R gb).take S.length)) (n := ((R gb).take S.length).length) (ws := [.int .i64 id, .slice (some ⟨gn, 0, none⟩) k k]) rfl rfl rfl hw rfl (by simp [Value.oneCell']) (by rw [List.length_take, hlR]; omega) (by decide)) rfl rfl rfl ?_
        rintro w1 _ ⟨cv1, hw1, rfl⟩
        have hw8 : w1.oneCell' = true := hw1.one
        simp only [List.cons_append, List.nil_append]
        repeat (first | (show OpsS _ _ _ _ _ _ (_ :: _) _ _ _; first | refine ozq ?_ | refine ozs ?_ | refine ozs0 ?_ | refine ozt ?_ | refine ozf ?_ | refine ozn ?_) | refine c_seq ?_ | refine p_then ?_ | refine c_region ?_ | refine s_nil ?_ | refine c_cond_t rfl ?_ | refine c_cond_f rfl ?_ | refine c_block ?_ | refine c_skip ?_ | refine c_exit ?_ | refine p_block ?_ | refine p_then_exit ?_ | refine p_block_here ?_ | refine p_block_on rfl ?_ | refine c_ret ?_ | refine p_then_ret ?_ | refine p_block_ret ?_ | refine p_end ?_ | refine c_if_t rfl (by omega) ?_ | refine c_if_f rfl (by omega) ?_)
        rw [hF, hlr, hSm]
        simp only [List.cons_append]
        refine t_n (e_store (b := b) (off := 0) (l' := (ndN gn).blk :: (cv1 ++ (rxC b w1 :: (cs ++ (W.map NdS.blk ++ Z.map NdS.blk) ++ G)))) rfl rfl hw8 (.there (upd_pre .here cv1)) (by simp)) rfl rfl ?_
        rintro _ _ ⟨rfl, rfl⟩
        repeat (first | (show OpsS _ _ _ _ _ _ (_ :: _) _ _ _; first | refine ozq ?_ | refine ozs ?_ | refine ozs0 ?_ | refine ozt ?_ | refine ozf ?_ | refine ozn ?_) | refine c_seq ?_ | refine p_then ?_ | refine c_region ?_ | refine s_nil ?_ | refine c_cond_t rfl ?_ | refine c_cond_f rfl ?_ | refine c_block ?_ | refine c_skip ?_ | refine c_exit ?_ | refine p_block ?_ | refine p_then_exit ?_ | refine p_block_here ?_ | refine p_block_on rfl ?_ | refine c_ret ?_ | refine p_then_ret ?_ | refine p_block_ret ?_ | refine p_end ?_ | refine c_if_t rfl (by omega) ?_ | refine c_if_f rfl (by omega) ?_)
        refine k_ret [] rfl (l' := (rxC b w1 :: (cv1 ++ (R gn).map NdS.blk)) ++ G) ?_ (by (repeat (first | apply ResS.nil | (apply rs_tmp; (· rfl)) | (apply rs_cell1; (· rfl); (· ((repeat (first | with_reducible apply List.mem_cons_self | with_reducible apply List.mem_cons_of_mem)); try with_reducible assumption)); (· rfl)) | (apply rs_cellA; (· rfl); (· ((repeat (first | with_reducible apply List.mem_cons_self | with_reducible apply List.mem_cons_of_mem)); try with_reducible assumption)); (· (repeat (first | with_reducible apply LSub.done | with_reducible apply LSub.take | with_reducible apply LSub.drop))))))) ⟨rfl, hfin gn w1 cv1 ?_⟩
        · rw [hpS]; exact Keep.trans (.of_perm List.perm_middle.symm) (keep_add16 _ _ cv1 cs _ _ G)
        · rw [hRe gn, List.length_append, ncs_snoc, hencN]; exact hw1
end Go.Proofs.Ytdbdbhlhdcidpaa

/- Bits: or, and not; a field of a word. Laws of my own, no program's. -/
set_option linter.unusedVariables false
set_option linter.unusedSimpArgs false
namespace Go.Proofs.Ytdbdbhlhdcidpaa
open Go.RowKit
set_option maxRecDepth 20000

section
variable {P : Program} {ro : Option Nat} {N : Nat} {fr : Fr} {R l : List Chunk} {d : Option Nat} {ty t t2 : TypeId} {pos : String} {aft : Array Edge} {g : Option (Nat × Bool)} {x y : Operand} {k k' : IntKind} {i : Int} {n a b : Nat}
theorem q_or (hx : ev fr x = some (.int .u64 (a : Nat))) (hy : ev fr y = some (.int .u64 (b : Nat))) (ha : a < 18446744073709551616) (hb : b < 18446744073709551616) : OpQ P ro N fr R ⟨d, .binOp .or t x y t2, ty, pos, aft, g⟩ (.int .u64 ((a ||| b : Nat) : Int)) :=
  q_bin hx hy (fun _ _ => eqGuard_int _ _ _ _ _) (by
    have e1 : (BitVec.ofInt IntKind.u64.bits ((a : Nat) : Int)).toNat = a := by
      show (BitVec.ofInt 64 ((a : Nat) : Int)).toNat = a
      rw [BitVec.ofInt_natCast, BitVec.toNat_ofNat, Nat.mod_eq_of_lt ha]
    have e2 : (BitVec.ofInt IntKind.u64.bits ((b : Nat) : Int)).toNat = b := by
      show (BitVec.ofInt 64 ((b : Nat) : Int)).toNat = b
      rw [BitVec.ofInt_natCast, BitVec.toNat_ofNat, Nat.mod_eq_of_lt hb]
    simp only [binOp, Op.intBits, BitVec.toNat_or, e1, e2]
    rw [wrapN (Nat.or_lt_two_pow (n := 64) ha hb)]
    rfl)
theorem q_andNot (hx : ev fr x = some (.int .u64 (a : Nat))) (hy : ev fr y = some (.int .u64 (b : Nat))) (ha : a < 18446744073709551616) (hb : b < 18446744073709551616) : OpQ P ro N fr R ⟨d, .binOp .andNot t x y t2, ty, pos, aft, g⟩ (.int .u64 ((a &&& (2 ^ 64 - (b + 1)) : Nat) : Int)) :=
  q_bin hx hy (fun _ _ => eqGuard_int _ _ _ _ _) (by
    have e1 : (BitVec.ofInt IntKind.u64.bits ((a : Nat) : Int)).toNat = a := by
      show (BitVec.ofInt 64 ((a : Nat) : Int)).toNat = a
      rw [BitVec.ofInt_natCast, BitVec.toNat_ofNat, Nat.mod_eq_of_lt ha]
    have e2 : (~~~ BitVec.ofInt IntKind.u64.bits ((b : Nat) : Int)).toNat = 2 ^ 64 - (b + 1) := by
      show (~~~ BitVec.ofInt 64 ((b : Nat) : Int)).toNat = _
      rw [BitVec.toNat_not, BitVec.ofInt_natCast, BitVec.toNat_ofNat, Nat.mod_eq_of_lt hb]; omega
    simp only [binOp, Op.intBits, BitVec.toNat_and, e1, e2]
    rw [wrapN (Nat.lt_of_le_of_lt Nat.and_le_left ha)]
    rfl)
end
/-- a word with n bits from at replaced by v -/
def withN (w at' n v : Nat) : Nat := 2 ^ at' * (2 ^ n * (w / 2 ^ (at' + n)) + v) + w % 2 ^ at'
def fieldN (w at' n : Nat) : Nat := w / 2 ^ at' % 2 ^ n
theorem ones_shl {at' n : Nat} (h : at' + n ≤ 64) : (2 ^ n - 1) * 2 ^ at' < 18446744073709551616 := by
  have h1 : 2 ^ n * 2 ^ at' ≤ 2 ^ 64 := by rw [← Nat.pow_add]; exact Nat.pow_le_pow_right (by omega) (by omega)
  have h2 : 0 < 2 ^ at' := Nat.two_pow_pos _
  have h3 : 0 < 2 ^ n := Nat.two_pow_pos _
  have h4 : (2 ^ n - 1) * 2 ^ at' < 2 ^ n * 2 ^ at' := Nat.mul_lt_mul_of_pos_right (by omega) h2
  exact Nat.lt_of_lt_of_le h4 h1
theorem val_shl {at' n v : Nat} (h : at' + n ≤ 64) (hv : v < 2 ^ n) : v * 2 ^ at' < 18446744073709551616 := by
  have h1 : (2 ^ n - 1) * 2 ^ at' < 18446744073709551616 := ones_shl h
  have h2 : v * 2 ^ at' ≤ (2 ^ n - 1) * 2 ^ at' := Nat.mul_le_mul_right _ (by omega)
  omega
theorem with_bits {w at' n v : Nat} (hv : v < 2 ^ n) (i : Nat) : (withN w at' n v).testBit i = if i < at' then w.testBit i else if i < at' + n then v.testBit (i - at') else w.testBit i := by
  unfold withN
  rw [Nat.testBit_two_pow_mul_add _ (Nat.mod_lt _ (Nat.two_pow_pos _))]
  split
  · rw [Nat.testBit_mod_two_pow]; simp [*]
  · rw [Nat.testBit_two_pow_mul_add _ hv]
    by_cases h : i < at' + n
    · rw [if_pos (by omega), if_pos h]
    · rw [if_neg (by omega), if_neg h, Nat.testBit_div_two_pow]
      congr 1; omega
theorem with_eq {w at' n v : Nat} (hw : w < 18446744073709551616) (h : at' + n ≤ 64) (hv : v < 2 ^ n) : (w &&& (2 ^ 64 - ((2 ^ n - 1) * 2 ^ at' + 1))) ||| v * 2 ^ at' = withN w at' n v := by
  apply Nat.eq_of_testBit_eq
  intro i
  rw [with_bits hv, Nat.testBit_or, Nat.testBit_and, Nat.testBit_two_pow_sub_succ (by exact ones_shl h), Nat.mul_comm _ (2 ^ at'), Nat.mul_comm _ (2 ^ at'), Nat.testBit_two_pow_mul, Nat.testBit_two_pow_mul, Nat.testBit_two_pow_sub_one]
  by_cases h1 : i < at'
  · rw [if_pos h1, decide_eq_false (show ¬ at' ≤ i by omega), decide_eq_true (show i < 64 by omega)]; simp
  · rw [if_neg h1, decide_eq_true (show at' ≤ i by omega)]
    by_cases h2 : i < at' + n
    · rw [if_pos h2, decide_eq_true (show i - at' < n by omega)]; simp
    · rw [if_neg h2, decide_eq_false (show ¬ i - at' < n by omega)]
      have h3 : v.testBit (i - at') = false := Nat.testBit_lt_two_pow (Nat.lt_of_lt_of_le hv (Nat.pow_le_pow_right (by omega) (by omega)))
      rw [h3]
      by_cases h4 : i < 64
      · rw [decide_eq_true h4]; simp
      · have : w.testBit i = false := Nat.testBit_lt_two_pow (Nat.lt_of_lt_of_le hw (by exact Nat.pow_le_pow_right (n := 2) (by omega) (show 64 ≤ i by omega)))
        rw [this]; simp
theorem with_lt {w at' n v : Nat} (hw : w < 18446744073709551616) (h : at' + n ≤ 64) (hv : v < 2 ^ n) : withN w at' n v < 18446744073709551616 := by
  rw [← with_eq hw h hv]
  exact Nat.or_lt_two_pow (n := 64) (Nat.lt_of_le_of_lt Nat.and_le_left hw) (val_shl h hv)
theorem field_eq {w at' n : Nat} : (w / 2 ^ at') &&& (2 ^ n - 1) = fieldN w at' n := Nat.and_two_pow_sub_one_eq_mod _ _
theorem field_lt {w at' n : Nat} : fieldN w at' n < 2 ^ n := Nat.mod_lt _ (Nat.two_pow_pos _)
end Go.Proofs.Ytdbdbhlhdcidpaa

/- Fields of a word. -/
set_option linter.unusedVariables false
set_option linter.unusedSimpArgs false
namespace Go.Proofs.Ytdbdbhlhdcidpaa
open Go.RowKit
set_option maxRecDepth 20000

set_option pp.deepTerms false
set_option pp.deepTerms.threshold 4
set_option maxHeartbeats 400000
theorem wmay_any (a n : Nat) (h1 : 1 ≤ n) (h2 : a + n ≤ 64) (l : List Chunk) : Fn Try.prog 66 [.int .i64 (a : Nat), .int .i64 (n : Nat)] l fun v l' => v = .bool true ∧ l' = l := by
  refine fn_of_body Try.func66 rfl rfl fun E => ?_
  simp only [argF, Try.ntmps66]
  repeat (first | (show OpsS _ _ _ _ _ _ (_ :: _) _ _ _; first | refine ozq ?_ | refine ozs ?_ | refine ozs0 ?_ | refine ozt ?_ | refine ozf ?_) | refine c_seq ?_ | refine p_then ?_ | refine c_region ?_ | refine s_nil ?_ | refine c_ret ?_ | refine p_then_ret ?_ | refine p_end ?_)
  refine k_ret [] rfl .refl (by (repeat (first | apply ResS.nil | (apply rs_tmp; (· rfl)) | (apply rs_cell1; (· rfl); (· ((repeat (first | with_reducible apply List.mem_cons_self | with_reducible apply List.mem_cons_of_mem)); try with_reducible assumption)); (· rfl)) | (apply rs_cellA; (· rfl); (· ((repeat (first | with_reducible apply List.mem_cons_self | with_reducible apply List.mem_cons_of_mem)); try with_reducible assumption)); (· (repeat (first | with_reducible apply LSub.done | with_reducible apply LSub.take | with_reducible apply LSub.drop))))))) ⟨?_, rfl⟩
  rw [decide_eq_true (by omega)]; rfl
theorem wones_any (n : Nat) (h1 : 1 ≤ n) (h2 : n ≤ 63) (l : List Chunk) : Fn Try.prog 67 [.int .i64 (n : Nat)] l fun v l' => v = .int .u64 ((2 ^ n - 1 : Nat) : Int) ∧ l' = l := by
  refine fn_of_body Try.func67 rfl rfl fun E => ?_
  simp only [argF, Try.ntmps67]
  have hp : 2 ^ n ≤ 2 ^ 63 := Nat.pow_le_pow_right (by omega) h2
  have hp0 : 0 < 2 ^ n := Nat.two_pow_pos _
  have hw : IntKind.u64.wrap (1 * 2 ^ n) = ((2 ^ n : Nat) : Int) := by
    rw [Int.one_mul, show (2 : Int) ^ n = ((2 ^ n : Nat) : Int) by simp, wrapN (by omega)]
  repeat (first | (show OpsS _ _ _ _ _ _ (_ :: _) _ _ _; first | refine ozq ?_) | refine c_seq ?_ | refine p_then ?_ | refine c_region ?_ | refine s_nil ?_ | refine c_cond_t rfl ?_ | refine c_cond_f rfl ?_ | refine c_block ?_ | refine c_skip ?_ | refine p_block ?_ | refine p_block_here ?_ | refine p_block_on rfl ?_ | refine c_ret ?_ | refine p_then_ret ?_ | refine p_block_ret ?_ | refine p_end ?_ | refine c_if_t rfl (by omega) ?_ | refine c_if_f rfl (by omega) ?_)
  refine t_q (q_shl (n := n) (i := 1) rfl rfl (by show n ≤ 64; omega)) rfl rfl rfl ?_
  rw [hw]
  obtain ⟨q, hq⟩ : ∃ q, 2 ^ n = q := ⟨_, rfl⟩
  rw [hq] at hp hp0 ⊢
  refine t_q (q_sub (i := ((q : Nat) : Int)) (j := 1) rfl rfl ⟨by omega, by omega⟩) rfl rfl rfl ?_
  repeat (first | (show OpsS _ _ _ _ _ _ (_ :: _) _ _ _; first | refine ozq ?_) | refine c_seq ?_ | refine p_then ?_ | refine c_region ?_ | refine s_nil ?_ | refine c_cond_t rfl ?_ | refine c_cond_f rfl ?_ | refine c_block ?_ | refine c_skip ?_ | refine p_block ?_ | refine p_block_here ?_ | refine p_block_on rfl ?_ | refine c_ret ?_ | refine p_then_ret ?_ | refine p_block_ret ?_ | refine p_end ?_ | refine c_if_t rfl (by omega) ?_ | refine c_if_f rfl (by omega) ?_)
  refine k_ret [] rfl .refl (by (repeat (first | apply ResS.nil | (apply rs_tmp; (· rfl)) | (apply rs_cell1; (· rfl); (· ((repeat (first | with_reducible apply List.mem_cons_self | with_reducible apply List.mem_cons_of_mem)); try with_reducible assumption)); (· rfl)) | (apply rs_cellA; (· rfl); (· ((repeat (first | with_reducible apply List.mem_cons_self | with_reducible apply List.mem_cons_of_mem)); try with_reducible assumption)); (· (repeat (first | with_reducible apply LSub.done | with_reducible apply LSub.take | with_reducible apply LSub.drop))))))) ⟨?_, rfl⟩
  rw [show ((q : Nat) : Int) - 1 = ((q - 1 : Nat) : Int) by omega]; rfl
theorem field_any (w a n : Nat) (hw : w < 18446744073709551616) (h1 : 1 ≤ n) (h2 : n ≤ 63) (h3 : a + n ≤ 64) (l : List Chunk) :
    Fn Try.prog 48 [.int .u64 (w : Nat), .int .i64 (a : Nat), .int .i64 (n : Nat)] l fun r l' => r = .tuple #[.int .u64 (fieldN w a n : Nat), .int .i64 0] ∧ l' = l := by
  have hp : 2 ^ n - 1 < 18446744073709551616 := by have : 2 ^ n ≤ 2 ^ 63 := Nat.pow_le_pow_right (by omega) h2; omega
  refine fn_of_body Try.func48 rfl rfl fun E => ?_
  simp only [argF, Try.ntmps48]
  repeat (first | (show OpsS _ _ _ _ _ _ (_ :: _) _ _ _; first | refine ozq ?_) | refine c_seq ?_ | refine p_then ?_ | refine c_region ?_ | refine s_nil ?_ | refine c_cond_t rfl ?_ | refine c_cond_f rfl ?_ | refine c_skip ?_ | refine c_ret ?_ | refine p_then_ret ?_ | refine p_end ?_ | refine c_if_t rfl (by omega) ?_ | refine c_if_f rfl (by omega) ?_)
  refine t_q (q_call rfl rfl fun l2 _ => wmay_any a n h1 h3 l2) rfl rfl rfl ?_
  repeat (first | (show OpsS _ _ _ _ _ _ (_ :: _) _ _ _; first | refine ozq ?_) | refine c_seq ?_ | refine p_then ?_ | refine c_region ?_ | refine s_nil ?_ | refine c_cond_t rfl ?_ | refine c_cond_f rfl ?_ | refine c_skip ?_ | refine c_ret ?_ | refine p_then_ret ?_ | refine p_end ?_ | refine c_if_t rfl (by omega) ?_ | refine c_if_f rfl (by omega) ?_)
  refine t_q (q_shr (n := a) rfl rfl (by show a ≤ 64; omega)) rfl rfl rfl ?_
  rw [show ((w : Nat) : Int) / 2 ^ a = ((w / 2 ^ a : Nat) : Int) by norm_cast]
  repeat (first | (show OpsS _ _ _ _ _ _ (_ :: _) _ _ _; first | refine ozq ?_) | refine c_seq ?_ | refine p_then ?_ | refine c_region ?_ | refine s_nil ?_ | refine c_cond_t rfl ?_ | refine c_cond_f rfl ?_ | refine c_skip ?_ | refine c_ret ?_ | refine p_then_ret ?_ | refine p_end ?_ | refine c_if_t rfl (by omega) ?_ | refine c_if_f rfl (by omega) ?_)
  refine t_q (q_call rfl rfl fun l2 _ => wones_any n h1 h2 l2) rfl rfl rfl ?_
  refine t_q (q_and rfl rfl (Nat.lt_of_le_of_lt (Nat.div_le_self _ _) hw) hp) rfl rfl rfl ?_
  rw [field_eq]
  repeat (first | (show OpsS _ _ _ _ _ _ (_ :: _) _ _ _; first | refine ozq ?_) | refine c_seq ?_ | refine p_then ?_ | refine c_region ?_ | refine s_nil ?_ | refine c_cond_t rfl ?_ | refine c_cond_f rfl ?_ | refine c_skip ?_ | refine c_ret ?_ | refine p_then_ret ?_ | refine p_end ?_ | refine c_if_t rfl (by omega) ?_ | refine c_if_f rfl (by omega) ?_)
  exact k_ret [] rfl .refl (by (repeat (first | apply ResS.nil | (apply rs_tmp; (· rfl)) | (apply rs_cell1; (· rfl); (· ((repeat (first | with_reducible apply List.mem_cons_self | with_reducible apply List.mem_cons_of_mem)); try with_reducible assumption)); (· rfl)) | (apply rs_cellA; (· rfl); (· ((repeat (first | with_reducible apply List.mem_cons_self | with_reducible apply List.mem_cons_of_mem)); try with_reducible assumption)); (· (repeat (first | with_reducible apply LSub.done | with_reducible apply LSub.take | with_reducible apply LSub.drop))))))) ⟨rfl, rfl⟩
end Go.Proofs.Ytdbdbhlhdcidpaa

/- copy, cap, append of zeros, slices.overlaps. Laws of my own, no program's. -/
set_option linter.unusedVariables false
set_option linter.unusedSimpArgs false
namespace Go.Proofs.Ytdbdbhlhdcidpaa.Ar
open Go.RowKit
set_option maxRecDepth 20000

theorem run_copy_k {P : Program} (w : World) (dT sT ty elem : TypeId) (i : TypeInfo) (g o dLen dCap : Nat) (a : Addr) (sLen sCap : Nat) (cur : Array Value) (t : TypeId) (cs : List Value)
    (hu : P.underlying dT = some (.slice elem)) (hi : P.info? elem = some i)
    (hg : w.heap[g]? = some (.cells cur t (0, 0))) (hn : cs.length = Nat.min sLen dLen * i.size)
    (hsrc : ∀ j v, cs[j]? = some v → w.cell? (a.add j) = some v) (hfit : o + cs.length ≤ cur.size) (h1 : ∀ v ∈ cs, v.oneCell' = true) :
    (Builtin.copy_ #[dT, sT] ty #[.slice (some ⟨g, o, none⟩) dLen dCap, .slice (some a) sLen sCap]).run P w =
      .ok (goInt (Nat.min sLen dLen)) (w.setRow g (cur.toList.take o ++ cs ++ cur.toList.drop (o + cs.length)).toArray) := by
  have hl := run_firstCells_some (P := P) (w := w) i.size (Nat.min sLen dLen) a sLen sCap cs hn hsrc
  have hst := run_storeCells_at P g o t cs 0 cur w hg (by simpa using hfit) h1
  simp only [Nat.add_zero] at hst
  have e1 : (Builtin.lenOf (.slice (some a) sLen sCap)).run P w = .ok sLen w := rfl
  have e2 : (sizeOf elem).run P w = .ok i.size w := by simp [sizeOf, typeInfo, hi]
  unfold Builtin.copy_
  simp only [List.getElem?_toArray, List.getElem?_cons_zero, List.getElem?_cons_succ, Sem.run_bind, run_underlying hu, Result.andThen_ok, e1, e2, hl, hst]
  rfl
theorem run_append_zeros {P : Program} (w : World) (t tn ty e : TypeId) (i : TypeInfo) (z : Value) (k kn : IntKind) (ht : P.underlying t = some (.slice e)) (htn : P.underlying tn = some (.int kn)) (hi : P.info? e = some i) (hz : i.zero = some z)
    (b : Addr) (sLen sCap : Nat) (olds : List Value) (hlo : olds.length = sLen * i.size) (holds : ∀ j v, olds[j]? = some v → w.cell? (b.add j) = some v)
    (n : Nat) (h0 : 0 < n) (hs : 0 < i.size) (hg : sCap < sLen + n) (h63 : sLen + n ≤ 1000000) (hby : i.bytes ≤ 1000) (hfit : Builtin.nextslicecap (sLen + n) sCap * i.bytes ≤ 281474976710656) :
    (Builtin.append_ #[t, tn] ty #[.slice (some b) sLen sCap, .int k n]).run P w =
      .ok (.slice (some ⟨w.heap.size, 0, none⟩) (sLen + n) (grownCap w (sLen + n) sCap e)) (w.drew.alloc (.cells (olds.toArray ++ Builtin.zeroCells z.cells n ++ Builtin.zeroCells z.cells (grownCap w (sLen + n) sCap e - (sLen + n))) e)) := by
  have hw : IntKind.i64.wrap (n : Int) = n := by rw [IntKind.wrap_i64]; omega
  have h48 : (n : Int) * (i.bytes : Int) ≤ 1000000000 := by
    have : n * i.bytes ≤ 1000000 * 1000 := Nat.mul_le_mul (by omega) hby
    rw [← Int.natCast_mul]; omega
  have h48i : ¬ (281474976710656 < (n : Int) * (i.bytes : Int)) := by omega
  have hneg : ¬ ((n : Int) < 0) := by omega
  have hns : ¬ (n * i.size = 0) := Nat.mul_ne_zero (by omega) (by omega)
  have hn : ¬ (sLen + n ≤ sCap) := by omega
  have h63' : ¬ (9223372036854775807 < ((sLen : Int) + (n : Int))) := by omega
  have h48' : ¬ (281474976710656 < Builtin.nextslicecap (sLen + n) sCap * i.bytes) := by omega
  have hfo := run_firstCells_some (P := P) (w := w.drew) i.size sLen b sLen sCap olds hlo (by simpa using holds)
  simp [Builtin.append_, run_underlying ht, run_underlying htn, sizeOf, typeInfo, zeroValue, hi, hz, asInt, asIntOf, hw, hn, hneg, hns, h63', h48', h48i, Question.forced, hfo, newRow, grownCap]

section
variable {P : Program} {ro : Option Nat} {N : Nat} {fr : Fr} {R l : List Chunk} {d : Option Nat} {ty t : TypeId} {pos : String} {aft : Array Edge} {g : Option (Nat × Bool)} {x y s : Operand} {off b : Nat}
theorem q_cap {p : Option Addr} {n cap e kk yb : Nat} (hx : ev fr x = some (.slice p n cap)) [c : ST P t e kk yb] : OpQ P ro N fr R ⟨d, .call { callee := .builtin .cap, args := #[x], argTypes := #[t] }, ty, pos, aft, g⟩ (.int .i64 (cap : Nat)) := opQ_of_sl rfl fun ρ l hρ _ => by
  obtain ⟨inf, h1, _⟩ := stV_spec c.out
  simp only [execOp, resolve, sl_bind, sl_pure, invoke, builtin, List.map_toArray, List.map_cons, List.map_nil, hρ x _ hx, Builtin.cap_]
  show sl P (underlying t >>= _) l _
  rw [sl_under h1]
  exact ⟨rfl, rfl⟩
/-- copy: as many elements as the shorter one has -/
theorem e_copyK {T T2 e k yb gb o sb so dLen dCap sLen sCap m : Nat} {cur cs : List Value} {cl : Array Value} {ct : TypeId} {fz : Nat × Nat} {F : List Chunk} (hx : ev fr x = some (.slice (some ⟨gb, o, none⟩) dLen dCap)) (hy : ev fr y = some (.slice (some ⟨sb, so, none⟩) sLen sCap)) [c : ST P T e k yb]
    (hm : Nat.min sLen dLen = m) (hl : cs.length = m * k) (hs : (sb, Obj.cells cl ct fz) ∈ (gb, .cells (List.toArray cur) e (0, 0)) :: F) (hsrc : ∀ j u, cs[j]? = some u → cl[so + j]? = some u) (hfit : o + cs.length ≤ cur.length) (h1 : ∀ u ∈ cs, u.oneCell' = true) :
    OpE P ro N fr ((gb, .cells (List.toArray cur) e (0, 0)) :: F) ⟨d, .call { callee := .builtin .copy, args := #[x, y], argTypes := #[T, T2] }, ty, pos, aft, g⟩ (fun v' l' => v' = .int .i64 (m : Nat) ∧ l' = (gb, .cells (List.toArray (cur.take o ++ cs ++ cur.drop (o + cs.length))) e (0, 0)) :: F) := by
  subst hm
  refine ⟨rfl, fun E a W hf hs' => ?_⟩
  have hρ := hf.agrees
  obtain ⟨inf, u1, u2, u3, u4⟩ := stV_spec c.out
  have hex : execOp a.eval ⟨d, .call { callee := .builtin .copy, args := #[x, y], argTypes := #[T, T2] }, ty, pos, aft, g⟩ = (do pure (.value (← Builtin.copy_ #[T, T2] ty #[.slice (some ⟨gb, o, none⟩) dLen dCap, .slice (some ⟨sb, so, none⟩) sLen sCap])) : Sem Next) := by
    simp [execOp, resolve, hρ x _ hx, hρ y _ hy, invoke, builtin]
  unfold OpVal
  rw [hex, Sem.run_bind]
  have hr := run_copy_k (P := P) W T T2 ty e inf gb o dLen dCap ⟨sb, so, none⟩ sLen sCap (List.toArray cur) e cs u1 u2 (hs'.has (gb, _) List.mem_cons_self) (by rw [u3]; exact hl) (fun j u hj => by rw [addr_add, hs'.cell hs]; exact hsrc j u hj) (by simpa using hfit) h1
  rw [hr]
  exact ⟨_, ⟨rfl, rfl⟩, hs'.row⟩
/-- nothing is copied -/
theorem e_copyNo {T T2 e k yb dLen dCap sLen sCap : Nat} {p q : Option Addr} (hx : ev fr x = some (.slice p dLen dCap)) (hy : ev fr y = some (.slice q sLen sCap)) [c : ST P T e k yb] (hm : Nat.min sLen dLen = 0) :
    OpE P ro N fr l ⟨d, .call { callee := .builtin .copy, args := #[x, y], argTypes := #[T, T2] }, ty, pos, aft, g⟩ (fun v' l' => v' = .int .i64 0 ∧ l' = l) := by
  refine ⟨rfl, fun E a W hf hs' => ?_⟩
  have hρ := hf.agrees
  obtain ⟨inf, u1, u2, u3, u4⟩ := stV_spec c.out
  have hex : execOp a.eval ⟨d, .call { callee := .builtin .copy, args := #[x, y], argTypes := #[T, T2] }, ty, pos, aft, g⟩ = (do pure (.value (← Builtin.copy_ #[T, T2] ty #[.slice p dLen dCap, .slice q sLen sCap])) : Sem Next) := by
    simp [execOp, resolve, hρ x _ hx, hρ y _ hy, invoke, builtin]
  unfold OpVal
  rw [hex, Sem.run_bind]
  have hr : (Builtin.copy_ #[T, T2] ty #[.slice p dLen dCap, .slice q sLen sCap]).run P W = .ok (goInt 0) W := by
    cases p <;> cases q <;> simp [Builtin.copy_, run_underlying u1, sizeOf, typeInfo, u2, Builtin.lenOf, Builtin.firstCells, hm, storeCells, loadCells, loadCellsFrom]
  rw [hr]
  exact ⟨_, ⟨rfl, rfl⟩, hs'⟩
/-- zeros appended where there is no room -/
theorem e_appendZ {T tn e k yb n m gb cap : Nat} {xs sp zs : List Value} {F : List Chunk} (hx : ev fr s = some (.slice (some ⟨gb, 0, none⟩) n cap)) (hy : ev fr x = some (.int .i64 (m : Nat))) [c : ST P T e k yb] [cz : ZV P e zs] [ci : IT P tn .i64] (hzs : zs.length = k) (hk : 0 < k)
    (hxs : xs.length = n * k) (hm0 : 0 < m) (hroom : cap < n + m) (hn : n + m ≤ 1000000) (hby : yb ≤ 1000) :
    OpE P ro N fr ((gb, .cells (List.toArray (xs ++ sp)) e (0, 0)) :: F) ⟨d, .call { callee := .builtin .append, args := #[s, x], argTypes := #[T, tn] }, ty, pos, aft, g⟩ (fun v' l' => ∃ nb cap' sp', (∀ c, c ∈ (gb, Obj.cells (List.toArray (xs ++ sp)) e (0, 0)) :: F → c.1 ≠ nb) ∧ v' = .slice (some ⟨nb, 0, none⟩) (n + m) cap' ∧ l' = (nb, .cells (List.toArray (xs ++ (List.replicate m zs).flatten ++ sp')) e (0, 0)) :: (gb, .cells (List.toArray (xs ++ sp)) e (0, 0)) :: F ∧ n + m ≤ cap' ∧ cap' ≤ maxLen ∧ (xs ++ (List.replicate m zs).flatten ++ sp').length = cap' * k) := by
  refine ⟨rfl, fun E a W hf hs => ?_⟩
  have hρ := hf.agrees
  obtain ⟨inf, u1, u2, u3, u4⟩ := stV_spec c.out
  obtain ⟨inf', zv, z1, z2, z3⟩ := zvV_spec cz.out
  rw [u2] at z1; cases z1
  have hu := itV_spec ci.out
  have hex : execOp a.eval ⟨d, .call { callee := .builtin .append, args := #[s, x], argTypes := #[T, tn] }, ty, pos, aft, g⟩ = (do pure (.value (← Builtin.append_ #[T, tn] ty #[.slice (some ⟨gb, 0, none⟩) n cap, .int .i64 (m : Nat)])) : Sem Next) := by
    simp [execOp, resolve, hρ s _ hx, hρ x _ hy, invoke, builtin]
  unfold OpVal
  rw [hex, Sem.run_bind]
  have hzc : zv.cells = List.toArray zs := by rw [← z3]
  have hold : ∀ j u, xs[j]? = some u → W.cell? ((⟨gb, 0, none⟩ : Addr).add j) = some u := fun j u hj => by
    rw [addr_add, hs.cell List.mem_cons_self, Nat.zero_add]
    have hlt := (List.getElem?_eq_some_iff.1 hj).1
    simp only [List.getElem?_toArray]
    rw [List.getElem?_append_left hlt]
    exact hj
  have hb2 : (n + m) * yb ≤ 140737488355328 := by
    have := Nat.mul_le_mul hn hby; omega
  have hr := run_append_zeros (P := P) W T tn ty e inf zv .i64 .i64 u1 hu u2 z2 ⟨gb, 0, none⟩ n cap xs (by rw [u3]; exact hxs) hold m hm0 (by rw [u3]; exact hk) hroom hn (by rw [u4]; exact hby) (growslice_fits (by omega) (by rw [u4]; exact hb2))
  rw [hr]
  have hsz := size_zeroCells zv.cells (grownCap W (n + m) cap e - (n + m))
  have hzm : Builtin.zeroCells zv.cells m = List.toArray (List.replicate m zs).flatten := by
    unfold Builtin.zeroCells
    have hk2 : 0 < m * k := Nat.mul_pos hm0 hk
    have := row_zeros hzc hzs hk2
    rw [show zv.cells.size = k by rw [hzc]; simpa using hzs]
    rw [← this, show zv.cells.size = k by rw [hzc]; simpa using hzs]
  refine ⟨_, ⟨W.heap.size, grownCap W (n + m) cap e, (Builtin.zeroCells zv.cells (grownCap W (n + m) cap e - (n + m))).toList, fun c hc => ?_, rfl, rfl, grownCap_ge _ _ _ _, grownCap_le_maxLen _ _ _ _ (by unfold maxLen; omega), ?_⟩, ?_⟩
  · intro e1
    have := hs.has c hc
    rw [e1] at this
    simp at this
  · have hge := grownCap_ge W (n + m) cap e
    have h1 : (Builtin.zeroCells zv.cells (grownCap W (n + m) cap e - (n + m))).toList.length = (grownCap W (n + m) cap e - (n + m)) * k := by
      rw [Array.length_toList, hsz, show zv.cells.size = k by rw [hzc]; simpa using hzs]
    have : (List.replicate m zs).flatten.length = m * k := by simp [hzs]
    rw [List.length_append, List.length_append, hxs, h1, this, ← Nat.add_mul, ← Nat.add_mul]
    congr 1; omega
  · have h2 := hs.drew.alloc (.cells (xs.toArray ++ Builtin.zeroCells zv.cells m ++ Builtin.zeroCells zv.cells (grownCap W (n + m) cap e - (n + m))) e)
    have e1 : W.drew.heap.size = W.heap.size := rfl
    rw [e1] at h2
    have e2 : List.toArray (xs ++ (List.replicate m zs).flatten ++ (Builtin.zeroCells zv.cells (grownCap W (n + m) cap e - (n + m))).toList) = xs.toArray ++ Builtin.zeroCells zv.cells m ++ Builtin.zeroCells zv.cells (grownCap W (n + m) cap e - (n + m)) := by
      rw [hzm]; apply Array.toList_inj.1; simp
    rw [e2]
    exact h2
/-- what is in two blocks does not overlap -/
theorem q_overlaps {f T e k yb : Nat} {fn : Func} {at_ : Array TypeId} {a1 o1 a2 o2 n1 c1 n2 c2 : Nat} {cl1 cl2 : Array Value} {t1 t2 : TypeId} (hfx : ev fr s = some (.func (.func f) #[] #[])) (hx : ev fr x = some (.slice (some ⟨a1, o1, none⟩) n1 c1)) (hy : ev fr y = some (.slice (some ⟨a2, o2, none⟩) n2 c2)) [c : ST P T e k yb]
    (hf : P.funcs[f]? = some fn) (hfn : (fn.name == "runtime.NumGoroutine") = false) (hb : fn.body.isNone = true) (hnx : Extern.findNext fn = none) (tR : TypeId) (hext : Extern.find fn = some (Extern.SlicesOverlaps.overlaps #[T, T] #[tR]))
    (h1 : (a1, Obj.cells cl1 t1 (0, 0)) ∈ R) (h2 : (a2, Obj.cells cl2 t2 (0, 0)) ∈ R) (hne : a1 ≠ a2) (h0 : 0 < cl2.size) :
    OpQ P ro N fr R ⟨d, .call { callee := .value s, args := #[x, y], argTypes := at_ }, ty, pos, aft, g⟩ (.bool false) := by
  refine ⟨fun l hl => ⟨rfl, fun E a W hfs hs => ?_⟩⟩
  have hρ := hfs.agrees
  obtain ⟨inf, u1, u2, u3, u4⟩ := stV_spec c.out
  have k1 := hs.has _ (hl _ h1)
  have k2 := hs.has _ (hl _ h2)
  simp only at k1 k2
  have hr := Lib.run_overlaps_apart (P := P) W T tR e u1 inf.size (fun w => by simp [sizeOf, typeInfo, u2]) ⟨a1, o1, none⟩ ⟨a2, o2, none⟩ n1 c1 n2 c2 hne t1 t2 cl1.size cl2.size (by simp [World.shape?, k1]) (by simp [World.shape?, k2]) (by omega) (by simp [World.frozen?, k1]) (by simp [World.frozen?, k1])
  have hc := run_callFunc_extern (P := P) hf hfn hb hnx hext #[.slice (some ⟨a1, o1, none⟩) n1 c1, .slice (some ⟨a2, o2, none⟩) n2 c2] W
  unfold OpVal
  have hex : (execOp a.eval ⟨d, .call { callee := .value s, args := #[x, y], argTypes := at_ }, ty, pos, aft, g⟩).run P W = .ok (.value (.bool false)) W := by
    simp only [execOp, resolve, List.map_toArray, List.map_cons, List.map_nil, hρ s _ hfx, hρ x _ hx, hρ y _ hy, Deferred.ofValue, Sem.run_bind]
    simp only [Sem.run_pure, Result.andThen, invoke]
    simp only [Array.append_empty, Array.empty_append]
    rw [hc, hr]
    rfl
  rw [hex]
  exact ⟨_, ⟨rfl, rfl⟩, hs⟩
end
end Go.Proofs.Ytdbdbhlhdcidpaa.Ar
