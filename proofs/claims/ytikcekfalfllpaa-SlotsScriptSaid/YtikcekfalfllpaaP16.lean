/- Chapter 15's own answer: Add. -/
import Derived.Test.YtikcekfalfllpaaU0
import Derived.Test.YtikcekfalfllpaaP15
set_option linter.unusedVariables false
set_option linter.unusedSimpArgs false
namespace Go.Proofs.Ytikcekfalfllpaa
open Go.RowKit

theorem ncs_snoc (S : List NdS) (x : NdS) : ncs (S ++ [x]) = ncs S ++ encN x := by simp [ncs]
theorem ins_asc {α : Type} {key : α → Int} {L : List α} {t : α} (h : L.Pairwise fun x y => key x < key y) (hn : findK key L (key t) = none) : (insK key L t).Pairwise fun x y => key x < key y := by
  obtain ⟨W, Z, e1, e2, hL, hall, hgt⟩ := ins_split h (findK_none.1 hn)
  have hi : insK key L t = W ++ t :: Z := by unfold insK; rw [e1, e2]
  rw [hL, List.pairwise_append] at h
  rw [hi]
  refine List.pairwise_append.2 ⟨h.1, List.pairwise_cons.2 ⟨fun x hx => hgt x hx, h.2.1⟩, fun x hx y hy => ?_⟩
  have h1 := hall x hx
  rcases List.mem_cons.1 hy with rfl | hy
  · exact h1
  · have := hgt y hy; omega
theorem keep_add16 (x y : Chunk) (cv cs W Z G : List Chunk) : Keep (cv ++ (y :: (x :: (cs ++ (W ++ Z) ++ G)))) ((x :: (cv ++ (W ++ y :: Z))) ++ G) := by
  refine ⟨cs, ?_⟩
  have e1 : (cv ++ (y :: (x :: (cs ++ (W ++ Z) ++ G)))) = cv ++ ([y] ++ ([x] ++ (cs ++ (W ++ (Z ++ G))))) := by simp
  have e2 : (cs ++ ((x :: (cv ++ (W ++ y :: Z))) ++ G)) = cs ++ ([x] ++ (cv ++ (W ++ ([y] ++ (Z ++ G))))) := by simp
  rw [e1, e2]
  have h1 : (cv ++ ([y] ++ ([x] ++ (cs ++ (W ++ (Z ++ G)))))).Perm (cv ++ ([x] ++ (cs ++ (W ++ ([y] ++ (Z ++ G)))))) := by
    refine List.Perm.append_left cv ?_
    refine (List.perm_append_comm_assoc [y] [x] _).trans (List.Perm.append_left [x] ?_)
    refine (List.perm_append_comm_assoc [y] cs _).trans (List.Perm.append_left cs ?_)
    exact List.perm_append_comm_assoc [y] W _
  refine h1.trans ?_
  refine (List.perm_append_comm_assoc cv [x] _).trans ?_
  have h2 : ([x] ++ (cv ++ (cs ++ (W ++ ([y] ++ (Z ++ G)))))).Perm ([x] ++ (cs ++ (cv ++ (W ++ ([y] ++ (Z ++ G)))))) := (List.perm_append_comm_assoc cv cs _).append_left [x]
  exact h2.trans (List.perm_append_comm_assoc [x] cs _)
set_option pp.deepTerms false
set_option pp.deepTerms.threshold 4
set_option maxHeartbeats 400000
theorem radd_any (b : Nat) (D : SD) (lr : List Chunk) (hr : IsR b D lr) (hn : D.length ≤ 900000) (id n : Int) (G : List Chunk) :
    Fn Try.prog 10 [.pointer (some ⟨b, 0, none⟩), .int .i64 id, .int .i64 n] (lr ++ G) fun v l' => v = .int .i64 (addN D id n).1 ∧ ∃ lr', IsR b (addN D id n).2 lr' ∧ l' = lr' ++ G := by
  have hr0 := hr
  obtain ⟨S, v, cs, rfl, hS⟩ := hr
  have hn2 : S.length ≤ 900000 := by simpa using hn
  refine fn_of_body Try.func10 rfl rfl fun E => ?_
  simp only [argF, Try.ntmps10]
  by_cases h1 : id < 1
  · rw [show addN (S.map NdS.d) id n = (2, S.map NdS.d) by unfold addN; rw [if_pos (.inl h1)]]
    repeat (first | (show OpsS _ _ _ _ _ _ (_ :: _) _ _ _; first | refine ozq ?_ | refine ozs ?_ | refine ozs0 ?_ | refine ozt ?_ | refine ozf ?_ | refine ozn ?_) | refine c_seq ?_ | refine p_then ?_ | refine c_region ?_ | refine s_nil ?_ | refine c_cond_t rfl ?_ | refine c_cond_f rfl ?_ | refine c_block ?_ | refine c_skip ?_ | refine c_exit ?_ | refine p_block ?_ | refine p_then_exit ?_ | refine p_block_here ?_ | refine p_block_on rfl ?_ | refine c_ret ?_ | refine p_then_ret ?_ | refine p_block_ret ?_ | refine p_end ?_ | refine c_if_t rfl (by omega) ?_ | refine c_if_f rfl (by omega) ?_)
    exact k_ret [] rfl .refl (by (repeat (first | apply ResS.nil | (apply rs_tmp; (· rfl)) | (apply rs_cell1; (· rfl); (· ((repeat (first | with_reducible apply List.mem_cons_self | with_reducible apply List.mem_cons_of_mem)); try with_reducible assumption)); (· rfl)) | (apply rs_cellA; (· rfl); (· ((repeat (first | with_reducible apply List.mem_cons_self | with_reducible apply List.mem_cons_of_mem)); try with_reducible assumption)); (· (repeat (first | with_reducible apply LSub.done | with_reducible apply LSub.take | with_reducible apply LSub.drop))))))) ⟨rfl, _, hr0, rfl⟩
  by_cases h2 : n < 1
  · rw [show addN (S.map NdS.d) id n = (2, S.map NdS.d) by unfold addN; rw [if_pos (.inr (.inl h2))]]
    repeat (first | (show OpsS _ _ _ _ _ _ (_ :: _) _ _ _; first | refine ozq ?_ | refine ozs ?_ | refine ozs0 ?_ | refine ozt ?_ | refine ozf ?_ | refine ozn ?_) | refine c_seq ?_ | refine p_then ?_ | refine c_region ?_ | refine s_nil ?_ | refine c_cond_t rfl ?_ | refine c_cond_f rfl ?_ | refine c_block ?_ | refine c_skip ?_ | refine c_exit ?_ | refine p_block ?_ | refine p_then_exit ?_ | refine p_block_here ?_ | refine p_block_on rfl ?_ | refine c_ret ?_ | refine p_then_ret ?_ | refine p_block_ret ?_ | refine p_end ?_ | refine c_if_t rfl (by omega) ?_ | refine c_if_f rfl (by omega) ?_)
    exact k_ret [] rfl .refl (by (repeat (first | apply ResS.nil | (apply rs_tmp; (· rfl)) | (apply rs_cell1; (· rfl); (· ((repeat (first | with_reducible apply List.mem_cons_self | with_reducible apply List.mem_cons_of_mem)); try with_reducible assumption)); (· rfl)) | (apply rs_cellA; (· rfl); (· ((repeat (first | with_reducible apply List.mem_cons_self | with_reducible apply List.mem_cons_of_mem)); try with_reducible assumption)); (· (repeat (first | with_reducible apply LSub.done | with_reducible apply LSub.take | with_reducible apply LSub.drop))))))) ⟨rfl, _, hr0, rfl⟩
  by_cases h3 : 16 < n
  · rw [show addN (S.map NdS.d) id n = (2, S.map NdS.d) by unfold addN; rw [if_pos (.inr (.inr h3))]]
    repeat (first | (show OpsS _ _ _ _ _ _ (_ :: _) _ _ _; first | refine ozq ?_ | refine ozs ?_ | refine ozs0 ?_ | refine ozt ?_ | refine ozf ?_ | refine ozn ?_) | refine c_seq ?_ | refine p_then ?_ | refine c_region ?_ | refine s_nil ?_ | refine c_cond_t rfl ?_ | refine c_cond_f rfl ?_ | refine c_block ?_ | refine c_skip ?_ | refine c_exit ?_ | refine p_block ?_ | refine p_then_exit ?_ | refine p_block_here ?_ | refine p_block_on rfl ?_ | refine c_ret ?_ | refine p_then_ret ?_ | refine p_block_ret ?_ | refine p_end ?_ | refine c_if_t rfl (by omega) ?_ | refine c_if_f rfl (by omega) ?_)
    exact k_ret [] rfl .refl (by (repeat (first | apply ResS.nil | (apply rs_tmp; (· rfl)) | (apply rs_cell1; (· rfl); (· ((repeat (first | with_reducible apply List.mem_cons_self | with_reducible apply List.mem_cons_of_mem)); try with_reducible assumption)); (· rfl)) | (apply rs_cellA; (· rfl); (· ((repeat (first | with_reducible apply List.mem_cons_self | with_reducible apply List.mem_cons_of_mem)); try with_reducible assumption)); (· (repeat (first | with_reducible apply LSub.done | with_reducible apply LSub.take | with_reducible apply LSub.drop))))))) ⟨rfl, _, hr0, rfl⟩
  have h123 : ¬ (id < 1 ∨ n < 1 ∨ 16 < n) := by omega
  obtain ⟨k, rfl⟩ : ∃ k : Nat, n = (k : Nat) := ⟨n.toNat, by omega⟩
  repeat (first | (show OpsS _ _ _ _ _ _ (_ :: _) _ _ _; first | refine ozq ?_ | refine ozs ?_ | refine ozs0 ?_ | refine ozt ?_ | refine ozf ?_ | refine ozn ?_) | refine c_seq ?_ | refine p_then ?_ | refine c_region ?_ | refine s_nil ?_ | refine c_cond_t rfl ?_ | refine c_cond_f rfl ?_ | refine c_block ?_ | refine c_skip ?_ | refine c_exit ?_ | refine p_block ?_ | refine p_then_exit ?_ | refine p_block_here ?_ | refine p_block_on rfl ?_ | refine c_ret ?_ | refine p_then_ret ?_ | refine p_block_ret ?_ | refine p_end ?_ | refine c_if_t rfl (by omega) ?_ | refine c_if_f rfl (by omega) ?_)
  refine t_q (q_call rfl rfl fun l2 hl => rat_any b S _ cs lr hS hn2 id l2 fun c hc => hl c (List.mem_append_left _ hc)) rfl rfl rfl ?_
  cases hf : findK NdS.id S id with
  | some nd =>
    obtain ⟨A, B, hL, hi, ht, hA, hAt⟩ := idx_of hf
    rw [hi, show addN (S.map NdS.d) id (k : Nat) = (11, S.map NdS.d) by unfold addN; rw [if_neg h123, find_d, hf]; rfl]
    repeat (first | (show OpsS _ _ _ _ _ _ (_ :: _) _ _ _; first | refine ozq ?_ | refine ozs ?_ | refine ozs0 ?_ | refine ozt ?_ | refine ozf ?_ | refine ozn ?_) | refine c_seq ?_ | refine p_then ?_ | refine c_region ?_ | refine s_nil ?_ | refine c_cond_t rfl ?_ | refine c_cond_f rfl ?_ | refine c_block ?_ | refine c_skip ?_ | refine c_exit ?_ | refine p_block ?_ | refine p_then_exit ?_ | refine p_block_here ?_ | refine p_block_on rfl ?_ | refine c_ret ?_ | refine p_then_ret ?_ | refine p_block_ret ?_ | refine p_end ?_ | refine c_if_t rfl (by omega) ?_ | refine c_if_f rfl (by omega) ?_)
    exact k_ret [] rfl .refl (by (repeat (first | apply ResS.nil | (apply rs_tmp; (· rfl)) | (apply rs_cell1; (· rfl); (· ((repeat (first | with_reducible apply List.mem_cons_self | with_reducible apply List.mem_cons_of_mem)); try with_reducible assumption)); (· rfl)) | (apply rs_cellA; (· rfl); (· ((repeat (first | with_reducible apply List.mem_cons_self | with_reducible apply List.mem_cons_of_mem)); try with_reducible assumption)); (· (repeat (first | with_reducible apply LSub.done | with_reducible apply LSub.take | with_reducible apply LSub.drop))))))) ⟨rfl, _, hr0, rfl⟩
  | none =>
    rw [idx_neg hf, show addN (S.map NdS.d) id (k : Nat) = (0, insK Prod.fst (S.map NdS.d) (id, List.replicate k capZ)) by unfold addN; rw [if_neg h123, find_d, hf]; rfl]
    obtain ⟨W, Z, eW, eZ, hL, hWa, hZa⟩ := ins_split hS.asc (findK_none.1 hf)
    obtain ⟨ndN, hndN⟩ : ∃ ndN : Nat → NdS, ndN = fun gb => ⟨id, List.replicate k capZ, gb⟩ := ⟨_, rfl⟩
    have hencN : ∀ gb, encN (ndN gb) = [.int .i64 id, .slice (some ⟨gb, 0, none⟩) k k] := fun gb => by rw [hndN]; simp [encN, NdS.val]
    have hblk : ∀ gb, (gb, Obj.cells (List.toArray (ccs (List.replicate k capZ))) 34 (0, 0)) = (ndN gb).blk := fun gb => by rw [hndN]
    obtain ⟨R, hR⟩ : ∃ R : Nat → List NdS, R = fun gb => W ++ ndN gb :: Z := ⟨_, rfl⟩
    have hins : ∀ gb, insK NdS.id S (ndN gb) = R gb := fun gb => by
      rw [hR]; unfold insK
      rw [show (ndN gb).id = id by rw [hndN], eW, eZ]
    have hlR : ∀ gb, (R gb).length = S.length + 1 := fun gb => by rw [hR, hL]; simp; omega
    have hlL : S.length = W.length + Z.length := by rw [hL]; simp
    obtain ⟨p, cap, rfl, hm, hRS⟩ := hS.view (l := lr ++ G) fun c hc => List.mem_append_left _ hc
    obtain ⟨cnt, hcnt⟩ : ∃ cnt : Nat → Nat, cnt = fun i => if i ≤ W.length then i else i + 1 := ⟨_, rfl⟩
    obtain ⟨F, hF⟩ : ∃ F, F = lr ++ G := ⟨_, rfl⟩
    have hfin : ∀ (gb : Nat) (w : Value) (cw : List Chunk), OwnSl 64 2 w (R gb).length (ncs (R gb)) cw → ∃ lr', IsR b (insK Prod.fst (S.map NdS.d) (id, List.replicate k capZ)) lr' ∧ (rxC b w :: (cw ++ (R gb).map NdS.blk)) ++ G = lr' ++ G := fun gb w cw hw => by
      refine ⟨_, ⟨R gb, w, cw, ?_, rfl, hw, ?_, ?_⟩, rfl⟩
      · rw [← hins gb, ins_map (key' := Prod.fst) (fun x => rfl), hndN]
      · rw [← hins gb]; exact ins_asc hS.asc (by rw [hndN]; exact hf)
      · intro x hx
        rw [← hins gb] at hx
        rcases mem_ins.1 hx with rfl | hx
        · rw [hndN]; simp; omega
        · exact hS.sz x hx
    rw [← hF] at hm hRS ⊢
    repeat (first | (show OpsS _ _ _ _ _ _ (_ :: _) _ _ _; first | refine ozq ?_ | refine ozs ?_ | refine ozs0 ?_ | refine ozt ?_ | refine ozf ?_ | refine ozn ?_) | refine c_seq ?_ | refine p_then ?_ | refine c_region ?_ | refine s_nil ?_ | refine c_cond_t rfl ?_ | refine c_cond_f rfl ?_ | refine c_block ?_ | refine c_skip ?_ | refine c_exit ?_ | refine p_block ?_ | refine p_then_exit ?_ | refine p_block_here ?_ | refine p_block_on rfl ?_ | refine c_ret ?_ | refine p_then_ret ?_ | refine p_block_ret ?_ | refine p_end ?_ | refine c_if_t rfl (by omega) ?_ | refine c_if_f rfl (by omega) ?_)
    refine k_loop (α := Nat × Value × List Chunk × Nat) (fun x => [(0, .pointer (some ⟨b, 0, none⟩)), (1, .int .i64 id), (2, .int .i64 (k : Nat)), (7, x.2.1), (8, .bool (decide (W.length < x.1))), (9, .int .i64 x.1)]) (fun x => x.2.2.1 ++ ((if W.length < x.1 then [(ndN x.2.2.2).blk] else []) ++ F)) (fun x => x.1 ≤ S.length ∧ OwnSl 64 2 x.2.1 ((R x.2.2.2).take (cnt x.1)).length (ncs ((R x.2.2.2).take (cnt x.1))) x.2.2.1) (fun x => S.length - x.1) (0, .slice none 0 0, [], 0) ⟨Nat.zero_le _, by rw [hcnt]; exact OwnSl.nil _ _⟩ ⟨rfl, rfl, rfl, rfl, by rw [decide_eq_false (show ¬ W.length < 0 by omega)]; rfl, rfl, trivial⟩ .refl ?_
    rintro ⟨i, w, cv, gb⟩ ⟨hi, hw⟩
    dsimp only at hi hw ⊢
    by_cases hlt : i < S.length
    · obtain ⟨bB, off, xs, ty, fz, rfl, hmr, hc⟩ := hRS (by omega)
      obtain ⟨x, hx⟩ : ∃ x, S[i]? = some x := ⟨_, List.getElem?_eq_getElem hlt⟩
      obtain ⟨g0, _, g1, g2⟩ := hc i x hx
      rcases Nat.lt_trichotomy i W.length with k1 | k1 | k1
      · have hxa : x.id < id := hWa x (List.mem_of_getElem? (i := i) (by rw [hL, List.getElem?_append_left k1] at hx; exact hx))
        have hc1 : cnt (i + 1) = cnt i + 1 := by rw [hcnt]; simp only; rw [if_pos (by omega), if_pos (by omega)]
        have hRi : (R gb)[cnt i]? = some x := by
          rw [hcnt, hR]; simp only; rw [if_pos (by omega), List.getElem?_append_left k1]
          rw [hL, List.getElem?_append_left k1] at hx; exact hx
        rw [decide_eq_false (show ¬ W.length < i by omega), if_neg (show ¬ W.length < i by omega), List.nil_append]
        have hm3 : rxC b (.slice (some ⟨bB, off, none⟩) S.length cap) ∈ cv ++ F := List.mem_append_right _ hm
        have hmr5 : (bB, Obj.cells xs ty fz) ∈ cv ++ F := List.mem_append_right _ hmr
        repeat (first | (show OpsS _ _ _ _ _ _ (_ :: _) _ _ _; first | refine ozq ?_ | refine ozs ?_ | refine ozs0 ?_ | refine ozt ?_ | refine ozf ?_ | refine ozn ?_) | refine c_seq ?_ | refine p_then ?_ | refine c_region ?_ | refine s_nil ?_ | refine c_cond_t rfl ?_ | refine c_cond_f rfl ?_ | refine c_block ?_ | refine c_skip ?_ | refine c_exit ?_ | refine p_block ?_ | refine p_then_exit ?_ | refine p_block_here ?_ | refine p_block_on rfl ?_ | refine c_ret ?_ | refine p_then_ret ?_ | refine p_block_ret ?_ | refine p_end ?_ | refine c_if_t rfl (by omega) ?_ | refine c_if_f rfl (by omega) ?_)
        refine t_q (q_loadA rfl hmr5 g1 g2) rfl rfl rfl ?_
        repeat (first | (show OpsS _ _ _ _ _ _ (_ :: _) _ _ _; first | refine ozq ?_ | refine ozs ?_ | refine ozs0 ?_ | refine ozt ?_ | refine ozf ?_ | refine ozn ?_) | refine c_seq ?_ | refine p_then ?_ | refine c_region ?_ | refine s_nil ?_ | refine c_cond_t rfl ?_ | refine c_cond_f rfl ?_ | refine c_block ?_ | refine c_skip ?_ | refine c_exit ?_ | refine p_block ?_ | refine p_then_exit ?_ | refine p_block_here ?_ | refine p_block_on rfl ?_ | refine c_ret ?_ | refine p_then_ret ?_ | refine p_block_ret ?_ | refine p_end ?_ | refine c_if_t rfl (by omega) ?_ | refine c_if_f rfl (by omega) ?_)
        refine t_e (e_litA (k := 2) (e := 64) (ws := encN x) rfl rfl rfl (by decide) (by decide)) rfl rfl rfl ?_
        rintro _ _ ⟨bl, _, rfl, rfl⟩
        refine t_e (e_appX (k := 2) (X := []) (cs := cv) (F := F) (xs := ncs ((R gb).take (cnt i))) (n := ((R gb).take (cnt i)).length) (ws := encN x) rfl rfl rfl hw rfl (encN_ones x) (by rw [List.length_take, hlR]; omega) (by decide)) rfl rfl rfl ?_
        rintro w2 _ ⟨cv2, hw2, rfl⟩
        have hw9 : w2.oneCell' = true := hw2.one
        repeat (first | (show OpsS _ _ _ _ _ _ (_ :: _) _ _ _; first | refine ozq ?_ | refine ozs ?_ | refine ozs0 ?_ | refine ozt ?_ | refine ozf ?_ | refine ozn ?_) | refine c_seq ?_ | refine p_then ?_ | refine c_region ?_ | refine s_nil ?_ | refine c_cond_t rfl ?_ | refine c_cond_f rfl ?_ | refine c_block ?_ | refine c_skip ?_ | refine c_exit ?_ | refine p_block ?_ | refine p_then_exit ?_ | refine p_block_here ?_ | refine p_block_on rfl ?_ | refine c_ret ?_ | refine p_then_ret ?_ | refine p_block_ret ?_ | refine p_end ?_ | refine c_if_t rfl (by omega) ?_ | refine c_if_f rfl (by omega) ?_)
        refine k_next (i + 1, w2, cv2, gb) ⟨by simp only; omega, ?_⟩ (by simp only; omega) ⟨rfl, rfl, rfl, rfl, by rw [decide_eq_false (show ¬ W.length < i + 1 by omega)]; rfl, rfl, trivial⟩ (by simp only; rw [if_neg (show ¬ W.length < i + 1 by omega)]; exact .refl)
        simp only
        rw [hc1, List.take_add_one, hRi, Option.toList_some, ncs_snoc, List.length_append]; exact hw2
      · have hxa : id < x.id := hZa x (List.mem_of_getElem? (i := 0) (by rw [hL, List.getElem?_append_right (by omega), show i - W.length = 0 by omega] at hx; exact hx))
        have hc1 : cnt (i + 1) = cnt i + 1 + 1 := by rw [hcnt]; simp only; rw [if_neg (by omega), if_pos (by omega)]
        have hci : cnt i = W.length := by rw [hcnt]; simp only; rw [if_pos (by omega)]; exact k1
        have hRi : ∀ gb, (R gb)[cnt i]? = some (ndN gb) := fun gb => by
          rw [hci, hR]; simp only; rw [List.getElem?_append_right (by omega), Nat.sub_self]; rfl
        have hRj : ∀ gb, (R gb)[cnt i + 1]? = some x := fun gb => by
          rw [hci, hR]; simp only; rw [List.getElem?_append_right (by omega), show W.length + 1 - W.length = 0 + 1 by omega, List.getElem?_cons_succ]
          rw [hL, List.getElem?_append_right (by omega), show i - W.length = 0 by omega] at hx; exact hx
        have htk : ∀ gb', (R gb').take (cnt i) = (R gb).take (cnt i) := fun gb' => by
          rw [hci, hR]; simp only; rw [List.take_left' rfl, List.take_left' rfl]
        rw [decide_eq_false (show ¬ W.length < i by omega), if_neg (show ¬ W.length < i by omega), List.nil_append]
        have hm3 : rxC b (.slice (some ⟨bB, off, none⟩) S.length cap) ∈ cv ++ F := List.mem_append_right _ hm
        have hmr5 : (bB, Obj.cells xs ty fz) ∈ cv ++ F := List.mem_append_right _ hmr
        repeat (first | (show OpsS _ _ _ _ _ _ (_ :: _) _ _ _; first | refine ozq ?_ | refine ozs ?_ | refine ozs0 ?_ | refine ozt ?_ | refine ozf ?_ | refine ozn ?_) | refine c_seq ?_ | refine p_then ?_ | refine c_region ?_ | refine s_nil ?_ | refine c_cond_t rfl ?_ | refine c_cond_f rfl ?_ | refine c_block ?_ | refine c_skip ?_ | refine c_exit ?_ | refine p_block ?_ | refine p_then_exit ?_ | refine p_block_here ?_ | refine p_block_on rfl ?_ | refine c_ret ?_ | refine p_then_ret ?_ | refine p_block_ret ?_ | refine p_end ?_ | refine c_if_t rfl (by omega) ?_ | refine c_if_f rfl (by omega) ?_)
        refine t_e (e_makeSlice (n := k) (kk := 8) (xs := ccs (List.replicate k capZ)) rfl rfl (by omega) (by omega) (by decide) (ccs_zero k)) rfl rfl rfl ?_
        rintro _ _ ⟨gn, hgn, rfl, rfl⟩
        rw [hblk gn]
        repeat (first | (show OpsS _ _ _ _ _ _ (_ :: _) _ _ _; first | refine ozq ?_ | refine ozs ?_ | refine ozs0 ?_ | refine ozt ?_ | refine ozf ?_ | refine ozn ?_) | refine c_seq ?_ | refine p_then ?_ | refine c_region ?_ | refine s_nil ?_ | refine c_cond_t rfl ?_ | refine c_cond_f rfl ?_ | refine c_block ?_ | refine c_skip ?_ | refine c_exit ?_ | refine p_block ?_ | refine p_then_exit ?_ | refine p_block_here ?_ | refine p_block_on rfl ?_ | refine c_ret ?_ | refine p_then_ret ?_ | refine p_block_ret ?_ | refine p_end ?_ | refine c_if_t rfl (by omega) ?_ | refine c_if_f rfl (by omega) ?_)
        refine t_e (e_litA (k := 2) (e := 64) (ws := [.int .i64 id, .slice (some ⟨gn, 0, none⟩) k k]) rfl rfl rfl (by decide) (by decide)) rfl rfl rfl ?_
        rintro _ _ ⟨bl, _, rfl, rfl⟩
        refine t_e (e_appX (k := 2) (X := [(ndN gn).blk]) (cs := cv) (F := F) (xs := ncs ((R gb).take (cnt i))) (n := ((R gb).take (cnt i)).length) (ws := [.int .i64 id, .slice (some ⟨gn, 0, none⟩) k k]) rfl rfl rfl hw rfl (by simp [Value.oneCell']) (by rw [List.length_take, hlR]; omega) (by decide)) rfl rfl rfl ?_
        rintro w1 _ ⟨cv1, hw1, rfl⟩
        have hw8 : w1.oneCell' = true := hw1.one
        simp only [List.cons_append, List.nil_append]
        have hm6 : rxC b (.slice (some ⟨bB, off, none⟩) S.length cap) ∈ cv1 ++ F := List.mem_append_right _ hm
        have hmr6 : (bB, Obj.cells xs ty fz) ∈ cv1 ++ F := List.mem_append_right _ hmr
        repeat (first | (show OpsS _ _ _ _ _ _ (_ :: _) _ _ _; first | refine ozq ?_ | refine ozs ?_ | refine ozs0 ?_ | refine ozt ?_ | refine ozf ?_ | refine ozn ?_) | refine c_seq ?_ | refine p_then ?_ | refine c_region ?_ | refine s_nil ?_ | refine c_cond_t rfl ?_ | refine c_cond_f rfl ?_ | refine c_block ?_ | refine c_skip ?_ | refine c_exit ?_ | refine p_block ?_ | refine p_then_exit ?_ | refine p_block_here ?_ | refine p_block_on rfl ?_ | refine c_ret ?_ | refine p_then_ret ?_ | refine p_block_ret ?_ | refine p_end ?_ | refine c_if_t rfl (by omega) ?_ | refine c_if_f rfl (by omega) ?_)
        refine t_q (q_loadA rfl (.tail _ hmr6) g1 g2) rfl rfl rfl ?_
        repeat (first | (show OpsS _ _ _ _ _ _ (_ :: _) _ _ _; first | refine ozq ?_ | refine ozs ?_ | refine ozs0 ?_ | refine ozt ?_ | refine ozf ?_ | refine ozn ?_) | refine c_seq ?_ | refine p_then ?_ | refine c_region ?_ | refine s_nil ?_ | refine c_cond_t rfl ?_ | refine c_cond_f rfl ?_ | refine c_block ?_ | refine c_skip ?_ | refine c_exit ?_ | refine p_block ?_ | refine p_then_exit ?_ | refine p_block_here ?_ | refine p_block_on rfl ?_ | refine c_ret ?_ | refine p_then_ret ?_ | refine p_block_ret ?_ | refine p_end ?_ | refine c_if_t rfl (by omega) ?_ | refine c_if_f rfl (by omega) ?_)
        refine t_e (e_litA (k := 2) (e := 64) (ws := encN x) rfl rfl rfl (by decide) (by decide)) rfl rfl rfl ?_
        rintro _ _ ⟨bl2, _, rfl, rfl⟩
        refine t_e (e_appX (k := 2) (X := [(ndN gn).blk]) (cs := cv1) (F := F) (xs := ncs ((R gb).take (cnt i)) ++ [.int .i64 id, .slice (some ⟨gn, 0, none⟩) k k]) (n := ((R gb).take (cnt i)).length + 1) (ws := encN x) rfl rfl rfl hw1 rfl (encN_ones x) (by rw [List.length_take, hlR]; omega) (by decide)) rfl rfl rfl ?_
        rintro w2 _ ⟨cv2, hw2, rfl⟩
        have hw9 : w2.oneCell' = true := hw2.one
        repeat (first | (show OpsS _ _ _ _ _ _ (_ :: _) _ _ _; first | refine ozq ?_ | refine ozs ?_ | refine ozs0 ?_ | refine ozt ?_ | refine ozf ?_ | refine ozn ?_) | refine c_seq ?_ | refine p_then ?_ | refine c_region ?_ | refine s_nil ?_ | refine c_cond_t rfl ?_ | refine c_cond_f rfl ?_ | refine c_block ?_ | refine c_skip ?_ | refine c_exit ?_ | refine p_block ?_ | refine p_then_exit ?_ | refine p_block_here ?_ | refine p_block_on rfl ?_ | refine c_ret ?_ | refine p_then_ret ?_ | refine p_block_ret ?_ | refine p_end ?_ | refine c_if_t rfl (by omega) ?_ | refine c_if_f rfl (by omega) ?_)
        refine k_next (i + 1, w2, cv2, gn) ⟨by simp only; omega, ?_⟩ (by simp only; omega) ⟨rfl, rfl, rfl, rfl, by rw [decide_eq_true (show W.length < i + 1 by omega)]; rfl, rfl, trivial⟩ (by simp only; rw [if_pos (show W.length < i + 1 by omega)]; exact .of_perm (List.perm_append_comm_assoc _ _ _))
        simp only
        rw [hc1, List.take_add_one, hRj, List.take_add_one, hRi, Option.toList_some, Option.toList_some, ncs_snoc, ncs_snoc, List.length_append, List.length_append, htk gn, hencN]; exact hw2
      · have hc1 : cnt (i + 1) = cnt i + 1 := by rw [hcnt]; simp only; rw [if_neg (by omega), if_neg (by omega)]
        have hRi : (R gb)[cnt i]? = some x := by
          rw [hcnt, hR]; simp only; rw [if_neg (by omega), List.getElem?_append_right (by omega), show i + 1 - W.length = (i - W.length) + 1 by omega, List.getElem?_cons_succ]
          rw [hL, List.getElem?_append_right (by omega)] at hx; exact hx
        rw [decide_eq_true (show W.length < i by omega), if_pos (show W.length < i by omega)]
        have hm3 : rxC b (.slice (some ⟨bB, off, none⟩) S.length cap) ∈ cv ++ ([(ndN gb).blk] ++ F) := List.mem_append_right _ (.tail _ hm)
        have hmr5 : (bB, Obj.cells xs ty fz) ∈ cv ++ ([(ndN gb).blk] ++ F) := List.mem_append_right _ (.tail _ hmr)
        repeat (first | (show OpsS _ _ _ _ _ _ (_ :: _) _ _ _; first | refine ozq ?_ | refine ozs ?_ | refine ozs0 ?_ | refine ozt ?_ | refine ozf ?_ | refine ozn ?_) | refine c_seq ?_ | refine p_then ?_ | refine c_region ?_ | refine s_nil ?_ | refine c_cond_t rfl ?_ | refine c_cond_f rfl ?_ | refine c_block ?_ | refine c_skip ?_ | refine c_exit ?_ | refine p_block ?_ | refine p_then_exit ?_ | refine p_block_here ?_ | refine p_block_on rfl ?_ | refine c_ret ?_ | refine p_then_ret ?_ | refine p_block_ret ?_ | refine p_end ?_ | refine c_if_t rfl (by omega) ?_ | refine c_if_f rfl (by omega) ?_)
        refine t_q (q_loadA rfl hmr5 g1 g2) rfl rfl rfl ?_
        repeat (first | (show OpsS _ _ _ _ _ _ (_ :: _) _ _ _; first | refine ozq ?_ | refine ozs ?_ | refine ozs0 ?_ | refine ozt ?_ | refine ozf ?_ | refine ozn ?_) | refine c_seq ?_ | refine p_then ?_ | refine c_region ?_ | refine s_nil ?_ | refine c_cond_t rfl ?_ | refine c_cond_f rfl ?_ | refine c_block ?_ | refine c_skip ?_ | refine c_exit ?_ | refine p_block ?_ | refine p_then_exit ?_ | refine p_block_here ?_ | refine p_block_on rfl ?_ | refine c_ret ?_ | refine p_then_ret ?_ | refine p_block_ret ?_ | refine p_end ?_ | refine c_if_t rfl (by omega) ?_ | refine c_if_f rfl (by omega) ?_)
        refine t_e (e_litA (k := 2) (e := 64) (ws := encN x) rfl rfl rfl (by decide) (by decide)) rfl rfl rfl ?_
        rintro _ _ ⟨bl, _, rfl, rfl⟩
        refine t_e (e_appX (k := 2) (X := []) (cs := cv) (F := [(ndN gb).blk] ++ F) (xs := ncs ((R gb).take (cnt i))) (n := ((R gb).take (cnt i)).length) (ws := encN x) rfl rfl rfl hw rfl (encN_ones x) (by rw [List.length_take, hlR]; omega) (by decide)) rfl rfl rfl ?_
        rintro w2 _ ⟨cv2, hw2, rfl⟩
        have hw9 : w2.oneCell' = true := hw2.one
        repeat (first | (show OpsS _ _ _ _ _ _ (_ :: _) _ _ _; first | refine ozq ?_ | refine ozs ?_ | refine ozs0 ?_ | refine ozt ?_ | refine ozf ?_ | refine ozn ?_) | refine c_seq ?_ | refine p_then ?_ | refine c_region ?_ | refine s_nil ?_ | refine c_cond_t rfl ?_ | refine c_cond_f rfl ?_ | refine c_block ?_ | refine c_skip ?_ | refine c_exit ?_ | refine p_block ?_ | refine p_then_exit ?_ | refine p_block_here ?_ | refine p_block_on rfl ?_ | refine c_ret ?_ | refine p_then_ret ?_ | refine p_block_ret ?_ | refine p_end ?_ | refine c_if_t rfl (by omega) ?_ | refine c_if_f rfl (by omega) ?_)
        refine k_next (i + 1, w2, cv2, gb) ⟨by simp only; omega, ?_⟩ (by simp only; omega) ⟨rfl, rfl, rfl, rfl, by rw [decide_eq_true (show W.length < i + 1 by omega)]; rfl, rfl, trivial⟩ (by simp only; rw [if_pos (show W.length < i + 1 by omega)]; exact .refl)
        simp only
        rw [hc1, List.take_add_one, hRi, Option.toList_some, ncs_snoc, List.length_append]; exact hw2
    · obtain rfl : i = S.length := by omega
      have hlr : lr = rxC b (.slice p S.length cap) :: (cs ++ S.map NdS.blk) := hS.eq
      have hpS : ∀ gb, (R gb).map NdS.blk = W.map NdS.blk ++ (ndN gb).blk :: Z.map NdS.blk := fun gb => by rw [hR, List.map_append, List.map_cons]
      have hSm : S.map NdS.blk = W.map NdS.blk ++ Z.map NdS.blk := by rw [hL, List.map_append]
      by_cases hZ0 : W.length < S.length
      · have hcl : cnt S.length = (R gb).length := by rw [hcnt, hlR]; simp only; rw [if_neg (by omega)]
        rw [hcl, List.take_length] at hw
        have hw1 : w.oneCell' = true := hw.one
        rw [decide_eq_true hZ0, if_pos hZ0]
        have hm7 : rxC b (.slice p S.length cap) ∈ cv ++ ([(ndN gb).blk] ++ F) := List.mem_append_right _ (.tail _ hm)
        repeat (first | (show OpsS _ _ _ _ _ _ (_ :: _) _ _ _; first | refine ozq ?_ | refine ozs ?_ | refine ozs0 ?_ | refine ozt ?_ | refine ozf ?_ | refine ozn ?_) | refine c_seq ?_ | refine p_then ?_ | refine c_region ?_ | refine s_nil ?_ | refine c_cond_t rfl ?_ | refine c_cond_f rfl ?_ | refine c_block ?_ | refine c_skip ?_ | refine c_exit ?_ | refine p_block ?_ | refine p_then_exit ?_ | refine p_block_here ?_ | refine p_block_on rfl ?_ | refine c_ret ?_ | refine p_then_ret ?_ | refine p_block_ret ?_ | refine p_end ?_ | refine c_if_t rfl (by omega) ?_ | refine c_if_f rfl (by omega) ?_)
        rw [hF, hlr, hSm]
        simp only [List.cons_append, List.nil_append]
        refine t_n (e_store (b := b) (off := 0) (l' := cv ++ ((ndN gb).blk :: (rxC b w :: (cs ++ (W.map NdS.blk ++ Z.map NdS.blk) ++ G)))) rfl rfl hw1 (upd_pre (.there .here) cv) (by simp)) rfl rfl ?_
        rintro _ _ ⟨rfl, rfl⟩
        repeat (first | (show OpsS _ _ _ _ _ _ (_ :: _) _ _ _; first | refine ozq ?_ | refine ozs ?_ | refine ozs0 ?_ | refine ozt ?_ | refine ozf ?_ | refine ozn ?_) | refine c_seq ?_ | refine p_then ?_ | refine c_region ?_ | refine s_nil ?_ | refine c_cond_t rfl ?_ | refine c_cond_f rfl ?_ | refine c_block ?_ | refine c_skip ?_ | refine c_exit ?_ | refine p_block ?_ | refine p_then_exit ?_ | refine p_block_here ?_ | refine p_block_on rfl ?_ | refine c_ret ?_ | refine p_then_ret ?_ | refine p_block_ret ?_ | refine p_end ?_ | refine c_if_t rfl (by omega) ?_ | refine c_if_f rfl (by omega) ?_)
        refine k_ret [] rfl (l' := (rxC b w :: (cv ++ (R gb).map NdS.blk)) ++ G) ?_ (by (repeat (first | apply ResS.nil | (apply rs_tmp; (· rfl)) | (apply rs_cell1; (· rfl); (· ((repeat (first | with_reducible apply List.mem_cons_self | with_reducible apply List.mem_cons_of_mem)); try with_reducible assumption)); (· rfl)) | (apply rs_cellA; (· rfl); (· ((repeat (first | with_reducible apply List.mem_cons_self | with_reducible apply List.mem_cons_of_mem)); try with_reducible assumption)); (· (repeat (first | with_reducible apply LSub.done | with_reducible apply LSub.take | with_reducible apply LSub.drop))))))) ⟨rfl, hfin gb w cv hw⟩
        rw [hpS]; exact keep_add16 _ _ cv cs _ _ G
      · have hcl : cnt S.length = S.length := by rw [hcnt]; simp only; rw [if_pos (by omega)]
        have hRe : ∀ gb', R gb' = (R gb).take S.length ++ [ndN gb'] := fun gb' => by
          have hZn : Z = [] := List.eq_nil_of_length_eq_zero (by omega)
          rw [hR]; simp only; rw [hZn, show S.length = W.length by omega, List.take_left' rfl]
        rw [hcl] at hw
        have hw0 : w.oneCell' = true := hw.one
        rw [decide_eq_false hZ0, if_neg hZ0, List.nil_append]
        have hm7 : rxC b (.slice p S.length cap) ∈ cv ++ F := List.mem_append_right _ hm
        repeat (first | (show OpsS _ _ _ _ _ _ (_ :: _) _ _ _; first | refine ozq ?_ | refine ozs ?_ | refine ozs0 ?_ | refine ozt ?_ | refine ozf ?_ | refine ozn ?_) | refine c_seq ?_ | refine p_then ?_ | refine c_region ?_ | refine s_nil ?_ | refine c_cond_t rfl ?_ | refine c_cond_f rfl ?_ | refine c_block ?_ | refine c_skip ?_ | refine c_exit ?_ | refine p_block ?_ | refine p_then_exit ?_ | refine p_block_here ?_ | refine p_block_on rfl ?_ | refine c_ret ?_ | refine p_then_ret ?_ | refine p_block_ret ?_ | refine p_end ?_ | refine c_if_t rfl (by omega) ?_ | refine c_if_f rfl (by omega) ?_)
        refine t_e (e_makeSlice (n := k) (kk := 8) (xs := ccs (List.replicate k capZ)) rfl rfl (by omega) (by omega) (by decide) (ccs_zero k)) rfl rfl rfl ?_
        rintro _ _ ⟨gn, hgn, rfl, rfl⟩
        rw [hblk gn]
        repeat (first | (show OpsS _ _ _ _ _ _ (_ :: _) _ _ _; first | refine ozq ?_ | refine ozs ?_ | refine ozs0 ?_ | refine ozt ?_ | refine ozf ?_ | refine ozn ?_) | refine c_seq ?_ | refine p_then ?_ | refine c_region ?_ | refine s_nil ?_ | refine c_cond_t rfl ?_ | refine c_cond_f rfl ?_ | refine c_block ?_ | refine c_skip ?_ | refine c_exit ?_ | refine p_block ?_ | refine p_then_exit ?_ | refine p_block_here ?_ | refine p_block_on rfl ?_ | refine c_ret ?_ | refine p_then_ret ?_ | refine p_block_ret ?_ | refine p_end ?_ | refine c_if_t rfl (by omega) ?_ | refine c_if_f rfl (by omega) ?_)
        refine t_e (e_litA (k := 2) (e := 64) (ws := [.int .i64 id, .slice (some ⟨gn, 0, none⟩) k k]) rfl rfl rfl (by decide) (by decide)) rfl rfl rfl ?_
        rintro _ _ ⟨bl, _, rfl, rfl⟩
        refine t_e (e_appX (k := 2) (X := [(ndN gn).blk]) (cs := cv) (F := F) (xs := ncs ((R gb).take S.length)) (n := ((R gb).take S.length).length) (ws := [.int .i64 id, .slice (some ⟨gn, 0, none⟩) k k]) rfl rfl rfl hw rfl (by simp [Value.oneCell']) (by rw [List.length_take, hlR]; omega) (by decide)) rfl rfl rfl ?_
        rintro w1 _ ⟨cv1, hw1, rfl⟩
        have hw8 : w1.oneCell' = true := hw1.one
        simp only [List.cons_append, List.nil_append]
        repeat (first | (show OpsS _ _ _ _ _ _ (_ :: _) _ _ _; first | refine ozq ?_ | refine ozs ?_ | refine ozs0 ?_ | refine ozt ?_ | refine ozf ?_ | refine ozn ?_) | refine c_seq ?_ | refine p_then ?_ | refine c_region ?_ | refine s_nil ?_ | refine c_cond_t rfl ?_ | refine c_cond_f rfl ?_ | refine c_block ?_ | refine c_skip ?_ | refine c_exit ?_ | refine p_block ?_ | refine p_then_exit ?_ | refine p_block_here ?_ | refine p_block_on rfl ?_ | refine c_ret ?_ | refine p_then_ret ?_ | refine p_block_ret ?_ | refine p_end ?_ | refine c_if_t rfl (by omega) ?_ | refine c_if_f rfl (by omega) ?_)
        rw [hF, hlr, hSm]
        simp only [List.cons_append]
        refine t_n (e_store (b := b) (off := 0) (l' := (ndN gn).blk :: (cv1 ++ (rxC b w1 :: (cs ++ (W.map NdS.blk ++ Z.map NdS.blk) ++ G)))) rfl rfl hw8 (.there (upd_pre .here cv1)) (by simp)) rfl rfl ?_
        rintro _ _ ⟨rfl, rfl⟩
        repeat (first | (show OpsS _ _ _ _ _ _ (_ :: _) _ _ _; first | refine ozq ?_ | refine ozs ?_ | refine ozs0 ?_ | refine ozt ?_ | refine ozf ?_ | refine ozn ?_) | refine c_seq ?_ | refine p_then ?_ | refine c_region ?_ | refine s_nil ?_ | refine c_cond_t rfl ?_ | refine c_cond_f rfl ?_ | refine c_block ?_ | refine c_skip ?_ | refine c_exit ?_ | refine p_block ?_ | refine p_then_exit ?_ | refine p_block_here ?_ | refine p_block_on rfl ?_ | refine c_ret ?_ | refine p_then_ret ?_ | refine p_block_ret ?_ | refine p_end ?_ | refine c_if_t rfl (by omega) ?_ | refine c_if_f rfl (by omega) ?_)
        refine k_ret [] rfl (l' := (rxC b w1 :: (cv1 ++ (R gn).map NdS.blk)) ++ G) ?_ (by (repeat (first | apply ResS.nil | (apply rs_tmp; (· rfl)) | (apply rs_cell1; (· rfl); (· ((repeat (first | with_reducible apply List.mem_cons_self | with_reducible apply List.mem_cons_of_mem)); try with_reducible assumption)); (· rfl)) | (apply rs_cellA; (· rfl); (· ((repeat (first | with_reducible apply List.mem_cons_self | with_reducible apply List.mem_cons_of_mem)); try with_reducible assumption)); (· (repeat (first | with_reducible apply LSub.done | with_reducible apply LSub.take | with_reducible apply LSub.drop))))))) ⟨rfl, hfin gn w1 cv1 ?_⟩
        · rw [hpS]; exact Keep.trans (.of_perm List.perm_middle.symm) (keep_add16 _ _ cv1 cs _ _ G)
        · rw [hRe gn, List.length_append, ncs_snoc, hencN]; exact hw1
end Go.Proofs.Ytikcekfalfllpaa
