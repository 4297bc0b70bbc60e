/- Chapter 15's own answer: Set, Drop. -/
import Derived.Test.YtikcekfalfllpaaU0
import Derived.Test.YtikcekfalfllpaaP14
set_option linter.unusedVariables false
set_option linter.unusedSimpArgs false
namespace Go.Proofs.Ytikcekfalfllpaa
open Go.RowKit

theorem ncs_app (A B : List NdS) : ncs (A ++ B) = ncs A ++ ncs B := List.flatMap_append
theorem ncs_l (A : List NdS) : (ncs A).length = A.length * 2 := by
  induction A with
  | nil => rfl
  | cons x r ih => rw [show x :: r = [x] ++ r from rfl, ncs_app, List.length_append, ih, List.length_append, Nat.add_mul]; rfl
theorem ncs_ones {S : List NdS} : ∀ u ∈ ncs S, u.oneCell' = true := fun u hu => by
  obtain ⟨x, _, hx⟩ := List.mem_flatMap.1 hu
  simp only [encN, List.mem_cons, List.not_mem_nil, or_false] at hx
  rcases hx with rfl | rfl <;> rfl
theorem encN_ones (x : NdS) : ∀ u ∈ encN x, u.oneCell' = true := fun u hx => by
  simp only [encN, List.mem_cons, List.not_mem_nil, or_false] at hx
  rcases hx with rfl | rfl <;> rfl
theorem ncs_fst {A B : List NdS} {sp : List Value} {j : Nat} {u : Value} (h : (ncs A)[j]? = some u) : (List.toArray (ncs (A ++ B) ++ sp))[0 + j]? = some u := by
  have hl := (List.getElem?_eq_some_iff.1 h).1
  rw [Nat.zero_add, List.getElem?_toArray, ncs_app, List.append_assoc, List.getElem?_append_left hl]; exact h
theorem ncs_snd {A B : List NdS} {sp : List Value} {j : Nat} {u : Value} (h : (ncs B)[j]? = some u) : (List.toArray (ncs (A ++ B) ++ sp))[A.length * 2 + j]? = some u := by
  have hl := (List.getElem?_eq_some_iff.1 h).1
  rw [List.getElem?_toArray, ncs_app, List.append_assoc, List.getElem?_append_right (by rw [ncs_l]; omega), ncs_l, Nat.add_sub_cancel_left, List.getElem?_append_left hl]; exact h
theorem asc_repl {A B : List NdS} {x y : NdS} (h : (A ++ x :: B).Pairwise fun x y => x.id < y.id) (hk : y.id = x.id) : (A ++ y :: B).Pairwise fun x y => x.id < y.id := by
  obtain ⟨h2, h3, h4⟩ := List.pairwise_append.1 h
  obtain ⟨h5, h6⟩ := List.pairwise_cons.1 h3
  refine List.pairwise_append.2 ⟨h2, List.pairwise_cons.2 ⟨fun z hz => by rw [hk]; exact h5 z hz, h6⟩, fun z hz w hw => ?_⟩
  rcases List.mem_cons.1 hw with rfl | hw
  · rw [hk]; exact h4 z hz x List.mem_cons_self
  · exact h4 z hz w (List.mem_cons_of_mem _ hw)
theorem asc_cut {A B : List NdS} {x : NdS} (h : (A ++ x :: B).Pairwise fun x y => x.id < y.id) : (A ++ B).Pairwise fun x y => x.id < y.id :=
  h.sublist (List.Sublist.append_left (List.sublist_cons_self _ _) _)
theorem keep_drop15 (x : Chunk) (c2 cs A B G : List Chunk) (y : Chunk) : Keep (c2 ++ (x :: (cs ++ (A ++ y :: B) ++ G))) ((x :: (c2 ++ (A ++ B))) ++ G) := by
  refine Keep.trans (.of_perm List.perm_middle) ?_
  refine Keep.trans (l := x :: (c2 ++ ((A ++ y :: B) ++ G))) ?_ ?_
  · exact ⟨cs, by
      have h : (c2 ++ (cs ++ (A ++ y :: B) ++ G)).Perm (cs ++ (c2 ++ ((A ++ y :: B) ++ G))) := by
        rw [List.append_assoc]; exact List.perm_append_comm_assoc _ _ _
      exact (h.cons x).trans List.perm_middle.symm⟩
  · obtain ⟨X, hX⟩ := keep_cut A B G y
    refine ⟨X, ?_⟩
    have h1 : (x :: (c2 ++ ((A ++ y :: B) ++ G))).Perm (x :: (c2 ++ (X ++ ((A ++ B) ++ G)))) := (hX.append_left c2).cons x
    refine h1.trans ?_
    have h2 : (x :: (c2 ++ (X ++ ((A ++ B) ++ G)))).Perm (X ++ (x :: (c2 ++ ((A ++ B) ++ G)))) := by
      have := (List.perm_append_comm_assoc c2 X ((A ++ B) ++ G)).cons x
      exact this.trans List.perm_middle.symm
    refine h2.trans (.of_eq ?_)
    simp
set_option pp.deepTerms false
set_option pp.deepTerms.threshold 4
set_option maxHeartbeats 400000
theorem rset_any (b : Nat) (D : SD) (lr : List Chunk) (hr : IsR b D lr) (hn : D.length ≤ 900000) (s : slT) (c : CapT) (hg : c.guard ≤ 9223372036854775807) (G : List Chunk) :
    Fn Try.prog 16 [.pointer (some ⟨b, 0, none⟩), .agg (List.toArray (encT s)), .agg (List.toArray (encC c))] (lr ++ G) fun v l' => v = .int .i64 (setD D s c).1 ∧ ∃ lr', IsR b (setD D s c).2 lr' ∧ l' = lr' ++ G := by
  have hr0 := hr
  obtain ⟨S, v, cs, rfl, hS⟩ := hr
  have hn2 : S.length ≤ 900000 := by simpa using hn
  refine fn_of_body Try.func16 rfl rfl fun E => ?_
  simp only [argF, Try.ntmps16]
  repeat (first | (show OpsS _ _ _ _ _ _ (_ :: _) _ _ _; first | refine ozq ?_) | refine c_seq ?_ | refine p_then ?_ | refine c_region ?_ | refine s_nil ?_ | refine c_cond_t rfl ?_ | refine c_cond_f rfl ?_ | refine c_skip ?_ | refine c_ret ?_ | refine p_then_ret ?_ | refine p_end ?_ | refine c_if_t rfl (by omega) ?_ | refine c_if_f rfl (by omega) ?_)
  (first | refine t_e (e_box1 rfl rfl) rfl rfl rfl ?_ | refine t_e (e_boxA rfl) rfl rfl rfl ?_); rintro _ _ ⟨b4, _, rfl, rfl⟩
  repeat (first | (show OpsS _ _ _ _ _ _ (_ :: _) _ _ _; first | refine ozq ?_) | refine c_seq ?_ | refine p_then ?_ | refine c_region ?_ | refine s_nil ?_ | refine c_cond_t rfl ?_ | refine c_cond_f rfl ?_ | refine c_skip ?_ | refine c_ret ?_ | refine p_then_ret ?_ | refine p_end ?_ | refine c_if_t rfl (by omega) ?_ | refine c_if_f rfl (by omega) ?_)
  (first | refine t_e (e_box1 rfl rfl) rfl rfl rfl ?_ | refine t_e (e_boxA rfl) rfl rfl rfl ?_); rintro _ _ ⟨b5, _, rfl, rfl⟩
  repeat (first | (show OpsS _ _ _ _ _ _ (_ :: _) _ _ _; first | refine ozq ?_) | refine c_seq ?_ | refine p_then ?_ | refine c_region ?_ | refine s_nil ?_ | refine c_cond_t rfl ?_ | refine c_cond_f rfl ?_ | refine c_skip ?_ | refine c_ret ?_ | refine p_then_ret ?_ | refine p_end ?_ | refine c_if_t rfl (by omega) ?_ | refine c_if_f rfl (by omega) ?_)
  refine t_q (q_call rfl rfl fun l2 hl => rhas_any b _ lr hr0 hn s l2 fun x hx => hl x (.tail _ (.tail _ (List.mem_append_left _ hx)))) rfl rfl rfl ?_
  cases hok : okD (S.map NdS.d) s with
  | false =>
    rw [show setD (S.map NdS.d) s c = (3, S.map NdS.d) by unfold setD; rw [hok]; rfl]
    repeat (first | (show OpsS _ _ _ _ _ _ (_ :: _) _ _ _; first | refine ozq ?_) | refine c_seq ?_ | refine p_then ?_ | refine c_region ?_ | refine s_nil ?_ | refine c_cond_t rfl ?_ | refine c_cond_f rfl ?_ | refine c_skip ?_ | refine c_ret ?_ | refine p_then_ret ?_ | refine p_end ?_ | refine c_if_t rfl (by omega) ?_ | refine c_if_f rfl (by omega) ?_)
    exact k_ret [] rfl (.drop (.drop .refl)) (by (repeat (first | apply ResS.nil | (apply rs_tmp; (· rfl)) | (apply rs_cell1; (· rfl); (· ((repeat (first | with_reducible apply List.mem_cons_self | with_reducible apply List.mem_cons_of_mem)); try with_reducible assumption)); (· rfl)) | (apply rs_cellA; (· rfl); (· ((repeat (first | with_reducible apply List.mem_cons_self | with_reducible apply List.mem_cons_of_mem)); try with_reducible assumption)); (· (repeat (first | with_reducible apply LSub.done | with_reducible apply LSub.take | with_reducible apply LSub.drop))))))) ⟨rfl, _, hr0, rfl⟩
  | true =>
    cases hM : mayC c with
    | false =>
      rw [show setD (S.map NdS.d) s c = (5, S.map NdS.d) by unfold setD; rw [hok, hM]; rfl]
      repeat (first | (show OpsS _ _ _ _ _ _ (_ :: _) _ _ _; first | refine ozq ?_) | refine c_seq ?_ | refine p_then ?_ | refine c_region ?_ | refine s_nil ?_ | refine c_cond_t rfl ?_ | refine c_cond_f rfl ?_ | refine c_skip ?_ | refine c_ret ?_ | refine p_then_ret ?_ | refine p_end ?_ | refine c_if_t rfl (by omega) ?_ | refine c_if_f rfl (by omega) ?_)
      refine t_q (q_call rfl rfl fun l2 _ => rmay_any c l2) rfl rfl rfl ?_
      rw [may_eq c hg, hM]
      repeat (first | (show OpsS _ _ _ _ _ _ (_ :: _) _ _ _; first | refine ozq ?_) | refine c_seq ?_ | refine p_then ?_ | refine c_region ?_ | refine s_nil ?_ | refine c_cond_t rfl ?_ | refine c_cond_f rfl ?_ | refine c_skip ?_ | refine c_ret ?_ | refine p_then_ret ?_ | refine p_end ?_ | refine c_if_t rfl (by omega) ?_ | refine c_if_f rfl (by omega) ?_)
      exact k_ret [] rfl (.drop (.drop .refl)) (by (repeat (first | apply ResS.nil | (apply rs_tmp; (· rfl)) | (apply rs_cell1; (· rfl); (· ((repeat (first | with_reducible apply List.mem_cons_self | with_reducible apply List.mem_cons_of_mem)); try with_reducible assumption)); (· rfl)) | (apply rs_cellA; (· rfl); (· ((repeat (first | with_reducible apply List.mem_cons_self | with_reducible apply List.mem_cons_of_mem)); try with_reducible assumption)); (· (repeat (first | with_reducible apply LSub.done | with_reducible apply LSub.take | with_reducible apply LSub.drop))))))) ⟨rfl, _, hr0, rfl⟩
    | true =>
      rw [show setD (S.map NdS.d) s c = (0, putD (S.map NdS.d) s c) by unfold setD; rw [hok, hM]; rfl]
      repeat (first | (show OpsS _ _ _ _ _ _ (_ :: _) _ _ _; first | refine ozq ?_) | refine c_seq ?_ | refine p_then ?_ | refine c_region ?_ | refine s_nil ?_ | refine c_cond_t rfl ?_ | refine c_cond_f rfl ?_ | refine c_skip ?_ | refine c_ret ?_ | refine p_then_ret ?_ | refine p_end ?_ | refine c_if_t rfl (by omega) ?_ | refine c_if_f rfl (by omega) ?_)
      refine t_q (q_call rfl rfl fun l2 _ => rmay_any c l2) rfl rfl rfl ?_
      rw [may_eq c hg, hM]
      obtain ⟨nd, k, x, hf, hk, hx, hat⟩ := ok_split hok
      obtain ⟨A, B, hL, hi, ht, hA, hAt⟩ := idx_of hf
      have hlA : A.length < S.length := (List.getElem?_eq_some_iff.1 hAt).1
      have hkl : k < nd.C.length := (List.getElem?_eq_some_iff.1 hx).1
      obtain ⟨g1, g2⟩ := ccs_at hx
      obtain ⟨s1, s2⟩ := s
      simp only at hk hf hi ht
      subst hk
      subst ht
      have hRS : RowSl cs v 2 encN S := OwnSl.rowSl (enc := encN) hS.own (fun _ => rfl) fun c hc => hc
      obtain ⟨p, cap, rfl, hR⟩ := hRS
      obtain ⟨bB, off, xs, ty, fz, rfl, hmr, hcx⟩ := hR (by omega)
      obtain ⟨j1, j2⟩ := hcx _ nd hAt
      obtain ⟨k0, k1⟩ := ncs_at j2 j1
      obtain ⟨T, hT⟩ : ∃ T, T = capC b5 c :: slC b4 (nd.id, ((k : Nat) : Int)) :: rxC b (.slice (some ⟨bB, off, none⟩) S.length cap) :: cs := ⟨_, rfl⟩
      have q1 : capC b5 c ∈ T := by rw [hT]; exact .head _
      have q2 : slC b4 (nd.id, ((k : Nat) : Int)) ∈ T := by rw [hT]; exact .tail _ (.head _)
      have q3 : rxC b (.slice (some ⟨bB, off, none⟩) S.length cap) ∈ T := by rw [hT]; exact .tail _ (.tail _ (.head _))
      have q4 : (bB, Obj.cells xs ty fz) ∈ T := by rw [hT]; exact .tail _ (.tail _ (.tail _ hmr))
      have hSm : S.map NdS.blk = A.map NdS.blk ++ nd.blk :: B.map NdS.blk := by rw [hL, List.map_append, List.map_cons]
      have hlr : ∀ x, x ∈ lr → x ∈ T ++ (A.map NdS.blk ++ nd.blk :: (B.map NdS.blk ++ G)) := fun x hx => by
        rw [hS.eq, hSm] at hx
        rw [hT]
        rcases List.mem_cons.1 hx with rfl | hx
        · exact .tail _ (.tail _ (.head _))
        · refine .tail _ (.tail _ (.tail _ ?_))
          rcases List.mem_append.1 hx with hx | hx
          · exact List.mem_append_left _ hx
          · refine List.mem_append_right _ ?_
            rcases List.mem_append.1 hx with hx | hx
            · exact List.mem_append_left _ hx
            · refine List.mem_append_right _ ?_
              rcases List.mem_cons.1 hx with rfl | hx
              · exact .head _
              · exact .tail _ (List.mem_append_left _ hx)
      repeat (first | (show OpsS _ _ _ _ _ _ (_ :: _) _ _ _; first | refine ozq ?_) | refine c_seq ?_ | refine p_then ?_ | refine c_region ?_ | refine s_nil ?_ | refine c_cond_t rfl ?_ | refine c_cond_f rfl ?_ | refine c_skip ?_ | refine c_ret ?_ | refine p_then_ret ?_ | refine p_end ?_ | refine c_if_t rfl (by omega) ?_ | refine c_if_f rfl (by omega) ?_)
      refine c_keep (Keep.of_perm (l' := T ++ (A.map NdS.blk ++ nd.blk :: (B.map NdS.blk ++ G))) (.of_eq (by rw [hT, hS.eq, hSm]; simp))) ?_
      refine c_draw [(0, true), (1, true), (2, true), (3, true), (4, true), (5, true), (6, true), (7, true), (8, true), (9, true), (10, true), (11, true), (12, true), (13, true), (14, true), (15, false)] [[], [0], [0, 1], [0, 1, 2], [], [], [5], [4, 5, 6], [0, 1, 2, 3, 4, 5, 6, 7], [0, 1, 2, 3, 4, 5, 6, 7, 8], [0, 1, 2, 3, 4, 5, 6, 7, 8, 9], [], [11], [], [0, 1, 2, 3, 4, 5, 6, 7, 8, 9, 10, 11, 12, 13], [0, 1, 2, 3, 4, 5, 6, 7, 8, 9, 10, 11, 12, 13, 14]] (T) (by kernel_rfl) (by kernel_rfl) (by (repeat (first | apply Attach.nil | (apply Attach.cons; · rfl)))) (fun x hx => List.mem_append_left _ hx) ?_
      repeat (first | refine pl_nil ?_ | (show PlanS _ _ _ _ _ _ _ _ _ _ ((_, true, _) :: _) _ _ _; first | refine pzq ?_) | (show PlanS _ _ _ _ _ _ _ _ none [] ((_, false, _) :: _) _ _ _; first | refine pzn ?_ | refine pze ?_))
      apply pl_s (S := lr)
      · exact q_call rfl rfl fun l2 hl => rat_any b S _ cs lr hS hn2 nd.id l2 hl
      · exact hlr
      · rfl
      · rfl
      · rfl
      rw [hi]
      repeat (first | refine pl_nil ?_ | (show PlanS _ _ _ _ _ _ _ _ _ _ ((_, true, _) :: _) _ _ _; first | refine pzq ?_) | (show PlanS _ _ _ _ _ _ _ _ none [] ((_, false, _) :: _) _ _ _; first | refine pzn ?_ | refine pze ?_))
      apply pl_nS
      · exact e_storeA (b := nd.gb) (off := k * 8) (cs := List.toArray (ccs nd.C)) (n := 8) rfl rfl rfl (by simp [Value.oneCell']) (upd_pre (upd_mid _ _ _ _ _) T) g2
      · rfl
      · rfl
      · rintro _ _ ⟨rfl, rfl⟩ x hx; exact List.mem_append_left _ hx
      · exact fun _ _ _ x hx ha => anc_all (by kernel_rfl) hx ha
      rintro _ _ ⟨rfl, rfl⟩
      rw [show setFrom (List.toArray (ccs nd.C)) (k * 8) (List.toArray (encC c)).toList = List.toArray (ccs (nd.C.set k c)) from set_ccs hx]
      repeat (first | refine pl_nil ?_ | (show PlanS _ _ _ _ _ _ _ _ _ _ ((_, true, _) :: _) _ _ _; first | refine pzq ?_) | (show PlanS _ _ _ _ _ _ _ _ none [] ((_, false, _) :: _) _ _ _; first | refine pzn ?_ | refine pze ?_))
      repeat (first | (show OpsS _ _ _ _ _ _ (_ :: _) _ _ _; first | refine ozq ?_) | refine c_seq ?_ | refine p_then ?_ | refine c_region ?_ | refine s_nil ?_ | refine c_cond_t rfl ?_ | refine c_cond_f rfl ?_ | refine c_skip ?_ | refine c_ret ?_ | refine p_then_ret ?_ | refine p_end ?_ | refine c_if_t rfl (by omega) ?_ | refine c_if_f rfl (by omega) ?_)
      obtain ⟨nd', hnd'⟩ : ∃ nd' : NdS, nd' = { nd with C := nd.C.set k c } := ⟨_, rfl⟩
      have hS' : (A ++ nd' :: B).map NdS.blk = A.map NdS.blk ++ nd'.blk :: B.map NdS.blk := by rw [List.map_append, List.map_cons]
      have hncs : ncs (A ++ nd' :: B) = ncs S := by
        rw [hL]
        show (A ++ nd' :: B).flatMap encN = (A ++ nd :: B).flatMap encN
        rw [List.flatMap_append, List.flatMap_append, List.flatMap_cons, List.flatMap_cons]
        rw [show encN nd' = encN nd by rw [hnd']; simp [encN, NdS.val]]
      have hlen : (A ++ nd' :: B).length = S.length := by rw [hL]; simp
      refine k_ret [] rfl (l' := (rxC b (.slice (some ⟨bB, off, none⟩) S.length cap) :: (cs ++ (A ++ nd' :: B).map NdS.blk)) ++ G) ?_ (by (repeat (first | apply ResS.nil | (apply rs_tmp; (· rfl)) | (apply rs_cell1; (· rfl); (· ((repeat (first | with_reducible apply List.mem_cons_self | with_reducible apply List.mem_cons_of_mem)); try with_reducible assumption)); (· rfl)) | (apply rs_cellA; (· rfl); (· ((repeat (first | with_reducible apply List.mem_cons_self | with_reducible apply List.mem_cons_of_mem)); try with_reducible assumption)); (· (repeat (first | with_reducible apply LSub.done | with_reducible apply LSub.take | with_reducible apply LSub.drop))))))) ⟨rfl, _, ⟨A ++ nd' :: B, _, cs, ?_, rfl, ?_, ?_, ?_⟩, rfl⟩
      · rw [hT, hS', hnd']
        simp only [List.cons_append, List.append_assoc]
        exact .drop (.drop .refl)
      · rw [hL, put_d (by rw [← hL]; exact hS.asc), hnd']
      · rw [hncs, hlen]; exact hS.own
      · exact asc_repl (by rw [← hL]; exact hS.asc) (by rw [hnd'])
      · intro y hy
        have h1 := hS.sz
        rw [hL] at h1
        rcases List.mem_append.1 hy with hy | hy
        · exact h1 y (List.mem_append_left _ hy)
        · rcases List.mem_cons.1 hy with rfl | hy
          · have := h1 nd (List.mem_append_right _ List.mem_cons_self)
            rw [hnd']; simpa using this
          · exact h1 y (List.mem_append_right _ (.tail _ hy))
def ValD (D : SD) : Prop := ∀ x, x ∈ D → ∀ c, c ∈ x.2 → c.kind = 0 → c = capZ
set_option maxRecDepth 20000 in
theorem rdrop_any (b : Nat) (D : SD) (lr : List Chunk) (hr : IsR b D lr) (hn : D.length ≤ 900000) (hV : ValD D) (a : Int) (G : List Chunk) :
    Fn Try.prog 12 [.pointer (some ⟨b, 0, none⟩), .int .i64 a] (lr ++ G) fun v l' => v = .int .i64 (dropN D a).1 ∧ ∃ lr', IsR b (dropN D a).2 lr' ∧ l' = lr' ++ G := by
  have hr0 := hr
  obtain ⟨S, v, cs, rfl, hS⟩ := hr
  have hn2 : S.length ≤ 900000 := by simpa using hn
  refine fn_of_body Try.func12 rfl rfl fun E => ?_
  simp only [argF, Try.ntmps12]
  repeat (first | (show OpsS _ _ _ _ _ _ (_ :: _) _ _ _; first | refine ozq ?_) | refine c_seq ?_ | refine p_then ?_ | refine c_region ?_ | refine s_nil ?_ | refine c_cond_t rfl ?_ | refine c_cond_f rfl ?_ | refine c_block ?_ | refine c_skip ?_ | refine c_exit ?_ | refine p_block ?_ | refine p_then_exit ?_ | refine p_block_here ?_ | refine p_block_on rfl ?_ | refine c_ret ?_ | refine p_then_ret ?_ | refine p_block_ret ?_ | refine p_end ?_ | refine c_if_t rfl (by omega) ?_ | refine c_if_f rfl (by omega) ?_)
  refine t_q (q_call rfl rfl fun l2 hl => rat_any b S _ cs lr hS hn2 a l2 fun c hc => hl c (List.mem_append_left _ hc)) rfl rfl rfl ?_
  cases hf : findK NdS.id S a with
  | none =>
    rw [idx_neg hf, show dropN (S.map NdS.d) a = (2, S.map NdS.d) by unfold dropN; rw [find_d, hf]; rfl]
    repeat (first | (show OpsS _ _ _ _ _ _ (_ :: _) _ _ _; first | refine ozq ?_) | refine c_seq ?_ | refine p_then ?_ | refine c_region ?_ | refine s_nil ?_ | refine c_cond_t rfl ?_ | refine c_cond_f rfl ?_ | refine c_block ?_ | refine c_skip ?_ | refine c_exit ?_ | refine p_block ?_ | refine p_then_exit ?_ | refine p_block_here ?_ | refine p_block_on rfl ?_ | refine c_ret ?_ | refine p_then_ret ?_ | refine p_block_ret ?_ | refine p_end ?_ | refine c_if_t rfl (by omega) ?_ | refine c_if_f rfl (by omega) ?_)
    exact k_ret [] rfl .refl (by (repeat (first | apply ResS.nil | (apply rs_tmp; (· rfl)) | (apply rs_cell1; (· rfl); (· ((repeat (first | with_reducible apply List.mem_cons_self | with_reducible apply List.mem_cons_of_mem)); try with_reducible assumption)); (· rfl)) | (apply rs_cellA; (· rfl); (· ((repeat (first | with_reducible apply List.mem_cons_self | with_reducible apply List.mem_cons_of_mem)); try with_reducible assumption)); (· (repeat (first | with_reducible apply LSub.done | with_reducible apply LSub.take | with_reducible apply LSub.drop))))))) ⟨rfl, _, hr0, rfl⟩
  | some nd =>
    obtain ⟨hmem, hid⟩ := findK_some hf
    have hsz := hS.sz nd hmem
    obtain ⟨A, B, hL, hi, ht, hA, hAt⟩ := idx_of hf
    have hlA : A.length < S.length := (List.getElem?_eq_some_iff.1 hAt).1
    have hV2 : ∀ c, c ∈ nd.C → c.kind = 0 → c = capZ := fun c hc => hV nd.d (List.mem_map.2 ⟨nd, hmem, rfl⟩) c hc
    rw [hi]
    obtain ⟨p, cap, hv, hm, hR⟩ := hS.view (l := lr ++ G) fun c hc => List.mem_append_left _ hc
    obtain ⟨bB, off, xs, ty, fz, rfl, hmr, hcx⟩ := hR (by omega)
    obtain ⟨k0, k1, _⟩ := hcx _ nd hAt
    have hmb : nd.blk ∈ lr ++ G := List.mem_append_left _ (hS.m3 hmem)
    repeat (first | (show OpsS _ _ _ _ _ _ (_ :: _) _ _ _; first | refine ozq ?_) | refine c_seq ?_ | refine p_then ?_ | refine c_region ?_ | refine s_nil ?_ | refine c_cond_t rfl ?_ | refine c_cond_f rfl ?_ | refine c_block ?_ | refine c_skip ?_ | refine c_exit ?_ | refine p_block ?_ | refine p_then_exit ?_ | refine p_block_here ?_ | refine p_block_on rfl ?_ | refine c_ret ?_ | refine p_then_ret ?_ | refine p_block_ret ?_ | refine p_end ?_ | refine c_if_t rfl (by omega) ?_ | refine c_if_f rfl (by omega) ?_)
    refine k_loop (α := Nat) (fun k => [(0, .pointer (some ⟨b, 0, none⟩)), (1, .int .i64 a), (5, .int .i64 (A.length : Nat)), (6, .int .i64 k)]) (fun _ => lr ++ G) (fun k => k ≤ nd.C.length ∧ ∀ c, c ∈ nd.C.take k → c = capZ) (fun k => nd.C.length - k) 0 ⟨Nat.zero_le _, by simp⟩ ⟨rfl, rfl, rfl, rfl, trivial⟩ .refl ?_
    rintro k ⟨hk, hz⟩
    by_cases hlt : k < nd.C.length
    · obtain ⟨c, hc⟩ : ∃ c, nd.C[k]? = some c := ⟨_, List.getElem?_eq_getElem hlt⟩
      obtain ⟨g1, g2⟩ := ccs_at hc
      have gk : (List.toArray (ccs nd.C))[k * 8]? = some (.int .i64 c.kind) := by
        have e2 : (List.toArray (encC c))[0]? = (encC c)[0]? := by simp
        have : (List.toArray (ccs nd.C))[k * 8 + 0]? = (encC c)[0]? := by rw [← e2, ← g1, Array.getElem?_extract, if_pos (by omega)]
        exact this
      repeat (first | (show OpsS _ _ _ _ _ _ (_ :: _) _ _ _; first | refine ozq ?_) | refine c_seq ?_ | refine p_then ?_ | refine c_region ?_ | refine s_nil ?_ | refine c_cond_t rfl ?_ | refine c_cond_f rfl ?_ | refine c_block ?_ | refine c_skip ?_ | refine c_exit ?_ | refine p_block ?_ | refine p_then_exit ?_ | refine p_block_here ?_ | refine p_block_on rfl ?_ | refine c_ret ?_ | refine p_then_ret ?_ | refine p_block_ret ?_ | refine p_end ?_ | refine c_if_t rfl (by omega) ?_ | refine c_if_f rfl (by omega) ?_)
      by_cases hk0 : c.kind = 0
      · have hcz := hV2 c (List.mem_of_getElem? hc) hk0
        repeat (first | (show OpsS _ _ _ _ _ _ (_ :: _) _ _ _; first | refine ozq ?_) | refine c_seq ?_ | refine p_then ?_ | refine c_region ?_ | refine s_nil ?_ | refine c_cond_t rfl ?_ | refine c_cond_f rfl ?_ | refine c_block ?_ | refine c_skip ?_ | refine c_exit ?_ | refine p_block ?_ | refine p_then_exit ?_ | refine p_block_here ?_ | refine p_block_on rfl ?_ | refine c_ret ?_ | refine p_then_ret ?_ | refine p_block_ret ?_ | refine p_end ?_ | refine c_if_t rfl (by omega) ?_ | refine c_if_f rfl (by omega) ?_)
        refine k_next (k + 1) ⟨by omega, fun x hx => ?_⟩ (by omega) ⟨rfl, rfl, rfl, rfl, trivial⟩ .refl
        rw [List.take_add_one, hc] at hx
        rcases List.mem_append.1 hx with hx | hx
        · exact hz x hx
        · have : x = c := by simpa using hx
          rw [this]; exact hcz
      · rw [show dropN (S.map NdS.d) a = (16, S.map NdS.d) by
          unfold dropN
          rw [find_d, hf]
          simp only [Option.map_some]
          rw [if_neg fun h => by
            have h2 := eqC_iff.1 (List.all_eq_true.1 h c (List.mem_of_getElem? hc))
            exact hk0 (by rw [h2])]]
        repeat (first | (show OpsS _ _ _ _ _ _ (_ :: _) _ _ _; first | refine ozq ?_) | refine c_seq ?_ | refine p_then ?_ | refine c_region ?_ | refine s_nil ?_ | refine c_cond_t rfl ?_ | refine c_cond_f rfl ?_ | refine c_block ?_ | refine c_skip ?_ | refine c_exit ?_ | refine p_block ?_ | refine p_then_exit ?_ | refine p_block_here ?_ | refine p_block_on rfl ?_ | refine c_ret ?_ | refine p_then_ret ?_ | refine p_block_ret ?_ | refine p_end ?_ | refine c_if_t rfl (by omega) ?_ | refine c_if_f rfl (by omega) ?_)
        exact k_ret [] rfl .refl (by (repeat (first | apply ResS.nil | (apply rs_tmp; (· rfl)) | (apply rs_cell1; (· rfl); (· ((repeat (first | with_reducible apply List.mem_cons_self | with_reducible apply List.mem_cons_of_mem)); try with_reducible assumption)); (· rfl)) | (apply rs_cellA; (· rfl); (· ((repeat (first | with_reducible apply List.mem_cons_self | with_reducible apply List.mem_cons_of_mem)); try with_reducible assumption)); (· (repeat (first | with_reducible apply LSub.done | with_reducible apply LSub.take | with_reducible apply LSub.drop))))))) ⟨rfl, _, hr0, rfl⟩
    · obtain rfl : k = nd.C.length := by omega
      rw [List.take_length] at hz
      have hall : nd.C.all (fun c => eqC c capZ) = true := List.all_eq_true.2 fun c hc => eqC_iff.2 (hz c hc)
      rw [show dropN (S.map NdS.d) a = (0, (S.map NdS.d).filter fun x => decide (x.1 ≠ a)) by
          unfold dropN
          rw [find_d, hf]
          simp only [Option.map_some]
          rw [if_pos hall]]
      have hfil : S.filter (fun x => decide (x.id ≠ a)) = A ++ B := by rw [hL]; exact drop_split (by rw [← hL]; exact hS.asc) hid
      have hlS : S.length = A.length + 1 + B.length := by rw [hL]; simp; omega
      rcases hS.own.2 with ⟨h9, h0, _⟩ | ⟨gb, cap2, sp, h9, hcs, hnc, hcm, hcl⟩
      · omega
      repeat (first | (show OpsS _ _ _ _ _ _ (_ :: _) _ _ _; first | refine ozq ?_) | refine c_seq ?_ | refine p_then ?_ | refine c_region ?_ | refine s_nil ?_ | refine c_cond_t rfl ?_ | refine c_cond_f rfl ?_ | refine c_block ?_ | refine c_skip ?_ | refine c_exit ?_ | refine p_block ?_ | refine p_then_exit ?_ | refine p_block_here ?_ | refine p_block_on rfl ?_ | refine c_ret ?_ | refine p_then_ret ?_ | refine p_block_ret ?_ | refine p_end ?_ | refine c_if_t rfl (by omega) ?_ | refine c_if_f rfl (by omega) ?_)
      subst h9
      cases hv
      have hn1 : ∀ j u, (ncs A)[j]? = some u → (List.toArray (ncs S ++ sp))[0 + j]? = some u := fun j u h => by rw [hL]; exact ncs_fst h
      have hn2 : ∀ j u, (ncs B)[j]? = some u → (List.toArray (ncs S ++ sp))[(A.length + 1) * 2 + j]? = some u := fun j u h => by
        rw [hL, show A ++ nd :: B = (A ++ [nd]) ++ B by simp, show A.length + 1 = (A ++ [nd]).length by simp]; exact ncs_snd h
      obtain ⟨off', hoff⟩ : ∃ o, (if cap = A.length + 1 then 0 else 0 + (A.length + 1) * 2) = o := ⟨_, rfl⟩
      have hn3 : ∀ j u, (ncs B)[j]? = some u → (List.toArray (ncs S ++ sp))[off' + j]? = some u := fun j u h => by
        have := (List.getElem?_eq_some_iff.1 h).1
        rw [ncs_l] at this
        rw [← hoff, if_neg (by omega), Nat.zero_add]; exact hn2 j u h
      have hm2 : (bB, Obj.cells (List.toArray (ncs S ++ sp)) 64 (0, 0)) ∈ lr ++ G := List.mem_append_left _ (hS.m2 (by rw [hcs]; exact .head _))
      refine c_draw [(0, true), (1, true), (2, true), (3, true), (4, true), (5, true), (6, true), (8, true), (9, true), (10, true), (11, true), (12, true), (13, true), (14, true), (7, false), (15, false), (16, true), (17, true), (18, false)] [[], [], [1], [1, 2], [1, 2, 3], [], [1, 2, 3, 4, 5], [1, 2, 3, 4, 5, 6], [], [8], [8, 9], [8, 9, 10], [], [12], [8, 9, 10, 11, 12, 13], [1, 2, 3, 4, 5, 6, 7, 8, 9, 10, 11, 12, 13, 14], [0, 1, 2, 3, 4, 5, 6, 7, 8, 9, 10, 11, 12, 13, 14, 15], [0, 1, 2, 3, 4, 5, 6, 7, 8, 9, 10, 11, 12, 13, 14, 15, 16], [0, 1, 2, 3, 4, 5, 6, 7, 8, 9, 10, 11, 12, 13, 14, 15, 16, 17]] ([]) (by kernel_rfl) (by kernel_rfl) (by (repeat (first | apply Attach.nil | (apply Attach.cons; · rfl)))) (fun c hc => by cases hc) ?_
      repeat (first | refine pl_nil ?_ | (show PlanS _ _ _ _ _ _ _ _ _ _ ((_, true, _) :: _) _ _ _; first | refine pzq ?_) | (show PlanS _ _ _ _ _ _ _ _ none [] ((_, false, _) :: _) _ _ _; first | refine pzn ?_ | refine pze ?_))
      apply pl_s (S := [rxC b (.slice (some ⟨bB, 0, none⟩) S.length cap)]); (· first | exact q_load rfl (.head _) (by (first | with_reducible assumption | ((with_reducible apply cell_get); (repeat (first | with_reducible apply LGet.zero | with_reducible apply LGet.succ))))) | exact q_loadL rfl (.head _) (by (repeat (first | with_reducible apply LSub.done | with_reducible apply LSub.take | with_reducible apply LSub.drop)))); (· exact sing_mem (hm)); (· rfl); (· rfl); (· rfl)
      repeat (first | refine pl_nil ?_ | (show PlanS _ _ _ _ _ _ _ _ _ _ ((_, true, _) :: _) _ _ _; first | refine pzq ?_) | (show PlanS _ _ _ _ _ _ _ _ none [] ((_, false, _) :: _) _ _ _; first | refine pzn ?_ | refine pze ?_))
      apply pl_q
      · exact q_slice (l0 := 0) (h0 := A.length) (m0 := cap) (off' := 0) (n' := A.length) (c' := cap) rfl .none (.some rfl (by omega) rfl) .none (by simp) (by omega) (by omega) (by omega) (by simp) (by omega) (by omega)
      · rfl
      · rfl
      · rfl
      repeat (first | refine pl_nil ?_ | (show PlanS _ _ _ _ _ _ _ _ _ _ ((_, true, _) :: _) _ _ _; first | refine pzq ?_) | (show PlanS _ _ _ _ _ _ _ _ none [] ((_, false, _) :: _) _ _ _; first | refine pzn ?_ | refine pze ?_))
      apply pl_s (S := [rxC b (.slice (some ⟨bB, 0, none⟩) S.length cap)]); (· first | exact q_load rfl (.head _) (by (first | with_reducible assumption | ((with_reducible apply cell_get); (repeat (first | with_reducible apply LGet.zero | with_reducible apply LGet.succ))))) | exact q_loadL rfl (.head _) (by (repeat (first | with_reducible apply LSub.done | with_reducible apply LSub.take | with_reducible apply LSub.drop)))); (· exact sing_mem (hm)); (· rfl); (· rfl); (· rfl)
      repeat (first | refine pl_nil ?_ | (show PlanS _ _ _ _ _ _ _ _ _ _ ((_, true, _) :: _) _ _ _; first | refine pzq ?_) | (show PlanS _ _ _ _ _ _ _ _ none [] ((_, false, _) :: _) _ _ _; first | refine pzn ?_ | refine pze ?_))
      apply pl_q
      · exact q_slice (l0 := A.length + 1) (h0 := S.length) (m0 := cap) (off' := off') (n' := B.length) rfl (.some rfl (by omega) (by omega)) .none .none (by simp) (by omega) (by omega) (by omega) hoff (by omega) rfl
      · rfl
      · rfl
      · rfl
      repeat (first | refine pl_nil ?_ | (show PlanS _ _ _ _ _ _ _ _ _ _ ((_, true, _) :: _) _ _ _; first | refine pzq ?_) | (show PlanS _ _ _ _ _ _ _ _ none [] ((_, false, _) :: _) _ _ _; first | refine pzn ?_ | refine pze ?_))
      apply pl_eS
      · exact ce_append (k := 2) (e := 64) (m := A.length) (xs := []) (cs := []) (F := lr ++ G) (news := ncs A) (cl := List.toArray (ncs S ++ sp)) rfl rfl rfl (OwnSl.nil _ _) hm2 hn1 (ncs_l A) ncs_ones (by unfold maxLen; omega) (by omega)
      · rfl
      · rfl
      · rfl
      · intro _ _ _ c hc; cases hc
      · rintro _ _ ⟨c1, _, rfl⟩ x hx _ c hc
        refine List.mem_append_right _ ?_
        cases hx with
        | head => rw [List.mem_singleton.1 hc]; exact hm
        | tail _ hx => rw [List.mem_singleton.1 hx] at hc; rw [List.mem_singleton.1 hc]; exact hm
      rintro v1 _ ⟨c1, ho1, rfl⟩
      rw [List.nil_append, Nat.zero_add] at ho1
      repeat (first | refine pl_nil ?_ | (show PlanS _ _ _ _ _ _ _ _ _ _ ((_, true, _) :: _) _ _ _; first | refine pzq ?_) | (show PlanS _ _ _ _ _ _ _ _ none [] ((_, false, _) :: _) _ _ _; first | refine pzn ?_ | refine pze ?_))
      apply pl_eS
      · exact ce_append (k := 2) (e := 64) (m := B.length) (xs := ncs A) (cs := c1) (F := lr ++ G) (news := ncs B) (cl := List.toArray (ncs S ++ sp)) rfl rfl rfl ho1 (List.mem_append_right _ hm2) hn3 (ncs_l B) ncs_ones (by unfold maxLen; omega) (by omega)
      (· rfl); (· rfl); (· rfl); (· intro _ _ _ c hc; cases hc); (· exact fun _ _ _ x hx ha => anc_all (by kernel_rfl) hx ha)
      rintro v2 _ ⟨c2, ho2, rfl⟩
      have hv2 : v2.oneCell' = true := ho2.one
      repeat (first | refine pl_nil ?_ | (show PlanS _ _ _ _ _ _ _ _ _ _ ((_, true, _) :: _) _ _ _; first | refine pzq ?_) | (show PlanS _ _ _ _ _ _ _ _ none [] ((_, false, _) :: _) _ _ _; first | refine pzn ?_ | refine pze ?_))
      have hSm : S.map NdS.blk = A.map NdS.blk ++ nd.blk :: B.map NdS.blk := by rw [hL, List.map_append, List.map_cons]
      rw [hS.eq, hSm]
      simp only [List.cons_append]
      apply pl_nS
      · exact e_store (b := b) (off := 0) (l' := c2 ++ (rxC b v2 :: (cs ++ (A.map NdS.blk ++ nd.blk :: B.map NdS.blk) ++ G))) rfl rfl hv2 (upd_pre .here c2) (by simp)
      (· rfl); (· rfl); (· intro _ _ _ c hc; cases hc); (· exact fun _ _ _ x hx ha => anc_all (by kernel_rfl) hx ha)
      rintro _ _ ⟨rfl, rfl⟩
      repeat (first | refine pl_nil ?_ | (show PlanS _ _ _ _ _ _ _ _ _ _ ((_, true, _) :: _) _ _ _; first | refine pzq ?_) | (show PlanS _ _ _ _ _ _ _ _ none [] ((_, false, _) :: _) _ _ _; first | refine pzn ?_ | refine pze ?_))
      repeat (first | (show OpsS _ _ _ _ _ _ (_ :: _) _ _ _; first | refine ozq ?_) | refine c_seq ?_ | refine p_then ?_ | refine c_region ?_ | refine s_nil ?_ | refine c_cond_t rfl ?_ | refine c_cond_f rfl ?_ | refine c_block ?_ | refine c_skip ?_ | refine c_exit ?_ | refine p_block ?_ | refine p_then_exit ?_ | refine p_block_here ?_ | refine p_block_on rfl ?_ | refine c_ret ?_ | refine p_then_ret ?_ | refine p_block_ret ?_ | refine p_end ?_ | refine c_if_t rfl (by omega) ?_ | refine c_if_f rfl (by omega) ?_)
      rw [← ncs_app] at ho2
      refine k_ret [] rfl (l' := (rxC b v2 :: (c2 ++ (A ++ B).map NdS.blk)) ++ G) ?_ (by (repeat (first | apply ResS.nil | (apply rs_tmp; (· rfl)) | (apply rs_cell1; (· rfl); (· ((repeat (first | with_reducible apply List.mem_cons_self | with_reducible apply List.mem_cons_of_mem)); try with_reducible assumption)); (· rfl)) | (apply rs_cellA; (· rfl); (· ((repeat (first | with_reducible apply List.mem_cons_self | with_reducible apply List.mem_cons_of_mem)); try with_reducible assumption)); (· (repeat (first | with_reducible apply LSub.done | with_reducible apply LSub.take | with_reducible apply LSub.drop))))))) ⟨rfl, _, ⟨A ++ B, v2, c2, by rw [← filter_d, hfil], rfl, by rw [List.length_append]; exact ho2, asc_cut (by rw [← hL]; exact hS.asc), ?_⟩, rfl⟩
      · rw [List.map_append]
        exact keep_drop15 _ c2 cs (A.map NdS.blk) (B.map NdS.blk) G nd.blk
      · intro x hx
        refine hS.sz x ?_
        rw [hL]
        rcases List.mem_append.1 hx with hx | hx
        · exact List.mem_append_left _ hx
        · exact List.mem_append_right _ (.tail _ hx)
end Go.Proofs.Ytikcekfalfllpaa
