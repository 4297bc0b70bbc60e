/- Laws that the statement's proof leans on (joined out of several texts). -/
import Derived.Test.YtcjknmpogkofpaaGreatGm3
import Derived.Test.YtcjknmpogkofpaaGreatGm8
import Derived.Test.YtcjknmpogkofpaaGreatGm7
import Derived.Test.YtcjknmpogkofpaaGreatGm6
import Derived.Test.YtcjknmpogkofpaaGreatGm4
set_option linter.unusedVariables false
set_option linter.unusedSimpArgs false
namespace Go.Proofs.YtcjknmpogkofpaaGreat
open Go.RowKit
set_option maxRecDepth 20000
section
variable {α : Type} {key : α → Int}
end
set_option maxHeartbeats 400000
theorem rat_any (b : Nat) (S : List NdS) (v : Value) (cs lr : List Chunk) (hr : RB b S v cs lr) (hn : S.length ≤ 900000) (a : Int) (l : List Chunk) (hsub : ∀ c, c ∈ lr → c ∈ l) :
    Fn Tryz.prog 160 [.pointer (some ⟨b, 0, none⟩), .int .i64 a] l fun v l' => v = .int .i64 (idxK NdS.id S a) ∧ l' = l := by
  obtain ⟨p, cap, rfl, hm, hR⟩ := hr.view hsub
  refine fn_of_body Tryz.func160 rfl rfl fun E => ?_
  simp only [argF, Tryz.ntmps160]
  refine gz ?_
  refine k_loop (α := Nat) (fun k => [(0, .pointer (some ⟨b, 0, none⟩)), (1, .int .i64 a), (5, .int .i64 k)]) (fun _ => l) (fun k => k ≤ S.length ∧ ∀ j y, j < k → S[j]? = some y → y.id ≠ a) (fun k => S.length - k) 0 ⟨Nat.zero_le _, fun j y h => by omega⟩ ⟨rfl, rfl, rfl, trivial⟩ .refl ?_
  rintro k ⟨hk, hj⟩
  by_cases hlt : k < S.length
  · obtain ⟨bB, off, xs, t, fz, rfl, hmr, hc⟩ := hR (by omega)
    obtain ⟨x, hx⟩ : ∃ x, S[k]? = some x := ⟨_, List.getElem?_eq_getElem hlt⟩
    obtain ⟨g0, _⟩ := hc k x hx
    refine gz ?_
    by_cases hxs : x.id = a
    · rw [idx_hit (key := NdS.id) hx hxs hj]
      refine gz ?_
      exact k_ret [] rfl .refl (by exact zRes) ⟨rfl, rfl⟩
    · refine gz ?_
      refine k_next (k + 1) ⟨by omega, fun j y h1 h2 => ?_⟩ (by omega) ⟨rfl, rfl, rfl, trivial⟩ .refl
      by_cases e : j = k
      · rw [e, hx] at h2; cases h2; exact hxs
      · exact hj j y (by omega) h2
  · obtain rfl : k = S.length := by omega
    rw [idx_neg (findK_none.2 fun y hy => by
      obtain ⟨j, hjy⟩ := List.mem_iff_getElem?.1 hy
      exact hj j y (List.getElem?_eq_some_iff.1 hjy).1 hjy)]
    refine gz ?_
    exact k_ret [] rfl .refl (by exact zRes) ⟨rfl, rfl⟩
theorem rsize_any (b : Nat) (D : SD) (lr : List Chunk) (hr : IsR b D lr) (hn : D.length ≤ 900000) (a : Int) (l : List Chunk) (hsub : ∀ c, c ∈ lr → c ∈ l) :
    Fn Tryz.prog 163 [.pointer (some ⟨b, 0, none⟩), .int .i64 a] l fun v l' => v = .int .i64 (sizeD D a) ∧ l' = l := by
  obtain ⟨S, v, cs, rfl, hS⟩ := hr
  have hn2 : S.length ≤ 900000 := by simpa using hn
  obtain ⟨p, cap, rfl, hm, hR⟩ := hS.view hsub
  refine fn_of_body Tryz.func163 rfl rfl fun E => ?_
  simp only [argF, Tryz.ntmps163]
  refine gz ?_
  refine t_q (q_call rfl rfl fun l2 hl => rat_any b S _ cs lr hS hn2 a l2 fun c hc => hl c (hsub c hc)) rfl rfl rfl ?_
  cases hf : findK NdS.id S a with
  | none =>
    rw [idx_neg hf, show sizeD (S.map NdS.d) a = 0 by unfold sizeD; rw [find_d, hf]; rfl]
    refine gz ?_
    exact k_ret [] rfl .refl (by exact zRes) ⟨rfl, rfl⟩
  | some nd =>
    obtain ⟨A, B, hL, hi, ht, hA, hAt⟩ := idx_of hf
    have hlA : A.length < S.length := (List.getElem?_eq_some_iff.1 hAt).1
    rw [hi, show sizeD (S.map NdS.d) a = (nd.C.length : Nat) by unfold sizeD; rw [find_d, hf]; rfl]
    obtain ⟨bB, off, xs, ty, fz, rfl, hmr, hc⟩ := hR (by omega)
    obtain ⟨g0, g1, _⟩ := hc _ nd hAt
    refine gz ?_
    exact k_ret [] rfl .refl (by exact zRes) ⟨rfl, rfl⟩
theorem rhas_any (b : Nat) (D : SD) (lr : List Chunk) (hr : IsR b D lr) (hn : D.length ≤ 900000) (s : slT) (l : List Chunk) (hsub : ∀ c, c ∈ lr → c ∈ l) :
    Fn Tryz.prog 108 [.pointer (some ⟨b, 0, none⟩), .agg (List.toArray (encT s))] l fun v l' => v = .bool (okD D s) ∧ l' = l := by
  refine fn_of_body Tryz.func108 rfl rfl fun E => ?_
  simp only [argF, Tryz.ntmps108]
  refine gz ?_
  (first | refine t_e (e_box1 rfl rfl) rfl rfl rfl ?_ | refine t_e (e_boxA rfl) rfl rfl rfl ?_); rintro _ _ ⟨b3, _, rfl, rfl⟩
  unfold okD
  by_cases h0 : 0 ≤ s.2
  · rw [decide_eq_true h0, Bool.true_and]
    refine gz ?_
    refine c_draw [(0, true), (1, true), (2, true), (3, true), (4, true), (5, true), (6, true), (7, true), (8, true), (9, true), (10, true), (11, true), (12, true)] [[], [0], [0, 1], [0, 1, 2], [0, 1, 2, 3], [0, 1, 2, 3, 4], [0, 1, 2, 3], [0, 1, 2, 3], [0, 1, 2, 3, 7], [0, 1, 2, 3, 6, 7, 8], [0, 1, 2, 3, 4, 5, 6, 7, 8, 9], [0, 1, 2, 3, 4, 5, 6, 7, 8, 9, 10], [0, 1, 2, 3, 4, 5, 6, 7, 8, 9, 10, 11]] _ (by kernel_rfl) (by kernel_rfl) zAtt (fun _ h => h) ?_
    refine pz ?_
    refine pl_h (q_call rfl rfl fun l2 hl => rsize_any b D lr hr hn s.1 l2 fun c hc => hl c (.tail _ (hsub c hc))) rfl rfl rfl ?_
    refine pz ?_
    refine gz ?_
    exact k_ret [] rfl (.drop .refl) (by exact zRes) ⟨rfl, rfl⟩
  · rw [decide_eq_false h0, Bool.false_and]
    refine gz ?_
    refine c_draw [(0, true), (1, true), (2, true), (3, true), (4, true), (5, true), (6, true), (7, true), (8, true), (9, true), (10, true), (11, true), (12, true)] [[], [0], [0, 1], [0, 1, 2], [0, 1, 2, 3], [0, 1, 2, 3, 4], [0, 1, 2, 3], [0, 1, 2, 3], [0, 1, 2, 3, 7], [0, 1, 2, 3, 6, 7, 8], [0, 1, 2, 3, 4, 5, 6, 7, 8, 9], [0, 1, 2, 3, 4, 5, 6, 7, 8, 9, 10], [0, 1, 2, 3, 4, 5, 6, 7, 8, 9, 10, 11]] _ (by kernel_rfl) (by kernel_rfl) zAtt (fun _ h => h) ?_
    refine pz ?_
    refine gz ?_
    exact k_ret [] rfl (.drop .refl) (by exact zRes) ⟨rfl, rfl⟩
theorem rget_any (b : Nat) (D : SD) (lr : List Chunk) (hr : IsR b D lr) (hn : D.length ≤ 900000) (s : slT) (l : List Chunk) (hsub : ∀ c, c ∈ lr → c ∈ l) :
    Fn Tryz.prog 165 [.pointer (some ⟨b, 0, none⟩), .agg (List.toArray (encT s))] l fun v l' => v = .tuple #[.agg (List.toArray (encC (getD' D s).1)), .int .i64 (getD' D s).2] ∧ l' = l := by
  have hr0 := hr
  obtain ⟨S, v, cs, rfl, hS⟩ := hr
  have hn2 : S.length ≤ 900000 := by simpa using hn
  obtain ⟨p, cap, rfl, hm, hR⟩ := hS.view hsub
  refine fn_of_body Tryz.func165 rfl rfl fun E => ?_
  simp only [argF, Tryz.ntmps165]
  refine gz ?_
  (first | refine t_e (e_box1 rfl rfl) rfl rfl rfl ?_ | refine t_e (e_boxA rfl) rfl rfl rfl ?_); rintro _ _ ⟨b3, _, rfl, rfl⟩
  refine gz ?_
  refine t_e e_alloc rfl rfl rfl ?_; rintro _ _ ⟨b4, _, rfl, rfl⟩
  refine gz ?_
  refine t_q (q_call rfl rfl fun l2 hl => rhas_any b _ lr hr0 hn s l2 fun c hc => hl c (.tail _ (.tail _ (hsub c hc)))) rfl rfl rfl ?_
  cases hok : okD (S.map NdS.d) s with
  | false =>
    rw [show getD' (S.map NdS.d) s = (capZ, 3) by unfold getD'; rw [hok]; rfl]
    refine gz ?_
    exact k_ret2 [] (capC b4 capZ :: slC b3 s :: l) rfl (l' := l) .refl (by exact zRes) (.drop (.drop .refl)) ⟨rfl, rfl⟩
  | true =>
    obtain ⟨nd, k, c, hf, hk, hc, hat⟩ := ok_split hok
    rw [show getD' (S.map NdS.d) s = (c, 0) by unfold getD'; rw [hok, hat]; rfl]
    obtain ⟨A, B, hL, hi, ht, hA, hAt⟩ := idx_of hf
    have hlA : A.length < S.length := (List.getElem?_eq_some_iff.1 hAt).1
    have hkl : k < nd.C.length := (List.getElem?_eq_some_iff.1 hc).1
    obtain ⟨bB, off, xs, ty, fz, rfl, hmr, hcx⟩ := hR (by omega)
    obtain ⟨g0, g1, _⟩ := hcx _ nd hAt
    obtain ⟨c1, c2⟩ := ccs_at hc
    have hmb : nd.blk ∈ l := hsub _ (hS.m3 (findK_some hf).1)
    obtain ⟨s1, s2⟩ := s
    simp only at hk hf hi
    subst hk
    refine gz ?_
    refine c_draw [(0, true), (1, true), (2, true), (3, true), (4, true), (5, true), (6, true), (7, true), (8, true), (9, true), (10, true), (11, true), (12, true), (13, true), (14, true), (15, false), (16, true)] [[], [0], [0, 1], [0, 1, 2], [], [], [5], [4, 5, 6], [0, 1, 2, 3, 4, 5, 6, 7], [0, 1, 2, 3, 4, 5, 6, 7, 8], [0, 1, 2, 3, 4, 5, 6, 7, 8, 9], [], [11], [0, 1, 2, 3, 4, 5, 6, 7, 8, 9, 10, 11, 12], [0, 1, 2, 3, 4, 5, 6, 7, 8, 9, 10, 11, 12, 13], [0, 1, 2, 3, 4, 5, 6, 7, 8, 9, 10, 11, 12, 13, 14], [0, 1, 2, 3, 4, 5, 6, 7, 8, 9, 10, 11, 12, 13, 14, 15]] (slC b3 (s1, ((k : Nat) : Int)) :: l) (by kernel_rfl) (by kernel_rfl) zAtt zHR ?_
    refine pz ?_
    refine pl_h (q_call rfl rfl fun l2 hl => rat_any b S _ cs lr hS hn2 s1 l2 fun c hc => hl c (.tail _ (hsub c hc))) rfl rfl rfl ?_
    rw [hi]
    refine pz ?_
    refine pl_h (q_loadA (n := 8) rfl (.tail _ hmb) c2 c1) rfl rfl rfl ?_
    refine pz ?_
    refine gz ?_
    exact k_ret2 [] (capC b4 c :: slC b3 (s1, ((k : Nat) : Int)) :: l) rfl (l' := l) .refl (by exact zRes) (.drop (.drop .refl)) ⟨rfl, rfl⟩
theorem rset_any (b : Nat) (D : SD) (lr : List Chunk) (hr : IsR b D lr) (hn : D.length ≤ 900000) (s : slT) (c : CapT) (hg : c.guard ≤ 9223372036854775807) (G : List Chunk) :
    Fn Tryz.prog 111 [.pointer (some ⟨b, 0, none⟩), .agg (List.toArray (encT s)), .agg (List.toArray (encC c))] (lr ++ G) fun v l' => v = .int .i64 (setD D s c).1 ∧ ∃ lr', IsR b (setD D s c).2 lr' ∧ l' = lr' ++ G := by
  have hr0 := hr
  obtain ⟨S, v, cs, rfl, hS⟩ := hr
  have hn2 : S.length ≤ 900000 := by simpa using hn
  refine fn_of_body Tryz.func111 rfl rfl fun E => ?_
  simp only [argF, Tryz.ntmps111]
  refine gz ?_
  (first | refine t_e (e_box1 rfl rfl) rfl rfl rfl ?_ | refine t_e (e_boxA rfl) rfl rfl rfl ?_); rintro _ _ ⟨b4, _, rfl, rfl⟩
  refine gz ?_
  (first | refine t_e (e_box1 rfl rfl) rfl rfl rfl ?_ | refine t_e (e_boxA rfl) rfl rfl rfl ?_); rintro _ _ ⟨b5, _, rfl, rfl⟩
  refine gz ?_
  refine t_q (q_call rfl rfl fun l2 hl => rhas_any b _ lr hr0 hn s l2 fun x hx => hl x (.tail _ (.tail _ (List.mem_append_left _ hx)))) rfl rfl rfl ?_
  cases hok : okD (S.map NdS.d) s with
  | false =>
    rw [show setD (S.map NdS.d) s c = (3, S.map NdS.d) by unfold setD; rw [hok]; rfl]
    refine gz ?_
    exact k_ret [] rfl (.drop (.drop .refl)) (by exact zRes) ⟨rfl, _, hr0, rfl⟩
  | true =>
    cases hM : mayC c with
    | false =>
      rw [show setD (S.map NdS.d) s c = (5, S.map NdS.d) by unfold setD; rw [hok, hM]; rfl]
      refine gz ?_
      refine t_q (q_call rfl rfl fun l2 _ => rmay_any c l2) rfl rfl rfl ?_
      rw [may_eq c hg, hM]
      refine gz ?_
      exact k_ret [] rfl (.drop (.drop .refl)) (by exact zRes) ⟨rfl, _, hr0, rfl⟩
    | true =>
      rw [show setD (S.map NdS.d) s c = (0, putD (S.map NdS.d) s c) by unfold setD; rw [hok, hM]; rfl]
      refine gz ?_
      refine t_q (q_call rfl rfl fun l2 _ => rmay_any c l2) rfl rfl rfl ?_
      rw [may_eq c hg, hM]
      obtain ⟨nd, k, x, hf, hk, hx, hat⟩ := ok_split hok
      obtain ⟨A, B, hL, hi, ht, hA, hAt⟩ := idx_of hf
      have hlA : A.length < S.length := (List.getElem?_eq_some_iff.1 hAt).1
      have hkl : k < nd.C.length := (List.getElem?_eq_some_iff.1 hx).1
      obtain ⟨g1, g2⟩ := ccs_at hx
      obtain ⟨s1, s2⟩ := s
      simp only at hk hf hi ht
      subst hk
      subst ht
      have hRS : RowSl cs v 2 encN S := OwnSl.rowSl (enc := encN) hS.own (fun _ => rfl) fun c hc => hc
      obtain ⟨p, cap, rfl, hR⟩ := hRS
      obtain ⟨bB, off, xs, ty, fz, rfl, hmr, hcx⟩ := hR (by omega)
      obtain ⟨j1, j2⟩ := hcx _ nd hAt
      obtain ⟨k0, k1⟩ := ncs_at j2 j1
      obtain ⟨T, hT⟩ : ∃ T, T = capC b5 c :: slC b4 (nd.id, ((k : Nat) : Int)) :: rxC b (.slice (some ⟨bB, off, none⟩) S.length cap) :: cs := ⟨_, rfl⟩
      have q1 : capC b5 c ∈ T := by rw [hT]; exact .head _
      have q2 : slC b4 (nd.id, ((k : Nat) : Int)) ∈ T := by rw [hT]; exact .tail _ (.head _)
      have q3 : rxC b (.slice (some ⟨bB, off, none⟩) S.length cap) ∈ T := by rw [hT]; exact .tail _ (.tail _ (.head _))
      have q4 : (bB, Obj.cells xs ty fz) ∈ T := by rw [hT]; exact .tail _ (.tail _ (.tail _ hmr))
      have hSm : S.map NdS.blk = A.map NdS.blk ++ nd.blk :: B.map NdS.blk := by rw [hL, List.map_append, List.map_cons]
      have hlr : ∀ x, x ∈ lr → x ∈ T ++ (A.map NdS.blk ++ nd.blk :: (B.map NdS.blk ++ G)) := fun x hx => by
        rw [hS.eq, hSm] at hx
        rw [hT]
        rcases List.mem_cons.1 hx with rfl | hx
        · exact .tail _ (.tail _ (.head _))
        · refine .tail _ (.tail _ (.tail _ ?_))
          rcases List.mem_append.1 hx with hx | hx
          · exact List.mem_append_left _ hx
          · refine List.mem_append_right _ ?_
            rcases List.mem_append.1 hx with hx | hx
            · exact List.mem_append_left _ hx
            · refine List.mem_append_right _ ?_
              rcases List.mem_cons.1 hx with rfl | hx
              · exact .head _
              · exact .tail _ (List.mem_append_left _ hx)
      refine gz ?_
      refine c_keep (Keep.of_perm (l' := T ++ (A.map NdS.blk ++ nd.blk :: (B.map NdS.blk ++ G))) (.of_eq (by rw [hT, hS.eq, hSm]; simp))) ?_
      refine c_draw [(0, true), (1, true), (2, true), (3, true), (4, true), (5, true), (6, true), (7, true), (8, true), (9, true), (10, true), (11, true), (12, true), (13, true), (14, true), (15, false)] [[], [0], [0, 1], [0, 1, 2], [], [], [5], [4, 5, 6], [0, 1, 2, 3, 4, 5, 6, 7], [0, 1, 2, 3, 4, 5, 6, 7, 8], [0, 1, 2, 3, 4, 5, 6, 7, 8, 9], [], [11], [], [0, 1, 2, 3, 4, 5, 6, 7, 8, 9, 10, 11, 12, 13], [0, 1, 2, 3, 4, 5, 6, 7, 8, 9, 10, 11, 12, 13, 14]] (T) (by kernel_rfl) (by kernel_rfl) zAtt (fun x hx => List.mem_append_left _ hx) ?_
      refine pz ?_
      apply pl_s (S := lr)
      · exact q_call rfl rfl fun l2 hl => rat_any b S _ cs lr hS hn2 nd.id l2 hl
      · exact hlr
      · rfl
      · rfl
      · rfl
      rw [hi]
      refine pz ?_
      apply pl_nS
      · exact e_storeA (b := nd.gb) (off := k * 8) (cs := List.toArray (ccs nd.C)) (n := 8) rfl rfl rfl (by simp [Value.oneCell']) (upd_pre (upd_mid _ _ _ _ _) T) g2
      · rfl
      · rfl
      · rintro _ _ ⟨rfl, rfl⟩ x hx; exact List.mem_append_left _ hx
      · exact fun _ _ _ x hx ha => anc_all (by kernel_rfl) hx ha
      rintro _ _ ⟨rfl, rfl⟩
      rw [show setFrom (List.toArray (ccs nd.C)) (k * 8) (List.toArray (encC c)).toList = List.toArray (ccs (nd.C.set k c)) from set_ccs hx]
      refine pz ?_
      refine gz ?_
      obtain ⟨nd', hnd'⟩ : ∃ nd' : NdS, nd' = { nd with C := nd.C.set k c } := ⟨_, rfl⟩
      have hS' : (A ++ nd' :: B).map NdS.blk = A.map NdS.blk ++ nd'.blk :: B.map NdS.blk := by rw [List.map_append, List.map_cons]
      have hncs : ncs (A ++ nd' :: B) = ncs S := by
        rw [hL]
        show (A ++ nd' :: B).flatMap encN = (A ++ nd :: B).flatMap encN
        rw [List.flatMap_append, List.flatMap_append, List.flatMap_cons, List.flatMap_cons]
        rw [show encN nd' = encN nd by rw [hnd']; simp [encN, NdS.val]]
      have hlen : (A ++ nd' :: B).length = S.length := by rw [hL]; simp
      refine k_ret [] rfl (l' := (rxC b (.slice (some ⟨bB, off, none⟩) S.length cap) :: (cs ++ (A ++ nd' :: B).map NdS.blk)) ++ G) ?_ (by exact zRes) ⟨rfl, _, ⟨A ++ nd' :: B, _, cs, ?_, rfl, ?_, ?_, ?_⟩, rfl⟩
      · rw [hT, hS', hnd']
        simp only [List.cons_append, List.append_assoc]
        exact .drop (.drop .refl)
      · rw [hL, put_d (by rw [← hL]; exact hS.asc), hnd']
      · rw [hncs, hlen]; exact hS.own
      · exact asc_repl (by rw [← hL]; exact hS.asc) (by rw [hnd'])
      · intro y hy
        have h1 := hS.sz
        rw [hL] at h1
        rcases List.mem_append.1 hy with hy | hy
        · exact h1 y (List.mem_append_left _ hy)
        · rcases List.mem_cons.1 hy with rfl | hy
          · have := h1 nd (List.mem_append_right _ List.mem_cons_self)
            rw [hnd']; simpa using this
          · exact h1 y (List.mem_append_right _ (.tail _ hy))
theorem radd_any (b : Nat) (D : SD) (lr : List Chunk) (hr : IsR b D lr) (hn : D.length ≤ 900000) (id n : Int) (G : List Chunk) :
    Fn Tryz.prog 100 [.pointer (some ⟨b, 0, none⟩), .int .i64 id, .int .i64 n] (lr ++ G) fun v l' => v = .int .i64 (addN D id n).1 ∧ ∃ lr', IsR b (addN D id n).2 lr' ∧ l' = lr' ++ G := by
  have hr0 := hr
  obtain ⟨S, v, cs, rfl, hS⟩ := hr
  have hn2 : S.length ≤ 900000 := by simpa using hn
  refine fn_of_body Tryz.func100 rfl rfl fun E => ?_
  simp only [argF, Tryz.ntmps100]
  by_cases h1 : id < 1
  · rw [show addN (S.map NdS.d) id n = (2, S.map NdS.d) by unfold addN; rw [if_pos (.inl h1)]]
    refine gz ?_
    exact k_ret [] rfl .refl (by exact zRes) ⟨rfl, _, hr0, rfl⟩
  by_cases h2 : n < 1
  · rw [show addN (S.map NdS.d) id n = (2, S.map NdS.d) by unfold addN; rw [if_pos (.inr (.inl h2))]]
    refine gz ?_
    exact k_ret [] rfl .refl (by exact zRes) ⟨rfl, _, hr0, rfl⟩
  by_cases h3 : 16 < n
  · rw [show addN (S.map NdS.d) id n = (2, S.map NdS.d) by unfold addN; rw [if_pos (.inr (.inr h3))]]
    refine gz ?_
    exact k_ret [] rfl .refl (by exact zRes) ⟨rfl, _, hr0, rfl⟩
  have h123 : ¬ (id < 1 ∨ n < 1 ∨ 16 < n) := by omega
  obtain ⟨k, rfl⟩ : ∃ k : Nat, n = (k : Nat) := ⟨n.toNat, by omega⟩
  refine gz ?_
  refine t_q (q_call rfl rfl fun l2 hl => rat_any b S _ cs lr hS hn2 id l2 fun c hc => hl c (List.mem_append_left _ hc)) rfl rfl rfl ?_
  cases hf : findK NdS.id S id with
  | some nd =>
    obtain ⟨A, B, hL, hi, ht, hA, hAt⟩ := idx_of hf
    rw [hi, show addN (S.map NdS.d) id (k : Nat) = (11, S.map NdS.d) by unfold addN; rw [if_neg h123, find_d, hf]; rfl]
    refine gz ?_
    exact k_ret [] rfl .refl (by exact zRes) ⟨rfl, _, hr0, rfl⟩
  | none =>
    rw [idx_neg hf, show addN (S.map NdS.d) id (k : Nat) = (0, insK Prod.fst (S.map NdS.d) (id, List.replicate k capZ)) by unfold addN; rw [if_neg h123, find_d, hf]; rfl]
    obtain ⟨W, Z, eW, eZ, hL, hWa, hZa⟩ := ins_split hS.asc (findK_none.1 hf)
    obtain ⟨ndN, hndN⟩ : ∃ ndN : Nat → NdS, ndN = fun gb => ⟨id, List.replicate k capZ, gb⟩ := ⟨_, rfl⟩
    have hencN : ∀ gb, encN (ndN gb) = [.int .i64 id, .slice (some ⟨gb, 0, none⟩) k k] := fun gb => by rw [hndN]; simp [encN, NdS.val]
    have hblk : ∀ gb, (gb, Obj.cells (List.toArray (ccs (List.replicate k capZ))) 112 (0, 0)) = (ndN gb).blk := fun gb => by rw [hndN]
    obtain ⟨R, hR⟩ : ∃ R : Nat → List NdS, R = fun gb => W ++ ndN gb :: Z := ⟨_, rfl⟩
    have hins : ∀ gb, insK NdS.id S (ndN gb) = R gb := fun gb => by
      rw [hR]; unfold insK
      rw [show (ndN gb).id = id by rw [hndN], eW, eZ]
    have hlR : ∀ gb, (R gb).length = S.length + 1 := fun gb => by rw [hR, hL]; simp; omega
    have hlL : S.length = W.length + Z.length := by rw [hL]; simp
    obtain ⟨p, cap, rfl, hm, hRS⟩ := hS.view (l := lr ++ G) fun c hc => List.mem_append_left _ hc
    obtain ⟨cnt, hcnt⟩ : ∃ cnt : Nat → Nat, cnt = fun i => if i ≤ W.length then i else i + 1 := ⟨_, rfl⟩
    obtain ⟨F, hF⟩ : ∃ F, F = lr ++ G := ⟨_, rfl⟩
    have hfin : ∀ (gb : Nat) (w : Value) (cw : List Chunk), OwnSl 247 2 w (R gb).length (ncs (R gb)) cw → ∃ lr', IsR b (insK Prod.fst (S.map NdS.d) (id, List.replicate k capZ)) lr' ∧ (rxC b w :: (cw ++ (R gb).map NdS.blk)) ++ G = lr' ++ G := fun gb w cw hw => by
      refine ⟨_, ⟨R gb, w, cw, ?_, rfl, hw, ?_, ?_⟩, rfl⟩
      · rw [← hins gb, ins_map (key' := Prod.fst) (fun x => rfl), hndN]
      · rw [← hins gb]; exact ins_asc hS.asc (by rw [hndN]; exact hf)
      · intro x hx
        rw [← hins gb] at hx
        rcases mem_ins.1 hx with rfl | hx
        · rw [hndN]; simp; omega
        · exact hS.sz x hx
    rw [← hF] at hm hRS ⊢
    refine gz ?_
    refine k_loop (α := Nat × Value × List Chunk × Nat) (fun x => [(0, .pointer (some ⟨b, 0, none⟩)), (1, .int .i64 id), (2, .int .i64 (k : Nat)), (7, x.2.1), (8, .bool (decide (W.length < x.1))), (9, .int .i64 x.1)]) (fun x => x.2.2.1 ++ ((if W.length < x.1 then [(ndN x.2.2.2).blk] else []) ++ F)) (fun x => x.1 ≤ S.length ∧ OwnSl 247 2 x.2.1 ((R x.2.2.2).take (cnt x.1)).length (ncs ((R x.2.2.2).take (cnt x.1))) x.2.2.1) (fun x => S.length - x.1) (0, .slice none 0 0, [], 0) ⟨Nat.zero_le _, by rw [hcnt]; exact OwnSl.nil _ _⟩ ⟨rfl, rfl, rfl, rfl, by rw [decide_eq_false (show ¬ W.length < 0 by omega)]; rfl, rfl, trivial⟩ .refl ?_
    rintro ⟨i, w, cv, gb⟩ ⟨hi, hw⟩
    dsimp only at hi hw ⊢
    by_cases hlt : i < S.length
    · obtain ⟨bB, off, xs, ty, fz, rfl, hmr, hc⟩ := hRS (by omega)
      obtain ⟨x, hx⟩ : ∃ x, S[i]? = some x := ⟨_, List.getElem?_eq_getElem hlt⟩
      obtain ⟨g0, _, g1, g2⟩ := hc i x hx
      rcases Nat.lt_trichotomy i W.length with k1 | k1 | k1
      · have hxa : x.id < id := hWa x (List.mem_of_getElem? (i := i) (by rw [hL, List.getElem?_append_left k1] at hx; exact hx))
        have hc1 : cnt (i + 1) = cnt i + 1 := by rw [hcnt]; simp only; rw [if_pos (by omega), if_pos (by omega)]
        have hRi : (R gb)[cnt i]? = some x := by
          rw [hcnt, hR]; simp only; rw [if_pos (by omega), List.getElem?_append_left k1]
          rw [hL, List.getElem?_append_left k1] at hx; exact hx
        rw [decide_eq_false (show ¬ W.length < i by omega), if_neg (show ¬ W.length < i by omega), List.nil_append]
        have hm3 : rxC b (.slice (some ⟨bB, off, none⟩) S.length cap) ∈ cv ++ F := List.mem_append_right _ hm
        have hmr5 : (bB, Obj.cells xs ty fz) ∈ cv ++ F := List.mem_append_right _ hmr
        refine gz ?_
        refine t_q (q_loadA rfl hmr5 g1 g2) rfl rfl rfl ?_
        refine gz ?_
        refine t_e (e_litA (k := 2) (e := 247) (ws := encN x) rfl rfl rfl (by decide) (by decide)) rfl rfl rfl ?_
        rintro _ _ ⟨bl, _, rfl, rfl⟩
        refine t_e (e_appX (k := 2) (X := []) (cs := cv) (F := F) (xs := ncs ((R gb).take (cnt i))) (n := ((R gb).take (cnt i)).length) (ws := encN x) rfl rfl rfl hw rfl (encN_ones x) (by rw [List.length_take, hlR]; omega) (by decide)) rfl rfl rfl ?_
        rintro w2 _ ⟨cv2, hw2, rfl⟩
        have hw9 : w2.oneCell' = true := hw2.one
        refine gz ?_
        refine k_next (i + 1, w2, cv2, gb) ⟨by simp only; omega, ?_⟩ (by simp only; omega) ⟨rfl, rfl, rfl, rfl, by rw [decide_eq_false (show ¬ W.length < i + 1 by omega)]; rfl, rfl, trivial⟩ (by simp only; rw [if_neg (show ¬ W.length < i + 1 by omega)]; exact .refl)
        simp only
        rw [hc1, List.take_add_one, hRi, Option.toList_some, ncs_snoc, List.length_append]; exact hw2
      · have hxa : id < x.id := hZa x (List.mem_of_getElem? (i := 0) (by rw [hL, List.getElem?_append_right (by omega), show i - W.length = 0 by omega] at hx; exact hx))
        have hc1 : cnt (i + 1) = cnt i + 1 + 1 := by rw [hcnt]; simp only; rw [if_neg (by omega), if_pos (by omega)]
        have hci : cnt i = W.length := by rw [hcnt]; simp only; rw [if_pos (by omega)]; exact k1
        have hRi : ∀ gb, (R gb)[cnt i]? = some (ndN gb) := fun gb => by
          rw [hci, hR]; simp only; rw [List.getElem?_append_right (by omega), Nat.sub_self]; rfl
        have hRj : ∀ gb, (R gb)[cnt i + 1]? = some x := fun gb => by
          rw [hci, hR]; simp only; rw [List.getElem?_append_right (by omega), show W.length + 1 - W.length = 0 + 1 by omega, List.getElem?_cons_succ]
          rw [hL, List.getElem?_append_right (by omega), show i - W.length = 0 by omega] at hx; exact hx
        have htk : ∀ gb', (R gb').take (cnt i) = (R gb).take (cnt i) := fun gb' => by
          rw [hci, hR]; simp only; rw [List.take_left' rfl, List.take_left' rfl]
        rw [decide_eq_false (show ¬ W.length < i by omega), if_neg (show ¬ W.length < i by omega), List.nil_append]
        have hm3 : rxC b (.slice (some ⟨bB, off, none⟩) S.length cap) ∈ cv ++ F := List.mem_append_right _ hm
        have hmr5 : (bB, Obj.cells xs ty fz) ∈ cv ++ F := List.mem_append_right _ hmr
        refine gz ?_
        refine t_e (e_makeSlice (n := k) (kk := 8) (xs := ccs (List.replicate k capZ)) rfl rfl (by omega) (by omega) (by decide) (ccs_zero k)) rfl rfl rfl ?_
        rintro _ _ ⟨gn, hgn, rfl, rfl⟩
        rw [hblk gn]
        refine gz ?_
        refine t_e (e_litA (k := 2) (e := 247) (ws := [.int .i64 id, .slice (some ⟨gn, 0, none⟩) k k]) rfl rfl rfl (by decide) (by decide)) rfl rfl rfl ?_
        rintro _ _ ⟨bl, _, rfl, rfl⟩
        refine t_e (e_appX (k := 2) (X := [(ndN gn).blk]) (cs := cv) (F := F) (xs := ncs ((R gb).take (cnt i))) (n := ((R gb).take (cnt i)).length) (ws := [.int .i64 id, .slice (some ⟨gn, 0, none⟩) k k]) rfl rfl rfl hw rfl (by simp [Value.oneCell']) (by rw [List.length_take, hlR]; omega) (by decide)) rfl rfl rfl ?_
        rintro w1 _ ⟨cv1, hw1, rfl⟩
        have hw8 : w1.oneCell' = true := hw1.one
        simp only [List.cons_append, List.nil_append]
        have hm6 : rxC b (.slice (some ⟨bB, off, none⟩) S.length cap) ∈ cv1 ++ F := List.mem_append_right _ hm
        have hmr6 : (bB, Obj.cells xs ty fz) ∈ cv1 ++ F := List.mem_append_right _ hmr
        refine gz ?_
        refine t_q (q_loadA rfl (.tail _ hmr6) g1 g2) rfl rfl rfl ?_
        refine gz ?_
        refine t_e (e_litA (k := 2) (e := 247) (ws := encN x) rfl rfl rfl (by decide) (by decide)) rfl rfl rfl ?_
        rintro _ _ ⟨bl2, _, rfl, rfl⟩
        refine t_e (e_appX (k := 2) (X := [(ndN gn).blk]) (cs := cv1) (F := F) (xs := ncs ((R gb).take (cnt i)) ++ [.int .i64 id, .slice (some ⟨gn, 0, none⟩) k k]) (n := ((R gb).take (cnt i)).length + 1) (ws := encN x) rfl rfl rfl hw1 rfl (encN_ones x) (by rw [List.length_take, hlR]; omega) (by decide)) rfl rfl rfl ?_
        rintro w2 _ ⟨cv2, hw2, rfl⟩
        have hw9 : w2.oneCell' = true := hw2.one
        refine gz ?_
        refine k_next (i + 1, w2, cv2, gn) ⟨by simp only; omega, ?_⟩ (by simp only; omega) ⟨rfl, rfl, rfl, rfl, by rw [decide_eq_true (show W.length < i + 1 by omega)]; rfl, rfl, trivial⟩ (by simp only; rw [if_pos (show W.length < i + 1 by omega)]; exact .of_perm (List.perm_append_comm_assoc _ _ _))
        simp only
        rw [hc1, List.take_add_one, hRj, List.take_add_one, hRi, Option.toList_some, Option.toList_some, ncs_snoc, ncs_snoc, List.length_append, List.length_append, htk gn, hencN]; exact hw2
      · have hc1 : cnt (i + 1) = cnt i + 1 := by rw [hcnt]; simp only; rw [if_neg (by omega), if_neg (by omega)]
        have hRi : (R gb)[cnt i]? = some x := by
          rw [hcnt, hR]; simp only; rw [if_neg (by omega), List.getElem?_append_right (by omega), show i + 1 - W.length = (i - W.length) + 1 by omega, List.getElem?_cons_succ]
          rw [hL, List.getElem?_append_right (by omega)] at hx; exact hx
        rw [decide_eq_true (show W.length < i by omega), if_pos (show W.length < i by omega)]
        have hm3 : rxC b (.slice (some ⟨bB, off, none⟩) S.length cap) ∈ cv ++ ([(ndN gb).blk] ++ F) := List.mem_append_right _ (.tail _ hm)
        have hmr5 : (bB, Obj.cells xs ty fz) ∈ cv ++ ([(ndN gb).blk] ++ F) := List.mem_append_right _ (.tail _ hmr)
        refine gz ?_
        refine t_q (q_loadA rfl hmr5 g1 g2) rfl rfl rfl ?_
        refine gz ?_
        refine t_e (e_litA (k := 2) (e := 247) (ws := encN x) rfl rfl rfl (by decide) (by decide)) rfl rfl rfl ?_
        rintro _ _ ⟨bl, _, rfl, rfl⟩
        refine t_e (e_appX (k := 2) (X := []) (cs := cv) (F := [(ndN gb).blk] ++ F) (xs := ncs ((R gb).take (cnt i))) (n := ((R gb).take (cnt i)).length) (ws := encN x) rfl rfl rfl hw rfl (encN_ones x) (by rw [List.length_take, hlR]; omega) (by decide)) rfl rfl rfl ?_
        rintro w2 _ ⟨cv2, hw2, rfl⟩
        have hw9 : w2.oneCell' = true := hw2.one
        refine gz ?_
        refine k_next (i + 1, w2, cv2, gb) ⟨by simp only; omega, ?_⟩ (by simp only; omega) ⟨rfl, rfl, rfl, rfl, by rw [decide_eq_true (show W.length < i + 1 by omega)]; rfl, rfl, trivial⟩ (by simp only; rw [if_pos (show W.length < i + 1 by omega)]; exact .refl)
        simp only
        rw [hc1, List.take_add_one, hRi, Option.toList_some, ncs_snoc, List.length_append]; exact hw2
    · obtain rfl : i = S.length := by omega
      have hlr : lr = rxC b (.slice p S.length cap) :: (cs ++ S.map NdS.blk) := hS.eq
      have hpS : ∀ gb, (R gb).map NdS.blk = W.map NdS.blk ++ (ndN gb).blk :: Z.map NdS.blk := fun gb => by rw [hR, List.map_append, List.map_cons]
      have hSm : S.map NdS.blk = W.map NdS.blk ++ Z.map NdS.blk := by rw [hL, List.map_append]
      by_cases hZ0 : W.length < S.length
      · have hcl : cnt S.length = (R gb).length := by rw [hcnt, hlR]; simp only; rw [if_neg (by omega)]
        rw [hcl, List.take_length] at hw
        have hw1 : w.oneCell' = true := hw.one
        rw [decide_eq_true hZ0, if_pos hZ0]
        have hm7 : rxC b (.slice p S.length cap) ∈ cv ++ ([(ndN gb).blk] ++ F) := List.mem_append_right _ (.tail _ hm)
        refine gz ?_
        rw [hF, hlr, hSm]
        simp only [List.cons_append, List.nil_append]
        refine t_n (e_store (b := b) (off := 0) (l' := cv ++ ((ndN gb).blk :: (rxC b w :: (cs ++ (W.map NdS.blk ++ Z.map NdS.blk) ++ G)))) rfl rfl hw1 (upd_pre (.there .here) cv) (by simp)) rfl rfl ?_
        rintro _ _ ⟨rfl, rfl⟩
        refine gz ?_
        refine k_ret [] rfl (l' := (rxC b w :: (cv ++ (R gb).map NdS.blk)) ++ G) ?_ (by exact zRes) ⟨rfl, hfin gb w cv hw⟩
        rw [hpS]; exact keep_add16 _ _ cv cs _ _ G
      · have hcl : cnt S.length = S.length := by rw [hcnt]; simp only; rw [if_pos (by omega)]
        have hRe : ∀ gb', R gb' = (R gb).take S.length ++ [ndN gb'] := fun gb' => by
          have hZn : Z = [] := List.eq_nil_of_length_eq_zero (by omega)
          rw [hR]; simp only; rw [hZn, show S.length = W.length by omega, List.take_left' rfl]
        rw [hcl] at hw
        have hw0 : w.oneCell' = true := hw.one
        rw [decide_eq_false hZ0, if_neg hZ0, List.nil_append]
        have hm7 : rxC b (.slice p S.length cap) ∈ cv ++ F := List.mem_append_right _ hm
        refine gz ?_
        refine t_e (e_makeSlice (n := k) (kk := 8) (xs := ccs (List.replicate k capZ)) rfl rfl (by omega) (by omega) (by decide) (ccs_zero k)) rfl rfl rfl ?_
        rintro _ _ ⟨gn, hgn, rfl, rfl⟩
        rw [hblk gn]
        refine gz ?_
        refine t_e (e_litA (k := 2) (e := 247) (ws := [.int .i64 id, .slice (some ⟨gn, 0, none⟩) k k]) rfl rfl rfl (by decide) (by decide)) rfl rfl rfl ?_
        rintro _ _ ⟨bl, _, rfl, rfl⟩
        refine t_e (e_appX (k := 2) (X := [(ndN gn).blk]) (cs := cv) (F := F) (xs := ncs ((R gb).take S.length)) (n := ((R gb).take S.length).length) (ws := [.int .i64 id, .slice (some ⟨gn, 0, none⟩) k k]) rfl rfl rfl hw rfl (by simp [Value.oneCell']) (by rw [List.length_take, hlR]; omega) (by decide)) rfl rfl rfl ?_
        rintro w1 _ ⟨cv1, hw1, rfl⟩
        have hw8 : w1.oneCell' = true := hw1.one
        simp only [List.cons_append, List.nil_append]
        refine gz ?_
        rw [hF, hlr, hSm]
        simp only [List.cons_append]
        refine t_n (e_store (b := b) (off := 0) (l' := (ndN gn).blk :: (cv1 ++ (rxC b w1 :: (cs ++ (W.map NdS.blk ++ Z.map NdS.blk) ++ G)))) rfl rfl hw8 (.there (upd_pre .here cv1)) (by simp)) rfl rfl ?_
        rintro _ _ ⟨rfl, rfl⟩
        refine gz ?_
        refine k_ret [] rfl (l' := (rxC b w1 :: (cv1 ++ (R gn).map NdS.blk)) ++ G) ?_ (by exact zRes) ⟨rfl, hfin gn w1 cv1 ?_⟩
        · rw [hpS]; exact Keep.trans (.of_perm List.perm_middle.symm) (keep_add16 _ _ cv1 cs _ _ G)
        · rw [hRe gn, List.length_append, ncs_snoc, hencN]; exact hw1
theorem rused_any (b : Nat) (D : SD) (lr : List Chunk) (hr : IsR b D lr) (hn : D.length ≤ 50000) (hV : ValD D) (l : List Chunk) (hsub : ∀ c, c ∈ lr → c ∈ l) :
    Fn Tryz.prog 54 [.pointer (some ⟨b, 0, none⟩)] l fun v l' => ∃ cs, OwnSl 220 10 v (usedD D).length (hcs (usedD D)) cs ∧ l' = cs ++ l := by
  obtain ⟨S, v0, cs0, rfl, hS⟩ := hr
  have hn2 : S.length ≤ 50000 := by simpa using hn
  have hU := usedD_len (D := S.map NdS.d) fun x hx => by
    obtain ⟨nd, hnd, rfl⟩ := List.mem_map.1 hx
    exact (hS.sz nd hnd).2
  obtain ⟨p, cap, rfl, hm, hR⟩ := hS.view hsub
  refine fn_of_body Tryz.func54 rfl rfl fun E => ?_
  simp only [argF, Tryz.ntmps54]
  refine gz ?_
  refine k_loop (α := Nat × Value × List Chunk) (fun x => [(0, .pointer (some ⟨b, 0, none⟩)), (3, x.2.1), (4, .int .i64 x.1)]) (fun x => x.2.2 ++ l) (fun x => x.1 ≤ S.length ∧ OwnSl 220 10 x.2.1 (usedD ((S.map NdS.d).take x.1)).length (hcs (usedD ((S.map NdS.d).take x.1))) x.2.2) (fun x => S.length - x.1) (0, .slice none 0 0, []) ⟨Nat.zero_le _, OwnSl.nil _ _⟩ ⟨rfl, rfl, rfl, trivial⟩ .refl ?_
  rintro ⟨i, w, cv⟩ ⟨hi, hw⟩
  simp only at hi hw ⊢
  have hm3 : rxC b (.slice p S.length cap) ∈ cv ++ l := List.mem_append_right _ hm
  by_cases hlt : i < S.length
  · obtain ⟨bB, off, xs, ty, fz, rfl, hmr, hc⟩ := hR (by omega)
    obtain ⟨nd, hx⟩ : ∃ nd, S[i]? = some nd := ⟨_, List.getElem?_eq_getElem hlt⟩
    have hmem := List.mem_of_getElem? hx
    obtain ⟨g0, g1, g2, g3⟩ := hc i nd hx
    have hsz := hS.sz nd hmem
    have hdi : (S.map NdS.d)[i]? = some nd.d := by rw [List.getElem?_map, hx]; rfl
    refine gz ?_
    refine k_loop (α := Nat × Value × List Chunk) (fun x => [(0, .pointer (some ⟨b, 0, none⟩)), (3, x.2.1), (4, .int .i64 i), (5, .int .i64 x.1)]) (fun x => x.2.2 ++ l) (fun x => x.1 ≤ nd.C.length ∧ OwnSl 220 10 x.2.1 (usedD ((S.map NdS.d).take i) ++ usedTo nd.id nd.C x.1).length (hcs (usedD ((S.map NdS.d).take i) ++ usedTo nd.id nd.C x.1)) x.2.2) (fun x => nd.C.length - x.1) (0, w, cv) ⟨Nat.zero_le _, by show OwnSl _ _ _ (_ ++ []).length (hcs (_ ++ [])) _; rw [List.append_nil]; exact hw⟩ ⟨rfl, rfl, rfl, rfl, trivial⟩ .refl ?_
    clear hw hm3
    rintro ⟨k, w, cv⟩ ⟨hk, hw⟩
    simp only at hk hw ⊢
    have hm3 : rxC b (.slice (some ⟨bB, off, none⟩) S.length cap) ∈ cv ++ l := List.mem_append_right _ hm
    have hmr5 : (bB, Obj.cells xs ty fz) ∈ cv ++ l := List.mem_append_right _ hmr
    have hml : nd.blk ∈ l := hsub _ (hS.m3 hmem)
    have hmb : nd.blk ∈ cv ++ l := List.mem_append_right _ hml
    by_cases hkl : k < nd.C.length
    · obtain ⟨c, hcc⟩ : ∃ c, nd.C[k]? = some c := ⟨_, List.getElem?_eq_getElem hkl⟩
      obtain ⟨q1, q2⟩ := ccs_at hcc
      have q3 : (List.toArray (ccs nd.C))[k * 8]? = some (.int .i64 c.kind) := ext_at (j := 0) (k := 8) q1 q2 (by omega) rfl
      by_cases hk0 : c.kind = 0
      · have he : eqC c capZ = true := by rw [hV _ (List.mem_map.2 ⟨nd, hmem, rfl⟩) c (List.mem_of_getElem? hcc) hk0]; decide
        refine gz ?_
        exact k_next (k + 1, w, cv) ⟨by simp only; omega, by simp only; rw [usedTo_f hcc he]; exact hw⟩ (by simp only; omega) ⟨rfl, rfl, rfl, rfl, trivial⟩ .refl
      · have he := eqC_zero hk0
        have hpre : (usedD ((S.map NdS.d).take i) ++ usedTo nd.id nd.C k) ++ [((nd.id, ((k : Nat) : Int)), c)] <+: usedD (S.map NdS.d) := by
          rw [List.append_assoc, ← usedTo_t hcc he]
          exact usedD_pre hdi (by show k + 1 ≤ nd.C.length; omega)
        have hll := hpre.length_le
        rw [List.length_append, List.length_singleton] at hll
        refine gz ?_
        refine c_draw [(0, true), (1, true), (2, true), (3, true), (4, true), (5, true), (6, true), (7, true), (8, true), (9, true), (10, true), (11, true), (12, true), (13, true), (14, true), (15, true), (16, true), (17, true), (18, true), (19, true), (20, true), (21, true), (22, true), (23, false), (24, false), (25, true)] [[], [], [1], [1, 2], [1, 2, 3], [], [1, 2, 3, 4, 5], [1, 2, 3, 4, 5, 6], [1, 2, 3, 4, 5, 6, 7], [], [1, 2, 3, 4, 5, 6, 7, 8, 9], [], [11], [11, 12], [11, 12, 13], [], [11, 12, 13, 14, 15], [11, 12, 13, 14, 15, 16], [11, 12, 13, 14, 15, 16, 17], [], [11, 12, 13, 14, 15, 16, 17, 18, 19], [11, 12, 13, 14, 15, 16, 17, 18, 19, 20], [1, 2, 3, 4, 5, 6, 7, 8, 9, 10, 11, 12, 13, 14, 15, 16, 17, 18, 19, 20, 21], [1, 2, 3, 4, 5, 6, 7, 8, 9, 10, 11, 12, 13, 14, 15, 16, 17, 18, 19, 20, 21, 22], [0, 1, 2, 3, 4, 5, 6, 7, 8, 9, 10, 11, 12, 13, 14, 15, 16, 17, 18, 19, 20, 21, 22, 23], [0, 1, 2, 3, 4, 5, 6, 7, 8, 9, 10, 11, 12, 13, 14, 15, 16, 17, 18, 19, 20, 21, 22, 23, 24]] (l) (by kernel_rfl) (by kernel_rfl) zAtt (fun c hc => List.mem_append_right _ hc) ?_
        refine pz ?_
        refine pl_h (q_loadA (n := 8) rfl hml q2 q1) rfl rfl rfl ?_
        refine pz ?_
        apply pl_e
        · exact e_litA (k := 10) (e := 220) (ws := encE ((nd.id, ((k : Nat) : Int)), c)) rfl rfl rfl (by decide) (by decide)
        · rfl
        · rfl
        · rfl
        · rintro _ _ ⟨_, _, _, rfl⟩ x hx; exact .tail _ (List.mem_append_right _ hx)
        rintro _ _ ⟨bl, _, rfl, rfl⟩
        refine pz ?_
        apply pl_e
        · exact e_appX (k := 10) (X := []) (cs := cv) (F := l) (xs := hcs (usedD ((S.map NdS.d).take i) ++ usedTo nd.id nd.C k)) (n := (usedD ((S.map NdS.d).take i) ++ usedTo nd.id nd.C k).length) (ws := encE ((nd.id, ((k : Nat) : Int)), c)) rfl rfl rfl hw rfl (encE_ones _) (by omega) (by decide)
        · rfl
        · rfl
        · rfl
        · rintro _ _ ⟨_, _, rfl⟩ x hx; exact List.mem_append_right _ (List.mem_append_right _ hx)
        rintro w2 _ ⟨cv2, hw2, rfl⟩
        have hw9 : w2.oneCell' = true := hw2.one
        refine pz ?_
        refine gz ?_
        refine k_next (k + 1, w2, cv2) ⟨by simp only; omega, ?_⟩ (by simp only; omega) ⟨rfl, rfl, rfl, rfl, trivial⟩ .refl
        simp only
        rw [usedTo_t hcc he, ← List.append_assoc, hcs_snoc, List.length_append, List.length_singleton]; exact hw2
    · obtain rfl : k = nd.C.length := by omega
      refine gz ?_
      refine k_next (i + 1, w, cv) ⟨by simp only; omega, ?_⟩ (by simp only; omega) ⟨rfl, rfl, rfl, trivial⟩ .refl
      simp only
      rw [List.take_add_one, hdi, usedD_app]
      rw [show usedD (some nd.d).toList = usedTo nd.id nd.C nd.C.length by simp [usedD]]
      exact hw
  · obtain rfl : i = S.length := by omega
    rw [show (S.map NdS.d).take S.length = S.map NdS.d from List.take_of_length_le (by simp)] at hw
    have hw1 : w.oneCell' = true := hw.one
    refine gz ?_
    refine k_ret [] rfl (l' := cv ++ l) .refl (by exact zRes) ?_
    exact ⟨cv, hw, rfl⟩
end Go.Proofs.YtcjknmpogkofpaaGreat
namespace Go.Proofs.YtcjknmpogkofpaaGreat.Tr
open Go.RowKit
set_option maxRecDepth 20000
instance : EQ Tryz.prog 222 [some .i64, some .i64, some .i64] := ⟨by kernel_rfl⟩
set_option maxHeartbeats 400000 in
theorem sameNodes_any {α : Type} [DecidableEq α] (enc : α → List Value) (hin : ∀ x y, enc x = enc y → x = y) (hk : ∀ x, AllK [some .i64, some .i64, some .i64] (enc x)) (v u : Value) (xs ys : List α) (l : List Chunk) (h1 : RowSl l v 3 enc xs) (h2 : RowSl l u 3 enc ys) (hx : xs.length ≤ 1000000) :
    Fn Tryz.prog 45 [v, u] l fun r l' => r = .bool (decide (xs = ys)) ∧ l' = l := by
  obtain ⟨a, ca, rfl, h1⟩ := h1
  obtain ⟨a', ca', rfl, h2⟩ := h2
  refine fn_of_body Tryz.func45 rfl rfl fun E => ?_
  simp only [argF, Tryz.ntmps45]
  by_cases hl : xs.length = ys.length
  · refine gz ?_
    refine k_loop (α := Nat) (fun k => [(0, .slice a xs.length ca), (1, .slice a' ys.length ca'), (5, .int .i64 k)]) (fun k => l) (fun k => k ≤ xs.length ∧ ∀ j, j < k → xs[j]? = ys[j]?) (fun k => xs.length - k) 0 ⟨Nat.zero_le _, fun j h => by omega⟩ ⟨rfl, rfl, rfl, trivial⟩ .refl ?_
    rintro k ⟨hk2, hj⟩
    by_cases hlt : k < xs.length
    · obtain ⟨b, off, cs, t, fz, rfl, hm, hc⟩ := h1 (by omega)
      obtain ⟨b', off', cs', t', fz', rfl, hm', hc'⟩ := h2 (by omega)
      obtain ⟨x, e1⟩ : ∃ x, xs[k]? = some x := ⟨_, List.getElem?_eq_getElem hlt⟩
      obtain ⟨y, e2⟩ : ∃ y, ys[k]? = some y := ⟨_, List.getElem?_eq_getElem (show k < ys.length by omega)⟩
      obtain ⟨g1, g2⟩ := hc k x e1
      obtain ⟨g1', g2'⟩ := hc' k y e2
      refine gz ?_
      refine c_draw [(0, true), (1, true), (2, true), (3, true), (4, true), (5, true), (6, true), (7, true), (8, true)] [[], [], [0, 1], [0, 1, 2], [], [], [4, 5], [4, 5, 6], [0, 1, 2, 3, 4, 5, 6, 7]] _ (by kernel_rfl) (by kernel_rfl) zAtt (fun _ h => h) ?_
      refine pz ?_
      apply pl_q
      · exact q_loadA rfl hm g1 g2
      · rfl
      · rfl
      · rfl
      refine pz ?_
      apply pl_q
      · exact q_loadA rfl hm' g1' g2'
      · rfl
      · rfl
      · rfl
      refine pz ?_
      apply pl_q
      · exact q_neagg rfl rfl (hk x) (hk y)
      · rfl
      · rfl
      · rfl
      by_cases hxy : x = y
      · rw [show (!eqCells (enc x) (enc y)) = false by rw [hxy, eqCells_self (hk y)]; rfl]
        refine pz ?_
        refine gz ?_
        exact k_next (k + 1) ⟨by omega, fun j hjk => by
          by_cases e : j = k
          · subst e; rw [e1, e2, hxy]
          · exact hj j (by omega)⟩ (by omega) ⟨rfl, rfl, rfl, trivial⟩ .refl
      · rw [show (!eqCells (enc x) (enc y)) = true by
          cases h : eqCells (enc x) (enc y) with
          | false => rfl
          | true => exact absurd (hin _ _ ((eqCells_iff (hk x) (hk y)).1 h)) hxy]
        refine pz ?_
        refine gz ?_
        refine k_ret [] rfl .refl (by exact zRes) ⟨?_, rfl⟩
        rw [show decide (xs = ys) = false from decide_eq_false fun e => by subst e; rw [e1] at e2; exact hxy (by cases e2; rfl)]; rfl
    · obtain rfl : k = xs.length := by omega
      refine gz ?_
      refine k_ret [] rfl .refl (by exact zRes) ⟨?_, rfl⟩
      rw [show decide (xs = ys) = true from decide_eq_true (List.ext_getElem? fun j => by
        by_cases h : j < xs.length
        · exact hj j h
        · rw [List.getElem?_eq_none (by omega), List.getElem?_eq_none (by omega)])]; rfl
  · refine gz ?_
    refine k_ret [] rfl .refl (by exact zRes) ⟨?_, rfl⟩
    rw [show decide (xs = ys) = false from decide_eq_false fun e => hl (by rw [e])]; rfl
end Go.Proofs.YtcjknmpogkofpaaGreat.Tr
namespace Go.Proofs.YtcjknmpogkofpaaGreat
open Go.RowKit
set_option maxRecDepth 20000
theorem OwnSl.nodes {v : Value} {D : Tr.DT} {cs l : List Chunk} (h : OwnSl 222 3 v D.length (Tr.ncs D) cs) (hs : ∀ c, c ∈ cs → c ∈ l) : RowSl l v 3 Tr.nV D := OwnSl.rowSl (enc := Tr.nV) h (fun _ => rfl) hs
end Go.Proofs.YtcjknmpogkofpaaGreat
namespace Go.Proofs.YtcjknmpogkofpaaGreat.Tr
open Go.RowKit
set_option maxRecDepth 20000
theorem encT_inj : ∀ x y, encT x = encT y → x = y := encT_ok.inj
theorem encT_k : ∀ x, AllK [some .i64, some .i64] (encT x) := fun a => ⟨_, _, rfl, ⟨_, rfl⟩, _, _, rfl, ⟨_, rfl⟩, rfl⟩
theorem node_cells {cs : Array Value} {k : Nat} {x : SlotT × Int} (h : k + 3 ≤ cs.size) (e : cs.extract k (k + 3) = List.toArray (nV x)) : cs[k + 2]? = some (.int .i64 x.2) ∧ k + 2 ≤ cs.size ∧ cs.extract k (k + 2) = List.toArray (encT x.1) := by
  obtain ⟨h1, h2, h3⟩ := acts_cells h e
  refine ⟨h3, by omega, ?_⟩
  apply Array.ext_getElem?
  intro j
  rw [Array.getElem?_extract]
  by_cases hj : j < 2
  · rw [if_pos (by omega)]
    match j, hj with
    | 0, _ => rw [Nat.add_zero, h1]; rfl
    | 1, _ => rw [h2]; rfl
  · rw [if_neg (by omega), List.getElem?_toArray, List.getElem?_eq_none (by simp; omega)]
theorem eqT_t (x : SlotT) : eqCells (encT x) (encT x) = true := eqCells_self (encT_k x)
theorem eqT_f {x y : SlotT} (h : x ≠ y) : eqCells (encT x) (encT y) = false := by
  cases h2 : eqCells (encT x) (encT y) with
  | false => rfl
  | true => exact absurd (encT_inj _ _ ((eqCells_iff (encT_k _) (encT_k _)).1 h2)) h
theorem at_split {D : DT} {j : Nat} {x : SlotT × Int} (h : D[j]? = some x) : D = D.take j ++ x :: D.drop (j + 1) ∧ (D.take j).length = j := by
  have hl := (List.getElem?_eq_some_iff.1 h).1
  have h1 := List.take_append_drop j D
  rw [List.drop_eq_getElem_cons hl] at h1
  rw [List.getElem?_eq_getElem hl] at h
  rw [Option.some.inj h] at h1
  exact ⟨h1.symm, by simp; omega⟩
end Go.Proofs.YtcjknmpogkofpaaGreat.Tr
namespace Go.Proofs.YtcjknmpogkofpaaGreat.Tr
open Go.RowKit
set_option maxRecDepth 20000
abbrev rcC (b : Nat) (v : Value) : Chunk := (b, .cells #[v] 147 (0, 0))
def IsR (b : Nat) (D : DT) (lr : List Chunk) : Prop := ∃ v cs, lr = rcC b v :: cs ∧ OwnSl 222 3 v D.length (ncs D) cs
theorem IsR.view {b : Nat} {D : DT} {lr l : List Chunk} (h : IsR b D lr) (hs : ∀ c, c ∈ lr → c ∈ l) : ∃ p cap, rcC b (.slice p D.length cap) ∈ l ∧ RowSl l (.slice p D.length cap) 3 nV D ∧ (0 < D.length → ∃ bB off xs t fz, p = some ⟨bB, off, none⟩ ∧ (bB, Obj.cells xs t fz) ∈ l ∧ ∀ i x, D[i]? = some x → xs[off + i * 3 + 2]? = some (.int .i64 x.2) ∧ off + i * 3 + 2 ≤ xs.size ∧ xs.extract (off + i * 3) (off + i * 3 + 2) = List.toArray (encT x.1)) := by
  obtain ⟨v, cs, rfl, ho⟩ := h
  have hSN := ho.nodes (l := l) fun c hc => hs c (.tail _ hc)
  have hSN0 := hSN
  obtain ⟨p, cap, rfl, hR⟩ := hSN
  refine ⟨p, cap, hs _ (.head _), hSN0, fun h0 => ?_⟩
  obtain ⟨bB, off, xs, t, fz, h1, h2, h3⟩ := hR h0
  exact ⟨bB, off, xs, t, fz, h1, h2, fun i x hx => node_cells (h3 i x hx).1 (h3 i x hx).2⟩
def idxD (D : DT) (s : SlotT) : Int := match splitD s D with
  | none => -1
  | some (A, _, _) => (A.length : Nat)
theorem idx_hit {D : DT} {s : SlotT} {k : Nat} {x : SlotT × Int} (hx : D[k]? = some x) (hs : x.1 = s) (hn : ∀ j y, j < k → D[j]? = some y → y.1 ≠ s) : idxD D s = (k : Nat) ∧ splitD s D = some (D.take k, x.2, D.drop (k + 1)) := by
  obtain ⟨h1, h2⟩ := at_split hx
  have e : splitD s D = some (D.take k, x.2, D.drop (k + 1)) := by
    have h3 : D = D.take k ++ (s, x.2) :: D.drop (k + 1) := by rw [← hs]; exact h1
    have h4 : splitD s (D.take k ++ (s, x.2) :: D.drop (k + 1)) = some (D.take k, x.2, D.drop (k + 1)) := splitD_of fun y hy => by
      obtain ⟨j, hj⟩ := List.mem_iff_getElem?.1 hy
      rw [List.getElem?_take] at hj
      split at hj
      · exact hn j y (by assumption) hj
      · cases hj
    rw [← h3] at h4; exact h4
  refine ⟨?_, e⟩
  unfold idxD; rw [e]; simp only; rw [h2]
theorem idx_none {D : DT} {s : SlotT} (hn : ∀ y, y ∈ D → y.1 ≠ s) : idxD D s = -1 := by unfold idxD; rw [splitD_none.2 hn]
theorem idx_of {D A B : DT} {s : SlotT} {d : Int} (h : splitD s D = some (A, d, B)) : idxD D s = (A.length : Nat) ∧ D = A ++ (s, d) :: B ∧ D[A.length]? = some (s, d) := by
  refine ⟨by unfold idxD; rw [h], (splitD_some h).1, ?_⟩
  rw [(splitD_some h).1, List.getElem?_append_right (Nat.le_refl _), Nat.sub_self]; rfl
theorem idx_neg {D : DT} {s : SlotT} (h : splitD s D = none) : idxD D s = -1 := by unfold idxD; rw [h]
set_option maxHeartbeats 400000
theorem rat_any (b : Nat) (D : DT) (lr : List Chunk) (hr : IsR b D lr) (hn : D.length ≤ 1000000) (s : SlotT) (l : List Chunk) (hsub : ∀ c, c ∈ lr → c ∈ l) :
    Fn Tryz.prog 166 [.pointer (some ⟨b, 0, none⟩), .agg (List.toArray (encT s))] l fun v l' => v = .int .i64 (idxD D s) ∧ l' = l := by
  obtain ⟨p, cap, hm, _, hR⟩ := hr.view hsub
  refine fn_of_body Tryz.func166 rfl rfl fun E => ?_
  simp only [argF, Tryz.ntmps166]
  refine gz ?_
  (first | refine t_e (e_box1 rfl rfl) rfl rfl rfl ?_ | refine t_e (e_boxA rfl) rfl rfl rfl ?_); rintro _ _ ⟨b3, _, rfl, rfl⟩
  refine gz ?_
  refine k_loop (α := Nat) (fun k => [(0, .pointer (some ⟨b, 0, none⟩)), (3, .pointer (some ⟨b3, 0, none⟩)), (5, .int .i64 k)]) (fun _ => slC b3 s :: l) (fun k => k ≤ D.length ∧ ∀ j y, j < k → D[j]? = some y → y.1 ≠ s) (fun k => D.length - k) 0 ⟨Nat.zero_le _, fun j y h => by omega⟩ ⟨rfl, rfl, rfl, trivial⟩ .refl ?_
  rintro k ⟨hk, hj⟩
  by_cases hlt : k < D.length
  · obtain ⟨bB, off, xs, t, fz, rfl, hmr, hc⟩ := hR (by omega)
    obtain ⟨x, hx⟩ : ∃ x, D[k]? = some x := ⟨_, List.getElem?_eq_getElem hlt⟩
    obtain ⟨g0, g1, g2⟩ := hc k x hx
    refine gz ?_
    refine c_draw [(0, true), (1, true), (2, true), (3, true), (4, true), (5, true), (6, true), (7, true), (8, true), (9, true)] [[], [0], [0, 1], [0, 1, 2], [], [0, 1, 2, 3, 4], [0, 1, 2, 3, 4, 5], [0, 1, 2, 3, 4, 5, 6], [], [0, 1, 2, 3, 4, 5, 6, 7, 8]] _ (by kernel_rfl) (by kernel_rfl) zAtt (fun _ h => h) ?_
    refine pz ?_
    apply pl_q
    · exact q_loadA rfl (.tail _ hmr) g1 g2
    · rfl
    · rfl
    · rfl
    refine pz ?_
    apply pl_q
    · exact q_eqagg rfl rfl (encT_k x.1) (encT_k s)
    · rfl
    · rfl
    · rfl
    by_cases hxs : x.1 = s
    · rw [hxs, eqT_t, (idx_hit hx hxs hj).1]
      refine pz ?_
      refine gz ?_
      exact k_ret [] rfl (.drop .refl) (by exact zRes) ⟨rfl, rfl⟩
    · rw [eqT_f hxs]
      refine pz ?_
      refine gz ?_
      refine k_next (k + 1) ⟨by omega, fun j y h1 h2 => ?_⟩ (by omega) ⟨rfl, rfl, rfl, trivial⟩ .refl
      by_cases e : j = k
      · rw [e, hx] at h2; cases h2; exact hxs
      · exact hj j y (by omega) h2
  · obtain rfl : k = D.length := by omega
    rw [idx_none fun y hy => by
      obtain ⟨j, hjy⟩ := List.mem_iff_getElem?.1 hy
      exact hj j y (List.getElem?_eq_some_iff.1 hjy).1 hjy]
    refine gz ?_
    exact k_ret [] rfl (.drop .refl) (by exact zRes) ⟨rfl, rfl⟩
theorem ncs_ones {D : DT} : ∀ u ∈ ncs D, u.oneCell' = true := fun u hu => by
  obtain ⟨x, _, hx⟩ := List.mem_flatMap.1 hu
  simp only [nV, List.mem_cons, List.not_mem_nil, or_false] at hx
  rcases hx with rfl | rfl | rfl <;> rfl
theorem nV_ones (x : SlotT × Int) : ∀ u ∈ nV x, u.oneCell' = true := fun u hx => by
  simp only [nV, List.mem_cons, List.not_mem_nil, or_false] at hx
  rcases hx with rfl | rfl | rfl <;> rfl
theorem keep_new (x : Chunk) (c2 cs G : List Chunk) : Keep (c2 ++ (x :: (cs ++ G))) ((x :: c2) ++ G) :=
  ⟨cs, by
    have h1 : (c2 ++ (x :: (cs ++ G))).Perm (x :: (c2 ++ (cs ++ G))) := List.perm_middle
    have h2 : (c2 ++ (cs ++ G)).Perm (cs ++ (c2 ++ G)) := List.perm_append_comm_assoc c2 cs G
    exact (h1.trans ((h2.cons x).trans List.perm_middle.symm))⟩
theorem rroot_any (b : Nat) (D : DT) (lr : List Chunk) (hr : IsR b D lr) (hn : D.length ≤ 1000000) (s : SlotT) (G : List Chunk) :
    Fn Tryz.prog 112 [.pointer (some ⟨b, 0, none⟩), .agg (List.toArray (encT s))] (lr ++ G) fun v l' => v = .int .i64 (rootD D s).1 ∧ ∃ lr', IsR b (rootD D s).2 lr' ∧ l' = lr' ++ G := by
  have hr0 := hr
  obtain ⟨v, cs, rfl, ho⟩ := hr
  have hv1 : v.oneCell' = true := ho.one
  refine fn_of_body Tryz.func112 rfl rfl fun E => ?_
  simp only [argF, Tryz.ntmps112]
  refine gz ?_
  (first | refine t_e (e_box1 rfl rfl) rfl rfl rfl ?_ | refine t_e (e_boxA rfl) rfl rfl rfl ?_); rintro _ _ ⟨b3, _, rfl, rfl⟩
  refine gz ?_
  refine t_q (q_call rfl rfl fun l2 hl => rat_any b D _ hr0 hn s l2 fun c hc => hl c (.tail _ (List.mem_append_left _ hc))) rfl rfl rfl ?_
  cases hsp : splitD s D with
  | some z =>
    obtain ⟨A, d, B⟩ := z
    obtain ⟨e1, e2, e3⟩ := idx_of hsp
    rw [e1, show rootD D s = (11, D) by unfold rootD hasD; rw [hsp]; rfl]
    refine gz ?_
    exact k_ret [] rfl (.drop .refl) (by exact zRes) ⟨rfl, _, hr0, rfl⟩
  | none =>
    rw [idx_neg hsp, show rootD D s = (0, D ++ [(s, 0)]) by unfold rootD hasD; rw [hsp]; rfl]
    simp only [List.cons_append]
    refine gz ?_
    refine c_draw2 [(0, true), (1, true), (2, true), (3, true), (4, true), (6, true), (7, true), (5, false), (8, false), (9, false), (10, true), (11, true), (12, false)] [[], [], [1], [1, 2], [1, 2, 3], [1, 2, 3, 4], [], [6], [6, 7], [1, 2, 3, 4, 5, 6, 7, 8], [0, 1, 2, 3, 4, 5, 6, 7, 8, 9], [0, 1, 2, 3, 4, 5, 6, 7, 8, 9, 10], [0, 1, 2, 3, 4, 5, 6, 7, 8, 9, 10, 11]] 5 8 ([slC b3 s]) (by kernel_rfl) (by kernel_rfl) zAtt zHR ?_
    refine pz ?_
    apply pl_s (S := [rcC b v]); (· exact zLd); (· exact sing_mem (.tail _ (.head _))); (· rfl); (· rfl); (· rfl)
    refine pz ?_
    refine pl_alt [(8, false), (5, false), (9, false), (10, true), (11, true), (12, false)] zAtt (List.Perm.swap _ _ _) (by kernel_rfl) ?_ ?_
    · skip
      apply pl_eS
      · exact e_copy (k := 3) (e := 222) (n := D.length) (xs := ncs D) (cs := cs) (zs := [.int .i64 0, .int .i64 0, .int .i64 0]) rfl rfl rfl ho (fun c hc => .tail _ (.tail _ (List.mem_append_left _ hc))) ncs_ones hn (by decide)
      · rfl
      · rfl
      · rfl
      · rintro _ _ ⟨c1, _, rfl⟩ c hc
        exact List.mem_append_right _ (by rw [List.mem_singleton.1 hc]; exact .head _)
      · rintro _ _ ⟨c1, _, rfl⟩ x hx _ c hc
        exact List.mem_append_right _ (by rw [List.mem_singleton.1 hx] at hc; rw [List.mem_singleton.1 hc]; exact .tail _ (.head _))
      rintro v1 _ ⟨c1, ho1, rfl⟩
      refine pz ?_
      apply pl_eS
      · exact e_litA (k := 3) (e := 222) (ws := nV (s, 0)) (zs := [.int .i64 0, .int .i64 0, .int .i64 0]) rfl rfl rfl (by decide) (by decide)
      · rfl
      · rfl
      · rfl
      · rintro _ _ ⟨bl, _, _, rfl⟩ c hc
        exact .tail _ (List.mem_append_right _ (by rw [List.mem_singleton.1 hc]; exact .head _))
      · rintro _ _ ⟨bl, _, rfl, rfl⟩ x hx _ c hc
        exact .tail _ (List.mem_append_right _ (by rw [List.mem_singleton.1 hx] at hc; rw [List.mem_singleton.1 hc]; exact .tail _ (.head _)))
      rintro _ _ ⟨bl, _, rfl, rfl⟩
      refine pz ?_
      apply pl_eS
      · exact e_appX (k := 3) (X := []) (cs := c1) (F := slC b3 s :: rcC b v :: (cs ++ G)) (xs := ncs D) (n := D.length) (zs := [.int .i64 0, .int .i64 0, .int .i64 0]) (ws := nV (s, 0)) rfl rfl rfl ho1 rfl (nV_ones _) hn (by decide)
      · rfl
      · rfl
      · rfl
      · rintro _ _ ⟨c2, _, rfl⟩ c hc
        exact List.mem_append_right c2 (by rw [List.mem_singleton.1 hc]; exact .head _)
      · exact fun _ _ _ x hx ha => anc_all (by kernel_rfl) hx ha
      rintro v2 _ ⟨c2, ho2, rfl⟩
      have hv2 : v2.oneCell' = true := ho2.one
      refine pz ?_
      apply pl_nS
      · exact e_store (b := b) (off := 0) rfl rfl hv2 (upd_pre (.there .here) c2) (by simp)
      · rfl
      · rfl
      · rintro _ _ ⟨rfl, rfl⟩ c hc
        exact List.mem_append_right _ (by rw [List.mem_singleton.1 hc]; exact .head _)
      · exact fun _ _ _ x hx ha => anc_all (by kernel_rfl) hx ha
      rintro _ _ ⟨rfl, rfl⟩
      refine pz ?_
      refine gz ?_
      exact k_ret [] rfl (l' := rcC b v2 :: c2 ++ G) (Keep.trans (.of_perm List.perm_middle) (.drop (keep_new _ c2 cs G))) (by exact zRes) ⟨rfl, _, ⟨_, _, rfl, by rw [List.length_append, ncs_snoc]; exact ho2⟩, rfl⟩
    · skip
      apply pl_eS
      · exact e_litA (k := 3) (e := 222) (ws := nV (s, 0)) (zs := [.int .i64 0, .int .i64 0, .int .i64 0]) rfl rfl rfl (by decide) (by decide)
      · rfl
      · rfl
      · rfl
      · rintro _ _ ⟨bl, _, _, rfl⟩ c hc
        exact .tail _ ((by rw [List.mem_singleton.1 hc]; exact .head _))
      · rintro _ _ ⟨bl, _, rfl, rfl⟩ x hx _ c hc
        exact .tail _ ((by rw [List.mem_singleton.1 hx] at hc; rw [List.mem_singleton.1 hc]; exact .tail _ (.head _)))
      rintro _ _ ⟨bl, _, rfl, rfl⟩
      refine pz ?_
      apply pl_eS
      · exact e_copy (k := 3) (e := 222) (n := D.length) (xs := ncs D) (cs := cs) (zs := [.int .i64 0, .int .i64 0, .int .i64 0]) rfl rfl rfl ho (fun c hc => .tail _ (.tail _ (.tail _ (List.mem_append_left _ hc)))) ncs_ones hn (by decide)
      · rfl
      · rfl
      · rfl
      · rintro _ _ ⟨c1, _, rfl⟩ c hc
        exact List.mem_append_right _ (by rw [List.mem_singleton.1 hc]; exact .tail _ (.head _))
      · rintro _ _ ⟨c1, _, rfl⟩ x hx _ c hc
        exact List.mem_append_right _ (by rw [List.mem_singleton.1 hx] at hc; rw [List.mem_singleton.1 hc]; exact .tail _ (.tail _ (.head _)))
      rintro v1 _ ⟨c1, ho1, rfl⟩
      refine pz ?_
      apply pl_eS
      · exact e_appY (k := 3) (cs := c1) (F := slC b3 s :: rcC b v :: (cs ++ G)) (xs := ncs D) (n := D.length) (zs := [.int .i64 0, .int .i64 0, .int .i64 0]) (ws := nV (s, 0)) rfl rfl rfl ho1 rfl (nV_ones _) hn (by decide)
      · rfl
      · rfl
      · rfl
      · rintro _ _ ⟨c2, _, rfl⟩ c hc
        exact List.mem_append_right c2 (by rw [List.mem_singleton.1 hc]; exact .head _)
      · exact fun _ _ _ x hx ha => anc_all (by kernel_rfl) hx ha
      rintro v2 _ ⟨c2, ho2, rfl⟩
      have hv2 : v2.oneCell' = true := ho2.one
      refine pz ?_
      apply pl_nS
      · exact e_store (b := b) (off := 0) rfl rfl hv2 (upd_pre (.there .here) c2) (by simp)
      · rfl
      · rfl
      · rintro _ _ ⟨rfl, rfl⟩ c hc
        exact List.mem_append_right _ (by rw [List.mem_singleton.1 hc]; exact .head _)
      · exact fun _ _ _ x hx ha => anc_all (by kernel_rfl) hx ha
      rintro _ _ ⟨rfl, rfl⟩
      refine pz ?_
      refine gz ?_
      exact k_ret [] rfl (l' := rcC b v2 :: c2 ++ G) (Keep.trans (.of_perm List.perm_middle) (.drop (keep_new _ c2 cs G))) (by exact zRes) ⟨rfl, _, ⟨_, _, rfl, by rw [List.length_append, ncs_snoc]; exact ho2⟩, rfl⟩
theorem ncs_app (A B : DT) : ncs (A ++ B) = ncs A ++ ncs B := List.flatMap_append
theorem ncs_l (A : DT) : (ncs A).length = A.length * 3 := by
  induction A with
  | nil => rfl
  | cons x r ih => rw [show x :: r = [x] ++ r from rfl, ncs_app, List.length_append, ih, List.length_append, Nat.add_mul]; rfl
theorem ncs_fst {A B : DT} {sp : List Value} {j : Nat} {u : Value} (h : (ncs A)[j]? = some u) : (List.toArray (ncs (A ++ B) ++ sp))[0 + j]? = some u := by
  have hl := (List.getElem?_eq_some_iff.1 h).1
  rw [Nat.zero_add, List.getElem?_toArray, ncs_app, List.append_assoc, List.getElem?_append_left hl]; exact h
theorem ncs_snd {A B : DT} {sp : List Value} {j : Nat} {u : Value} (h : (ncs B)[j]? = some u) : (List.toArray (ncs (A ++ B) ++ sp))[A.length * 3 + j]? = some u := by
  have hl := (List.getElem?_eq_some_iff.1 h).1
  rw [List.getElem?_toArray, ncs_app, List.append_assoc, List.getElem?_append_right (by rw [ncs_l]; omega), ncs_l, Nat.add_sub_cancel_left, List.getElem?_append_left hl]; exact h
theorem ncs_dep {A B : DT} {x : SlotT × Int} {sp : List Value} : (List.toArray (ncs (A ++ x :: B) ++ sp))[A.length * 3 + 2]? = some (.int .i64 x.2) := ncs_snd (B := x :: B) rfl
theorem rchild_any (b : Nat) (D : DT) (lr : List Chunk) (hr : IsR b D lr) (hn : D.length ≤ 900000) (hd : SmallD D) (par s : SlotT) (G : List Chunk) :
    Fn Tryz.prog 167 [.pointer (some ⟨b, 0, none⟩), .agg (List.toArray (encT par)), .agg (List.toArray (encT s))] (lr ++ G) fun v l' => v = .int .i64 (childD D par s).1 ∧ ∃ lr', IsR b (childD D par s).2 lr' ∧ l' = lr' ++ G := by
  have hr0 := hr
  obtain ⟨v, cs, rfl, ho⟩ := hr
  have hv1 : v.oneCell' = true := ho.one
  refine fn_of_body Tryz.func167 rfl rfl fun E => ?_
  simp only [argF, Tryz.ntmps167]
  refine gz ?_
  (first | refine t_e (e_box1 rfl rfl) rfl rfl rfl ?_ | refine t_e (e_boxA rfl) rfl rfl rfl ?_); rintro _ _ ⟨b4, _, rfl, rfl⟩
  refine gz ?_
  (first | refine t_e (e_box1 rfl rfl) rfl rfl rfl ?_ | refine t_e (e_boxA rfl) rfl rfl rfl ?_); rintro _ _ ⟨b5, _, rfl, rfl⟩
  refine gz ?_
  refine t_q (q_call rfl rfl fun l2 hl => rat_any b D _ hr0 (by omega) par l2 fun c hc => hl c (.tail _ (.tail _ (List.mem_append_left _ hc)))) rfl rfl rfl ?_
  cases hsp : splitD par D with
  | none =>
    rw [idx_neg hsp, show childD D par s = (10, D) by unfold childD; rw [hsp]]
    refine gz ?_
    exact k_ret [] rfl (.drop (.drop .refl)) (by exact zRes) ⟨rfl, _, hr0, rfl⟩
  | some z =>
    obtain ⟨A, d, B⟩ := z
    obtain ⟨e1, e2, e3⟩ := idx_of hsp
    have hdd := hd (par, d) (List.mem_of_getElem? e3)
    simp only at hdd
    rw [e1]
    refine gz ?_
    refine t_q (q_call rfl rfl fun l2 hl => rat_any b D _ hr0 (by omega) s l2 fun c hc => hl c (.tail _ (.tail _ (List.mem_append_left _ hc)))) rfl rfl rfl ?_
    cases hss : splitD s D with
    | some z =>
      obtain ⟨A2, d2, B2⟩ := z
      obtain ⟨f1, f2, f3⟩ := idx_of hss
      rw [f1, show childD D par s = (11, D) by unfold childD hasD; rw [hsp, hss]; rfl]
      refine gz ?_
      exact k_ret [] rfl (.drop (.drop .refl)) (by exact zRes) ⟨rfl, _, hr0, rfl⟩
    | none =>
      rw [idx_neg hss, show childD D par s = (0, A ++ (par, d) :: (s, d + 1) :: B) by unfold childD hasD; rw [hsp, hss]; rfl]
      have hlD : D.length = A.length + 1 + B.length := by rw [e2]; simp; omega
      rcases ho.2 with ⟨_, h0, _⟩ | ⟨gb, cap, sp, rfl, rfl, hnc, hcm, hcl⟩
      · omega
      have hg : (List.toArray (ncs D ++ sp))[A.length * 3 + 2]? = some (.int .i64 d) := by rw [e2]; exact ncs_dep
      have hn1 : ∀ j u, (ncs (A ++ [(par, d)]))[j]? = some u → (List.toArray (ncs D ++ sp))[0 + j]? = some u := fun j u h => by
        rw [e2, show A ++ (par, d) :: B = (A ++ [(par, d)]) ++ B by simp]; exact ncs_fst h
      have hn2 : ∀ j u, (ncs B)[j]? = some u → (List.toArray (ncs D ++ sp))[(A.length + 1) * 3 + j]? = some u := fun j u h => by
        rw [e2, show A ++ (par, d) :: B = (A ++ [(par, d)]) ++ B by simp, show A.length + 1 = (A ++ [(par, d)]).length by simp]; exact ncs_snd h
      have hbl : ∀ j u, (ncs B)[j]? = some u → A.length + 1 < cap := fun j u h => by
        have := (List.getElem?_eq_some_iff.1 h).1
        rw [ncs_l] at this
        omega
      obtain ⟨off', hoff⟩ : ∃ o, (if cap = A.length + 1 then 0 else 0 + (A.length + 1) * 3) = o := ⟨_, rfl⟩
      have hn3 : ∀ j u, (ncs B)[j]? = some u → (List.toArray (ncs D ++ sp))[off' + j]? = some u := fun j u h => by
        have := hbl j u h
        rw [← hoff, if_neg (by omega), Nat.zero_add]; exact hn2 j u h
      generalize hL0 : slC b5 s :: slC b4 par :: rcC b (.slice (some ⟨gb, 0, none⟩) D.length cap) :: (gb, .cells (List.toArray (ncs D ++ sp)) 222 (0, 0)) :: G = L0
      simp only [List.cons_append, List.nil_append]
      have hm1 : rcC b (.slice (some ⟨gb, 0, none⟩) D.length cap) ∈ L0 := by rw [← hL0]; exact .tail _ (.tail _ (.head _))
      have hm2 : (gb, Obj.cells (List.toArray (ncs D ++ sp)) 222 (0, 0)) ∈ L0 := by rw [← hL0]; exact .tail _ (.tail _ (.tail _ (.head _)))
      have hm3 : slC b5 s ∈ L0 := by rw [← hL0]; exact .head _
      rw [hL0]
      refine gz ?_
      refine t_q (q_slice (l0 := 0) (h0 := A.length + 1) (m0 := cap) (off' := 0) (n' := A.length + 1) (c' := cap) rfl .none (.some rfl (by omega) (by omega)) .none (by simp) (by omega) (by omega) (by omega) (by simp) (by omega) (by omega)) rfl rfl rfl ?_
      refine t_e (ce_append (k := 3) (e := 222) (xs := []) (cs := []) (F := L0) (news := ncs (A ++ [(par, d)])) (zs := [.int .i64 0, .int .i64 0, .int .i64 0]) (cl := List.toArray (ncs D ++ sp)) rfl rfl rfl (OwnSl.nil _ _) hm2 hn1 (by rw [ncs_l]; simp) ncs_ones (by unfold maxLen; omega) (by omega)) rfl rfl rfl ?_
      rintro v1 _ ⟨c1, ho1, rfl⟩
      rw [List.nil_append, Nat.zero_add] at ho1
      refine gz ?_
      refine c_draw [(0, true), (1, true), (2, true), (3, true), (4, true), (5, true), (6, true), (7, true), (8, true), (9, true), (10, true), (11, true), (12, false), (13, false), (14, true)] [[], [], [], [2], [2, 3], [2, 3, 4], [], [2, 3, 4, 5, 6], [2, 3, 4, 5, 6, 7], [2, 3, 4, 5, 6, 7, 8], [2, 3, 4, 5, 6, 7, 8, 9], [1, 2, 3, 4, 5, 6, 7, 8, 9, 10], [1, 2, 3, 4, 5, 6, 7, 8, 9, 10, 11], [0, 1, 2, 3, 4, 5, 6, 7, 8, 9, 10, 11, 12], [0, 1, 2, 3, 4, 5, 6, 7, 8, 9, 10, 11, 12, 13]] (L0) (by kernel_rfl) (by kernel_rfl) zAtt (fun c hc => List.mem_append_right c1 hc) ?_
      refine pz ?_
      apply pl_e
      · exact e_litA (k := 3) (e := 222) (ws := nV (s, d + 1)) (zs := [.int .i64 0, .int .i64 0, .int .i64 0]) rfl rfl rfl (by decide) (by decide)
      · rfl
      · rfl
      · rfl
      · rintro _ _ ⟨bl, _, _, rfl⟩ c hc
        exact .tail _ (List.mem_append_right c1 hc)
      rintro _ _ ⟨bl, _, rfl, rfl⟩
      refine pz ?_
      apply pl_e
      · exact e_appX (k := 3) (X := []) (cs := c1) (F := L0) (xs := ncs (A ++ [(par, d)])) (n := A.length + 1) (zs := [.int .i64 0, .int .i64 0, .int .i64 0]) (ws := nV (s, d + 1)) rfl rfl rfl ho1 rfl (nV_ones _) (by omega) (by decide)
      · rfl
      · rfl
      · rfl
      · rintro _ _ ⟨c2, _, rfl⟩ c hc
        exact List.mem_append_right c2 hc
      rintro v2 _ ⟨c2, ho2, rfl⟩
      have hv2 : v2.oneCell' = true := ho2.one
      simp only [List.nil_append]
      have hm4 : rcC b (.slice (some ⟨gb, 0, none⟩) D.length cap) ∈ c2 ++ L0 := List.mem_append_right c2 hm1
      refine pz ?_
      refine gz ?_
      refine t_q (q_slice (l0 := A.length + 1) (h0 := D.length) (m0 := cap) (off' := off') (n' := B.length) rfl (.some rfl (by omega) (by omega)) .none .none (by simp) (by omega) (by omega) (by omega) hoff (by omega) rfl) rfl rfl rfl ?_
      refine t_e (ce_append (k := 3) (e := 222) (m := B.length) (xs := ncs (A ++ [(par, d)]) ++ nV (s, d + 1)) (cs := c2) (F := L0) (news := ncs B) (zs := [.int .i64 0, .int .i64 0, .int .i64 0]) (cl := List.toArray (ncs D ++ sp)) rfl rfl rfl ho2 (List.mem_append_right c2 hm2) hn3 (ncs_l B) ncs_ones (by unfold maxLen; omega) (by omega)) rfl rfl rfl ?_
      rintro v3 _ ⟨c3, ho3, rfl⟩
      have hv3 : v3.oneCell' = true := ho3.one
      rw [← hL0]
      refine gz ?_
      refine t_n (e_store (b := b) (off := 0) rfl rfl hv3 (upd_pre (.there (.there .here)) c3) (by simp)) rfl rfl ?_
      rintro _ _ ⟨rfl, rfl⟩
      refine gz ?_
      refine k_ret [] rfl (l' := rcC b v3 :: c3 ++ G) (Keep.trans (.of_perm List.perm_middle) (.drop (Keep.trans (.of_perm List.perm_middle) (.drop (keep_new _ c3 [(gb, .cells (List.toArray (ncs D ++ sp)) 222 (0, 0))] G))))) (by exact zRes) ⟨rfl, _, ⟨_, _, rfl, ?_⟩, rfl⟩
      have e5 : ncs (A ++ [(par, d)]) ++ nV (s, d + 1) ++ ncs B = ncs (A ++ (par, d) :: (s, d + 1) :: B) := by
        rw [← ncs_snoc, ← ncs_app]; simp
      rw [e5] at ho3
      have e6 : (A ++ (par, d) :: (s, d + 1) :: B).length = A.length + 1 + 1 + B.length := by simp; omega
      rw [e6]; exact ho3
end Go.Proofs.YtcjknmpogkofpaaGreat.Tr
namespace Go.Proofs.YtcjknmpogkofpaaGreat
open Go.RowKit
set_option maxRecDepth 20000
section
variable {P : Program} {ro : Option Nat} {N : Nat} {fr : Fr} {R l : List Chunk} {d : Option Nat} {ty t t2 : TypeId} {pos : String} {aft : Array Edge} {g : Option (Nat × Bool)} {x y : Operand} {a b : Nat}
end
set_option maxHeartbeats 400000
theorem rrmay_any (r : Int) (l : List Chunk) : Fn Tryz.prog 201 [.int .i64 r] l fun v l' => v = .bool (rMay r) ∧ l' = l := by
  refine fn_of_body Tryz.func201 rfl rfl fun E => ?_
  simp only [argF, Tryz.ntmps201]
  unfold rMay
  by_cases h0 : 0 ≤ r
  · rw [decide_eq_true h0]
    refine gzU ?_
    exact k_ret [] rfl .refl (by exact zRes) ⟨rfl, rfl⟩
  · rw [decide_eq_false h0]
    refine gzU ?_
    exact k_ret [] rfl .refl (by exact zRes) ⟨rfl, rfl⟩
theorem rmask_any (a b : Int) (l : List Chunk) : Fn Tryz.prog 202 [.int .i64 a, .int .i64 b] l fun v l' => v = .int .i64 (maskV a b) ∧ l' = l := by
  refine fn_of_body Tryz.func202 rfl rfl fun E => ?_
  simp only [argF, Tryz.ntmps202]
  refine gzU ?_
  refine t_q (q_call rfl rfl fun l2 _ => rrmay_any a l2) rfl rfl rfl ?_
  unfold maskV
  cases ha : rMay a with
  | false =>
    refine gzU ?_
    exact k_ret [] rfl .refl (by exact zRes) ⟨rfl, rfl⟩
  | true =>
  refine gzU ?_
  refine t_h (q_call rfl rfl fun l2 _ => rrmay_any b l2) rfl rfl rfl ?_
  cases hb : rMay b with
  | false =>
    refine gzU ?_
    exact k_ret [] rfl .refl (by exact zRes) ⟨rfl, rfl⟩
  | true =>
  obtain ⟨a, rfl, ha8⟩ := rMay_nat ha
  obtain ⟨b, rfl, hb8⟩ := rMay_nat hb
  refine gzU ?_
  refine k_loop (α := Nat) (fun j => [(0, .int .i64 ((a : Nat) : Int)), (1, .int .i64 ((b : Nat) : Int)), (5, .int .i64 (((a &&& b) % 2 ^ j : Nat) : Int)), (6, .int .i64 ((2 ^ j : Nat) : Int))]) (fun _ => l) (fun j => j ≤ 3) (fun j => 3 - j) 0 (Nat.zero_le _) ⟨rfl, rfl, by rw [Nat.pow_zero, Nat.mod_one]; rfl, rfl, trivial⟩ .refl ?_
  intro j hj
  have hab : a &&& b < 8 := Nat.lt_of_le_of_lt Nat.and_le_left ha8
  by_cases hlt : j < 3
  · have hp : 2 ^ j ≤ 2 ^ 2 := Nat.pow_le_pow_right (by omega) (by omega)
    have hp0 := Nat.two_pow_pos j
    have hm := Nat.mod_lt (a &&& b) hp0
    have hs := @Nat.mod_mul (2 ^ j) 2 (a &&& b)
    have hb2 := and_bit a b j
    rw [← Nat.pow_succ] at hs
    obtain ⟨q, hq⟩ : ∃ q, 2 ^ (j + 1) = q := ⟨_, rfl⟩
    have hpp : q = 2 ^ j * 2 := by rw [← hq]; exact Nat.pow_succ ..
    obtain ⟨k, hk⟩ : ∃ k, 2 ^ j = k := ⟨_, rfl⟩
    rw [Nat.succ_eq_add_one, hq] at hs
    rw [hk] at hp hp0 hm hs hpp hb2 ⊢
    obtain ⟨m, hmm⟩ : ∃ m, (a &&& b) % k = m := ⟨_, rfl⟩
    obtain ⟨t, ht⟩ : ∃ t, (a &&& b) / k % 2 = t := ⟨_, rfl⟩
    have ht2 : t < 2 := by rw [← ht]; exact Nat.mod_lt _ (by decide)
    rw [hmm] at hm hs ⊢
    rw [ht] at hs hb2
    have hk0 : (0 : Int) < ((k : Nat) : Int) := by omega
    have hkt : k * t = if t = 1 then k else 0 := by
      by_cases h1 : t = 1
      · rw [h1, if_pos rfl, Nat.mul_one]
      · rw [if_neg h1, show t = 0 by omega, Nat.mul_zero]
    have fin : ∀ {r : Nat}, r = (a &&& b) % 2 ^ (j + 1) → ((r : Nat) : Int) = (((a &&& b) % 2 ^ (j + 1) : Nat) : Int) := fun h => by rw [h]
    have fin2 : ((k * 2 : Nat) : Int) = (k : Int) * 2 := by omega
    clear ha hb
    refine gzU ?_
    rw [← Int.natCast_ediv]
    obtain ⟨u, hu⟩ : ∃ u, a / k = u := ⟨_, rfl⟩
    obtain ⟨w, hw⟩ : ∃ w, b / k = w := ⟨_, rfl⟩
    rw [hu, hw] at hb2
    rw [hu]
    by_cases hA : u % 2 = 1
    · refine gzU ?_
      rw [← Int.natCast_ediv, hw]
      by_cases hB : w % 2 = 1
      · refine gzU ?_
        refine k_next (j + 1) (by omega) (by omega) ⟨rfl, rfl, ?_, ?_, trivial⟩ .refl
        · rw [hq, hs, hkt, if_pos (by omega)]; rfl
        · rw [hq, hpp]; rfl
      · refine gzU ?_
        refine k_next (j + 1) (by omega) (by omega) ⟨rfl, rfl, ?_, ?_, trivial⟩ .refl
        · rw [hq, hs, hkt, if_neg (by omega)]; rfl
        · rw [hq, hpp]; rfl
    · refine gzU ?_
      refine k_next (j + 1) (by omega) (by omega) ⟨rfl, rfl, ?_, ?_, trivial⟩ .refl
      · rw [hq, hs, hkt, if_neg (by omega)]; rfl
      · rw [hq, hpp]; rfl
  · obtain rfl : j = 3 := by omega
    rw [Nat.mod_eq_of_lt (show a &&& b < 2 ^ 3 by omega)]
    refine gzU ?_
    exact k_ret [] rfl .refl (by exact zRes) ⟨rfl, rfl⟩
theorem copyseisinref14_any (c : CapT) (hw : CapW c) (mask : Int) (l : List Chunk) : Fn Tryz.prog 162 [.agg (List.toArray (encC c)), .int .i64 mask] l fun v l' => v = .tuple #[.agg (List.toArray (encC (copyC c mask).1)), .int .i64 (copyC c mask).2] ∧ l' = l := by
  refine fn_of_body Tryz.func162 rfl rfl fun E => ?_
  simp only [argF, Tryz.ntmps162]
  refine gzU ?_
  (first | refine t_e (e_box1 rfl rfl) rfl rfl rfl ?_ | refine t_e (e_boxA rfl) rfl rfl rfl ?_); rintro _ _ ⟨b2, _, rfl, rfl⟩
  refine gzU ?_
  refine t_e e_alloc rfl rfl rfl ?_; rintro _ _ ⟨b4, _, rfl, rfl⟩
  refine gzU ?_
  refine t_q (q_call rfl rfl fun l2 _ => rmay_any c l2) rfl rfl rfl ?_
  rw [may_eq c hw.guard]
  have hz : ∀ (e : Int) (d : CapT), Keep (capC b4 capZ :: capC b2 d :: l) l := fun _ _ => .drop (.drop .refl)
  cases hm : mayC c with
  | false =>
    rw [show copyC c mask = (capZ, 2) by unfold copyC; rw [if_pos (.inl hm)]]
    refine gzU ?_
    exact k_ret2 [] (capC b4 capZ :: capC b2 c :: l) rfl (l' := l) .refl (by exact zRes) (hz 0 _) ⟨rfl, rfl⟩
  | true =>
  refine gzU ?_
  refine t_h (q_call rfl rfl fun l2 _ => rrmay_any mask l2) rfl rfl rfl ?_
  cases hr : rMay mask with
  | false =>
    rw [show copyC c mask = (capZ, 2) by unfold copyC; rw [if_pos (.inr hr)]]
    refine gzU ?_
    exact k_ret2 [] (capC b4 capZ :: capC b2 c :: l) rfl (l' := l) .refl (by exact zRes) (hz 0 _) ⟨rfl, rfl⟩
  | true =>
  have e0 : copyC c mask = if c.kind = 0 then (capZ, 10) else if c.kind = 1 ∨ c.kind = 7 then (capZ, 8)
    else if c.kind = 3 then (if maskV c.rights mask = 0 then (capZ, 9) else (⟨c.kind, c.obj, maskV c.rights mask, c.badge, c.guard, c.bits, 0, 0⟩, 0))
    else if c.kind = 8 then (⟨c.kind, c.obj, maskV c.rights mask, c.badge, c.guard, c.bits, c.serial, c.page⟩, 0) else (c, 0) := by
    unfold copyC; rw [if_neg (by rw [hm, hr]; simp)]
  rw [e0]
  by_cases k0 : c.kind = 0
  · rw [if_pos k0]
    refine gzU ?_
    exact k_ret2 [] (capC b4 capZ :: capC b2 c :: l) rfl (l' := l) .refl (by exact zRes) (hz 0 _) ⟨rfl, rfl⟩
  rw [if_neg k0]
  by_cases k17 : c.kind = 1 ∨ c.kind = 7
  · rw [if_pos k17]
    by_cases k1 : c.kind = 1
    · refine gzU ?_
      exact k_ret2 [] (capC b4 capZ :: capC b2 c :: l) rfl (l' := l) .refl (by exact zRes) (hz 0 _) ⟨rfl, rfl⟩
    · have k7 : c.kind = 7 := by omega
      refine gzU ?_
      exact k_ret2 [] (capC b4 capZ :: capC b2 c :: l) rfl (l' := l) .refl (by exact zRes) (hz 0 _) ⟨rfl, rfl⟩
  rw [if_neg k17]
  by_cases k3 : c.kind = 3
  · rw [if_pos k3]
    refine gzU ?_
    refine t_q (q_call rfl rfl fun l2 _ => rmask_any c.rights mask l2) rfl rfl rfl ?_
    by_cases hz0 : maskV c.rights mask = 0
    · rw [if_pos hz0]
      refine gzU ?_
      exact k_ret2 [] (capC b4 capZ :: capC b2 ⟨c.kind, c.obj, maskV c.rights mask, c.badge, c.guard, c.bits, 0, 0⟩ :: l) rfl (l' := l) .refl (by exact zRes) (hz 0 _) ⟨rfl, rfl⟩
    · rw [if_neg hz0]
      refine gzU ?_
      exact k_ret2 [] (capC b4 ⟨c.kind, c.obj, maskV c.rights mask, c.badge, c.guard, c.bits, 0, 0⟩ :: capC b2 ⟨c.kind, c.obj, maskV c.rights mask, c.badge, c.guard, c.bits, 0, 0⟩ :: l) rfl (l' := l) .refl (by exact zRes) (.drop (.drop .refl)) ⟨rfl, rfl⟩
  rw [if_neg k3]
  by_cases k8 : c.kind = 8
  · rw [if_pos k8]
    refine gzU ?_
    refine t_q (q_call rfl rfl fun l2 _ => rmask_any c.rights mask l2) rfl rfl rfl ?_
    refine gzU ?_
    exact k_ret2 [] (capC b4 ⟨c.kind, c.obj, maskV c.rights mask, c.badge, c.guard, c.bits, c.serial, c.page⟩ :: capC b2 ⟨c.kind, c.obj, maskV c.rights mask, c.badge, c.guard, c.bits, c.serial, c.page⟩ :: l) rfl (l' := l) .refl (by exact zRes) (.drop (.drop .refl)) ⟨rfl, rfl⟩
  rw [if_neg k8]
  refine gzU ?_
  exact k_ret2 [] (capC b4 c :: capC b2 c :: l) rfl (l' := l) .refl (by exact zRes) (.drop (.drop .refl)) ⟨rfl, rfl⟩
theorem rmint_any (c : CapT) (hw : CapW c) (mask : Int) (data : Nat) (hd : data < 18446744073709551616) (l : List Chunk) : Fn Tryz.prog 114 [.agg (List.toArray (encC c)), .int .i64 mask, .int .u64 (data : Nat)] l fun v l' => v = .tuple #[.agg (List.toArray (encC (mintC c mask data).1)), .int .i64 (mintC c mask data).2] ∧ l' = l := by
  refine fn_of_body Tryz.func114 rfl rfl fun E => ?_
  simp only [argF, Tryz.ntmps114]
  refine gzU ?_
  (first | refine t_e (e_box1 rfl rfl) rfl rfl rfl ?_ | refine t_e (e_boxA rfl) rfl rfl rfl ?_); rintro _ _ ⟨b3, _, rfl, rfl⟩
  refine gzU ?_
  refine t_e e_alloc rfl rfl rfl ?_; rintro _ _ ⟨b6, _, rfl, rfl⟩
  refine gzU ?_
  refine t_q (q_call rfl rfl fun l2 _ => copyseisinref14_any c hw mask l2) rfl rfl rfl ?_
  have hwd := copy_w hw mask
  have hce := @copy_e c mask
  unfold mintC
  obtain ⟨d, hd0⟩ : ∃ d, (copyC c mask).1 = d := ⟨_, rfl⟩
  obtain ⟨e, he0⟩ : ∃ e, (copyC c mask).2 = e := ⟨_, rfl⟩
  rw [hd0] at hwd
  rw [hd0, he0] at hce ⊢
  refine gzU ?_
  refine t_e e_alloc rfl rfl rfl ?_; rintro _ _ ⟨b8, _, rfl, rfl⟩
  refine gzU ?_
  have hK : ∀ (d2 c6 : CapT), Keep (capC b8 d2 :: capC b6 c6 :: capC b3 c :: l) (capC b6 c6 :: l) := fun _ _ => .drop (.pick .here (.drop .refl))
  by_cases he : e ≠ 0
  · rw [if_pos he]
    rw [hce he]
    refine gzU ?_
    exact k_ret2 [] (capC b6 capZ :: l) rfl (l' := l) (hK capZ capZ) (by exact zRes) (.drop .refl) ⟨rfl, rfl⟩
  rw [if_neg he]
  have he' : e = 0 := by simpa using he
  clear he
  subst he'
  refine gzU ?_
  unfold mintD
  by_cases k8 : d.kind = 8
  · rw [if_pos k8]
    by_cases h1 : data > 16777215
    · rw [if_pos h1]
      refine gzU ?_
      exact k_ret2 [] (capC b6 capZ :: l) rfl (l' := l) (hK d capZ) (by exact zRes) (.drop .refl) ⟨rfl, rfl⟩
    rw [if_neg h1]
    by_cases h2 : d.badge ≠ 0
    · rw [if_pos h2]
      refine gzU ?_
      exact k_ret2 [] (capC b6 capZ :: l) rfl (l' := l) (hK d capZ) (by exact zRes) (.drop .refl) ⟨rfl, rfl⟩
    rw [if_neg h2]
    refine gzU ?_
    exact k_ret2 [] (capC b6 ⟨d.kind, d.obj, d.rights, ((data : Nat) : Int), d.guard, d.bits, d.serial, d.page⟩ :: l) rfl (l' := l) (hK ⟨d.kind, d.obj, d.rights, ((data : Nat) : Int), d.guard, d.bits, d.serial, d.page⟩ ⟨d.kind, d.obj, d.rights, ((data : Nat) : Int), d.guard, d.bits, d.serial, d.page⟩) (by exact zRes) (.drop .refl) ⟨rfl, rfl⟩
  rw [if_neg k8]
  by_cases k2 : d.kind = 2
  · rw [if_pos k2]
    by_cases h1 : data ≥ 65536
    · rw [if_pos h1]
      refine gzU ?_
      exact k_ret2 [] (capC b6 capZ :: l) rfl (l' := l) (hK d capZ) (by exact zRes) (.drop .refl) ⟨rfl, rfl⟩
    rw [if_neg h1]
    refine gzU ?_
    rw [show ((data : Nat) : Int) % 4096 = ((data % 4096 : Nat) : Int) by omega]
    refine t_q (q_quo (k := .u64) (i := ((data : Nat) : Int)) (j := 4096) rfl rfl (by omega) (by omega) ⟨by omega, by omega⟩) rfl rfl rfl ?_
    rw [show ((data : Nat) : Int) / 4096 = ((data / 4096 : Nat) : Int) by omega]
    refine gzU ?_
    refine t_q (q_call rfl rfl fun l2 _ => rmay_any (nodeC d data) l2) rfl rfl rfl ?_
    rw [may_eq (nodeC d data) (by simp only; omega)]
    cases hm : mayC (nodeC d data) with
    | false =>
      rw [if_pos rfl]
      refine gzU ?_
      exact k_ret2 [] (capC b6 capZ :: l) rfl (l' := l) (hK (nodeC d data) capZ) (by exact zRes) (.drop .refl) ⟨rfl, rfl⟩
    | true =>
      rw [if_neg (by decide)]
      refine gzU ?_
      exact k_ret2 [] (capC b6 (nodeC d data) :: l) rfl (l' := l) (hK (nodeC d data) (nodeC d data)) (by exact zRes) (.drop .refl) ⟨rfl, rfl⟩
  rw [if_neg k2]
  by_cases h1 : data ≠ 0
  · rw [if_pos h1]
    refine gzU ?_
    exact k_ret2 [] (capC b6 capZ :: l) rfl (l' := l) (hK d capZ) (by exact zRes) (.drop .refl) ⟨rfl, rfl⟩
  · rw [if_neg h1]
    refine gzU ?_
    exact k_ret2 [] (capC b6 d :: l) rfl (l' := l) (hK d d) (by exact zRes) (.drop .refl) ⟨rfl, rfl⟩
abbrev rhoC (b bs bt : Nat) : Chunk := (b, .cells (List.toArray [.pointer (some ⟨bs, 0, none⟩), .pointer (some ⟨bt, 0, none⟩)]) 145 (0, 0))
structure RHB (b bs bt : Nat) (H : HS) (ls lt lq : List Chunk) : Prop where
  eq : lq = rhoC b bs bt :: (ls ++ lt)
  s : IsR bs H.1 ls
  t : Tr.IsR bt H.2 lt
def IsRH (b : Nat) (H : HS) (lq : List Chunk) : Prop := ∃ bs bt ls lt, RHB b bs bt H ls lt lq
theorem RHB.h {b bs bt : Nat} {H : HS} {ls lt lq : List Chunk} (h : RHB b bs bt H ls lt lq) : rhoC b bs bt ∈ lq := by rw [h.eq]; exact .head _
theorem RHB.m1 {b bs bt : Nat} {H : HS} {ls lt lq : List Chunk} (h : RHB b bs bt H ls lt lq) : ∀ c, c ∈ ls → c ∈ lq := fun c hc => by rw [h.eq]; exact .tail _ (List.mem_append_left _ hc)
theorem get_1 {D : SD} (s : slT) (h : okD D s = true) : (getD' D s).1 = atD D s := by rw [get_t h]
theorem rhnew_any (l : List Chunk) : Fn Tryz.prog 96 [] l fun v l' => ∃ b, v = .pointer (some ⟨b, 0, none⟩) ∧ ∃ lq, IsRH b ([], []) lq ∧ l' = lq ++ l := by
  refine fn_of_body Tryz.func96 rfl rfl fun E => ?_
  simp only [argF, Tryz.ntmps96]
  refine gzU ?_
  (first | refine t_e (e_box1 rfl rfl) rfl rfl rfl ?_ | refine t_e (e_boxA rfl) rfl rfl rfl ?_); rintro _ _ ⟨bs, _, rfl, rfl⟩
  refine gzU ?_
  (first | refine t_e (e_box1 rfl rfl) rfl rfl rfl ?_ | refine t_e (e_boxA rfl) rfl rfl rfl ?_); rintro _ _ ⟨bt, _, rfl, rfl⟩
  refine gzU ?_
  (first | refine t_e (e_box1 rfl rfl) rfl rfl rfl ?_ | refine t_e (e_boxA rfl) rfl rfl rfl ?_); rintro _ _ ⟨b, _, rfl, rfl⟩
  refine gzU ?_
  exact k_ret [] rfl (l' := (rhoC b bs bt :: ([rxC bs (.slice none 0 0)] ++ [Tr.rcC bt (.slice none 0 0)])) ++ l) (keep_ac (A := rhoC b bs bt :: Tr.rcC bt (.slice none 0 0) :: rxC bs (.slice none 0 0) :: l) []) (by exact zRes) ⟨b, rfl, _, ⟨bs, bt, _, _, rfl, ⟨[], _, [], rfl, rfl, OwnSl.nil _ _, List.Pairwise.nil, fun x hx => by cases hx⟩, ⟨_, [], rfl, OwnSl.nil _ _⟩⟩, rfl⟩
theorem rsome_any (c : CapT) (hw : CapW c) (l : List Chunk) : Fn Tryz.prog 109 [.agg (List.toArray (encC c))] l fun v l' => v = .bool (someC c) ∧ l' = l := by
  refine fn_of_body Tryz.func109 rfl rfl fun E => ?_
  simp only [argF, Tryz.ntmps109]
  refine gzU ?_
  (first | refine t_e (e_box1 rfl rfl) rfl rfl rfl ?_ | refine t_e (e_boxA rfl) rfl rfl rfl ?_); rintro _ _ ⟨b1, _, rfl, rfl⟩
  unfold someC
  by_cases hk : c.kind = 0
  · rw [decide_eq_true hk, Bool.not_true, Bool.and_false]
    refine gzU ?_
    exact k_ret [] rfl (.drop .refl) (by exact zRes) ⟨rfl, rfl⟩
  · rw [decide_eq_false hk, Bool.not_false, Bool.and_true]
    refine gzU ?_
    refine t_h (q_call rfl rfl fun l2 _ => rmay_any c l2) rfl rfl rfl ?_
    rw [may_eq c hw.guard]
    refine gzU ?_
    exact k_ret [] rfl (.drop .refl) (by exact zRes) ⟨rfl, rfl⟩
theorem rcap_any (b : Nat) (H : HS) (lq : List Chunk) (hq : IsRH b H lq) (hn : H.1.length ≤ 2000) (s : slT) (l : List Chunk) (hsub : ∀ c, c ∈ lq → c ∈ l) :
    Fn Tryz.prog 110 [.pointer (some ⟨b, 0, none⟩), .agg (List.toArray (encT s))] l fun v l' => v = .agg (List.toArray (encC (getD' H.1 s).1)) ∧ l' = l := by
  obtain ⟨bs, bt, ls, lt, hb⟩ := hq
  have hm := hsub _ hb.h
  refine fn_of_body Tryz.func110 rfl rfl fun E => ?_
  simp only [argF, Tryz.ntmps110]
  refine gzU ?_
  (first | refine t_e (e_box1 rfl rfl) rfl rfl rfl ?_ | refine t_e (e_boxA rfl) rfl rfl rfl ?_); rintro _ _ ⟨b3, _, rfl, rfl⟩
  refine gzU ?_
  refine t_e e_alloc rfl rfl rfl ?_; rintro _ _ ⟨b4, _, rfl, rfl⟩
  refine gzU ?_
  refine c_draw [(0, true), (1, true), (2, true), (3, true), (4, true), (5, true), (6, true), (7, true), (8, true), (9, false), (10, false), (11, true)] [[], [0], [0, 1], [0, 1, 2], [], [0, 1, 2, 3, 4], [0, 1, 2, 3, 4, 5], [0, 1, 2, 3, 4, 5, 6], [0, 1, 2, 3, 4, 5, 6], [], [0, 1, 2, 3, 4, 5, 6, 7, 9], [0, 1, 2, 3, 4, 5, 6, 7, 8, 9, 10]] (slC b3 s :: l) (by kernel_rfl) (by kernel_rfl) zAtt zHR ?_
  refine pzU ?_
  refine pl_h (q_call rfl rfl fun l2 hl => rget_any bs H.1 ls hb.s (by omega) s l2 fun c hc => hl _ (.tail _ (hsub _ (hb.m1 c hc)))) rfl rfl rfl ?_
  refine pzU ?_
  apply pl_e
  · exact e_alloc
  · rfl
  · rfl
  · rfl
  · rintro _ _ ⟨b5, _, _, rfl⟩ z hz
    exact .tail _ (.tail _ hz)
  rintro _ _ ⟨b5, _, rfl, rfl⟩
  refine pzU ?_
  refine gzU ?_
  exact k_ret2 [] (capC b4 (getD' H.1 s).1 :: slC b3 s :: l) rfl (l' := l) (.drop .refl) (by exact zRes) (.drop (.drop .refl)) ⟨rfl, rfl⟩
theorem rhroot_any (b : Nat) (H : HS) (n : Nat) (hI : InvH H n) (hn : n ≤ 1000) (lq : List Chunk) (hq : IsRH b H lq) (s : slT) (c : CapT) (hw : CapW c) (G : List Chunk) :
    Fn Tryz.prog 37 [.pointer (some ⟨b, 0, none⟩), .agg (List.toArray (encT s)), .agg (List.toArray (encC c))] (lq ++ G) fun v l' => v = .int .i64 (rootH H s c).1 ∧ ∃ lq', IsRH b (rootH H s c).2 lq' ∧ l' = lq' ++ G := by
  obtain ⟨z1, z2, z3⟩ := hI.small hn
  have hq0 := hq
  obtain ⟨bs, bt, ls, lt, hb⟩ := hq
  have hm : rhoC b bs bt ∈ lq ++ G := List.mem_append_left _ hb.h
  refine fn_of_body Tryz.func37 rfl rfl fun E => ?_
  simp only [argF, Tryz.ntmps37]
  refine gzU ?_
  (first | refine t_e (e_box1 rfl rfl) rfl rfl rfl ?_ | refine t_e (e_boxA rfl) rfl rfl rfl ?_); rintro _ _ ⟨b4, _, rfl, rfl⟩
  refine gzU ?_
  (first | refine t_e (e_box1 rfl rfl) rfl rfl rfl ?_ | refine t_e (e_boxA rfl) rfl rfl rfl ?_); rintro _ _ ⟨b5, _, rfl, rfl⟩
  refine gzU ?_
  have hret : Keep (capC b5 c :: slC b4 s :: (lq ++ G)) (lq ++ G) := .drop (.drop .refl)
  refine c_draw [(0, true), (1, true), (2, true), (3, true), (4, true), (5, true), (6, true)] [[], [0], [0, 1], [0, 1, 2], [], [0, 1, 2, 3, 4], [0, 1, 2, 3, 4, 5]] (capC b5 c :: slC b4 s :: (lq ++ G)) (by kernel_rfl) (by kernel_rfl) zAtt zHR ?_
  refine pzU ?_
  refine pl_h (q_call rfl rfl fun l2 hl => rhas_any bs H.1 ls hb.s (by omega) s l2 fun c hc => hl _ (.tail _ (.tail _ (List.mem_append_left _ (hb.m1 c hc))))) rfl rfl rfl ?_
  cases hok : okD H.1 s with
  | false =>
    rw [show rootH H s c = (3, H) by unfold rootH; rw [if_pos hok]]
    refine pzU ?_
    refine gzU ?_
    exact k_ret [] rfl hret (by exact zRes) ⟨rfl, _, hq0, rfl⟩
  | true =>
  have e0 : rootH H s c = if someC c = false then (5, H) else if (atD H.1 s).kind ≠ 0 then (11, H) else (0, (putD H.1 s c, (Tr.rootD H.2 s).2)) := by unfold rootH; rw [if_neg (by rw [hok]; decide)]
  rw [e0]
  refine pzU ?_
  refine gzU ?_
  refine t_q (q_call rfl rfl fun l2 hl => rsome_any c hw l2) rfl rfl rfl ?_
  cases hsc : someC c with
  | false =>
    rw [if_pos rfl]
    refine gzU ?_
    exact k_ret [] rfl hret (by exact zRes) ⟨rfl, _, hq0, rfl⟩
  | true =>
  rw [if_neg (by decide)]
  refine gzU ?_
  refine t_q (q_call rfl rfl fun l2 hl => rcap_any b H lq hq0 z1 s l2 fun c hc => hl _ (.tail _ (.tail _ (List.mem_append_left _ hc)))) rfl rfl rfl ?_
  rw [get_1 s hok]
  by_cases hw2 : (atD H.1 s).kind ≠ 0
  · rw [if_pos hw2]
    refine gzU ?_
    exact k_ret [] rfl hret (by exact zRes) ⟨rfl, _, hq0, rfl⟩
  rw [if_neg hw2]
  obtain ⟨rfl, hs, ht⟩ := hb
  obtain ⟨X, hX⟩ : ∃ X, X = [capC b5 c, slC b4 s, rhoC b bs bt] := ⟨_, rfl⟩
  have H1 := Fn.mvP (fun A => X ++ (A ++ (lt ++ G))) (rset_any bs H.1 ls hs (by omega) s c hw.guard (X ++ (lt ++ G)))
  have H2 := fun ls => Fn.mvP (fun A => X ++ (ls ++ (A ++ G))) (Tr.rroot_any bt H.2 lt ht (by omega) s (X ++ (ls ++ G)))
  rw [set_ok hok (some_c hsc).1] at H1
  rw [hX] at H1 H2
  simp only [List.cons_append, List.append_assoc, List.nil_append] at H1 H2 ⊢
  refine gzU ?_
  refine c_draw [(0, true), (1, true), (2, true), (3, true), (4, true), (5, true), (6, false)] [[], [0], [0, 1], [0, 1, 2], [], [], [0, 1, 2, 3, 4, 5]] ([capC b5 c, slC b4 s, rhoC b bs bt]) (by kernel_rfl) (by kernel_rfl) zAtt zHR ?_
  refine pzU ?_
  apply pl_e
  · exact e_call rfl rfl H1
  · rfl
  · rfl
  · rfl
  · rintro _ _ ⟨_, ls', _, rfl⟩
    exact zHR
  rintro _ _ ⟨rfl, ls', hs', rfl⟩
  refine pzU ?_
  refine gzU ?_
  refine c_draw [(0, true), (1, true), (2, true), (3, true), (4, true), (5, false)] [[], [0], [0, 1], [0, 1, 2], [], [0, 1, 2, 3, 4]] ([slC b4 s, rhoC b bs bt]) (by kernel_rfl) (by kernel_rfl) zAtt zHR ?_
  refine pzU ?_
  apply pl_e
  · exact e_call rfl rfl (H2 ls')
  · rfl
  · rfl
  · rfl
  · rintro _ _ ⟨_, lt', _, rfl⟩
    exact zHR
  rintro _ _ ⟨rfl, lt', ht', rfl⟩
  refine pzU ?_
  refine gzU ?_
  exact k_ret [] rfl (l' := (rhoC b bs bt :: (ls' ++ lt')) ++ G) (.drop (.drop (.of_perm (.of_eq (by simp))))) (by exact zRes) ⟨rfl, _, ⟨bs, bt, ls', lt', rfl, hs', ht'⟩, rfl⟩
theorem rhchild_any (b : Nat) (H : HS) (n : Nat) (hI : InvH H n) (hn : n ≤ 1000) (lq : List Chunk) (hq : IsRH b H lq) (p s : slT) (c : CapT) (hw : CapW c) (G : List Chunk) :
    Fn Tryz.prog 115 [.pointer (some ⟨b, 0, none⟩), .agg (List.toArray (encT p)), .agg (List.toArray (encT s)), .agg (List.toArray (encC c))] (lq ++ G) fun v l' => v = .int .i64 (childH H p s c).1 ∧ ∃ lq', IsRH b (childH H p s c).2 lq' ∧ l' = lq' ++ G := by
  obtain ⟨z1, z2, z3⟩ := hI.small hn
  have hq0 := hq
  obtain ⟨bs, bt, ls, lt, hb⟩ := hq
  have hm : rhoC b bs bt ∈ lq ++ G := List.mem_append_left _ hb.h
  refine fn_of_body Tryz.func115 rfl rfl fun E => ?_
  simp only [argF, Tryz.ntmps115]
  refine gzU ?_
  (first | refine t_e (e_box1 rfl rfl) rfl rfl rfl ?_ | refine t_e (e_boxA rfl) rfl rfl rfl ?_); rintro _ _ ⟨b5, _, rfl, rfl⟩
  refine gzU ?_
  (first | refine t_e (e_box1 rfl rfl) rfl rfl rfl ?_ | refine t_e (e_boxA rfl) rfl rfl rfl ?_); rintro _ _ ⟨b6, _, rfl, rfl⟩
  refine gzU ?_
  (first | refine t_e (e_box1 rfl rfl) rfl rfl rfl ?_ | refine t_e (e_boxA rfl) rfl rfl rfl ?_); rintro _ _ ⟨b7, _, rfl, rfl⟩
  refine gzU ?_
  have hret : Keep (capC b7 c :: slC b6 s :: slC b5 p :: (lq ++ G)) (lq ++ G) := .drop (.drop (.drop .refl))
  refine c_draw [(0, true), (1, true), (2, true), (3, true), (4, true), (5, true), (6, true), (7, true), (8, true), (9, true), (10, true), (11, true), (12, true), (13, true), (14, true), (15, true)] [[], [0], [0, 1], [0, 1, 2], [], [0, 1, 2, 3, 4], [0, 1, 2, 3, 4, 5], [0, 1, 2, 3, 4, 5, 6], [0, 1, 2, 3, 4, 5, 6, 7], [0, 1, 2, 3, 4, 5, 6, 7, 8], [0, 1, 2, 3, 4, 5, 6, 7, 8, 9], [0, 1, 2, 3, 4, 5, 6, 7, 8, 9, 10], [0, 1, 2, 3, 4, 5, 6, 7], [0, 1, 2, 3, 4, 5, 6, 7, 8, 9, 10, 11, 12], [0, 1, 2, 3, 4, 5, 6, 7, 8, 9, 10, 11, 12, 13], [0, 1, 2, 3, 4, 5, 6, 7, 8, 9, 10, 11, 12, 13, 14]] (capC b7 c :: slC b6 s :: slC b5 p :: (lq ++ G)) (by kernel_rfl) (by kernel_rfl) zAtt zHR ?_
  refine pzU ?_
  refine pl_h (q_call rfl rfl fun l2 hl => rhas_any bs H.1 ls hb.s (by omega) p l2 fun c hc => hl _ (.tail _ (.tail _ (.tail _ (List.mem_append_left _ (hb.m1 c hc)))))) rfl rfl rfl ?_
  cases okp : okD H.1 p with
  | false =>
    rw [show childH H p s c = (3, H) by unfold childH; rw [if_pos (.inl okp)]]
    refine pzU ?_
    refine gzU ?_
    exact k_ret [] rfl hret (by exact zRes) ⟨rfl, _, hq0, rfl⟩
  | true =>
  refine pzU ?_
  refine pl_h (q_call rfl rfl fun l2 hl => rhas_any bs H.1 ls hb.s (by omega) s l2 fun c hc => hl _ (.tail _ (.tail _ (.tail _ (List.mem_append_left _ (hb.m1 c hc)))))) rfl rfl rfl ?_
  cases oks : okD H.1 s with
  | false =>
    rw [show childH H p s c = (3, H) by unfold childH; rw [if_pos (.inr oks)]]
    refine pzU ?_
    refine gzU ?_
    exact k_ret [] rfl hret (by exact zRes) ⟨rfl, _, hq0, rfl⟩
  | true =>
  have e0 : childH H p s c = if someC c = false then (5, H) else if (atD H.1 p).kind = 0 then (10, H) else if (atD H.1 s).kind ≠ 0 then (11, H) else (0, (putD H.1 s c, (Tr.childD H.2 p s).2)) := by unfold childH; rw [if_neg (by rw [okp, oks]; decide)]
  rw [e0]
  refine pzU ?_
  refine gzU ?_
  refine t_q (q_call rfl rfl fun l2 hl => rsome_any c hw l2) rfl rfl rfl ?_
  cases hsc : someC c with
  | false =>
    rw [if_pos rfl]
    refine gzU ?_
    exact k_ret [] rfl hret (by exact zRes) ⟨rfl, _, hq0, rfl⟩
  | true =>
  rw [if_neg (by decide)]
  refine gzU ?_
  refine t_q (q_call rfl rfl fun l2 hl => rcap_any b H lq hq0 z1 p l2 fun c hc => hl _ (.tail _ (.tail _ (.tail _ (List.mem_append_left _ hc))))) rfl rfl rfl ?_
  rw [get_1 p okp]
  by_cases hp : (atD H.1 p).kind = 0
  · rw [if_pos hp]
    refine gzU ?_
    exact k_ret [] rfl hret (by exact zRes) ⟨rfl, _, hq0, rfl⟩
  rw [if_neg hp]
  refine gzU ?_
  refine t_q (q_call rfl rfl fun l2 hl => rcap_any b H lq hq0 z1 s l2 fun c hc => hl _ (.tail _ (.tail _ (.tail _ (List.mem_append_left _ hc))))) rfl rfl rfl ?_
  rw [get_1 s oks]
  by_cases hw2 : (atD H.1 s).kind ≠ 0
  · rw [if_pos hw2]
    refine gzU ?_
    exact k_ret [] rfl hret (by exact zRes) ⟨rfl, _, hq0, rfl⟩
  rw [if_neg hw2]
  obtain ⟨rfl, hs, ht⟩ := hb
  obtain ⟨X, hX⟩ : ∃ X, X = [capC b7 c, slC b6 s, slC b5 p, rhoC b bs bt] := ⟨_, rfl⟩
  have H1 := Fn.mvP (fun A => X ++ (A ++ (lt ++ G))) (rset_any bs H.1 ls hs (by omega) s c hw.guard (X ++ (lt ++ G)))
  have H2 := fun ls => Fn.mvP (fun A => X ++ (ls ++ (A ++ G))) (Tr.rchild_any bt H.2 lt ht (by omega) z3 p s (X ++ (ls ++ G)))
  rw [set_ok oks (some_c hsc).1] at H1
  rw [hX] at H1 H2
  simp only [List.cons_append, List.append_assoc, List.nil_append] at H1 H2 ⊢
  refine gzU ?_
  refine c_draw [(0, true), (1, true), (2, true), (3, true), (4, true), (5, true), (6, false)] [[], [0], [0, 1], [0, 1, 2], [], [], [0, 1, 2, 3, 4, 5]] ([capC b7 c, slC b6 s, rhoC b bs bt]) (by kernel_rfl) (by kernel_rfl) zAtt zHR ?_
  refine pzU ?_
  apply pl_e
  · exact e_call rfl rfl H1
  · rfl
  · rfl
  · rfl
  · rintro _ _ ⟨_, ls', _, rfl⟩
    exact zHR
  rintro _ _ ⟨rfl, ls', hs', rfl⟩
  refine pzU ?_
  refine gzU ?_
  refine c_draw [(0, true), (1, true), (2, true), (3, true), (4, true), (5, true), (6, false)] [[], [0], [0, 1], [0, 1, 2], [], [], [0, 1, 2, 3, 4, 5]] ([slC b6 s, slC b5 p, rhoC b bs bt]) (by kernel_rfl) (by kernel_rfl) zAtt zHR ?_
  refine pzU ?_
  apply pl_e
  · exact e_call rfl rfl (H2 ls')
  · rfl
  · rfl
  · rfl
  · rintro _ _ ⟨_, lt', _, rfl⟩
    exact zHR
  rintro _ _ ⟨rfl, lt', ht', rfl⟩
  refine pzU ?_
  refine gzU ?_
  exact k_ret [] rfl (l' := (rhoC b bs bt :: (ls' ++ lt')) ++ G) (.drop (.drop (.drop (.of_perm (.of_eq (by simp)))))) (by exact zRes) ⟨rfl, _, ⟨bs, bt, ls', lt', rfl, hs', ht'⟩, rfl⟩
theorem rfrom_any (b : Nat) (H : HS) (lq : List Chunk) (hq : IsRH b H lq) (hn : H.1.length ≤ 2000) (a c : slT) (l : List Chunk) (hsub : ∀ c, c ∈ lq → c ∈ l) :
    Fn Tryz.prog 113 [.pointer (some ⟨b, 0, none⟩), .agg (List.toArray (encT a)), .agg (List.toArray (encT c))] l fun v l' => v = .int .i64 (fromE H a c) ∧ l' = l := by
  have hq0 := hq
  obtain ⟨bs, bt, ls, lt, hb⟩ := hq
  have hm : rhoC b bs bt ∈ l := hsub _ hb.h
  refine fn_of_body Tryz.func113 rfl rfl fun E => ?_
  simp only [argF, Tryz.ntmps113]
  refine gzU ?_
  (first | refine t_e (e_box1 rfl rfl) rfl rfl rfl ?_ | refine t_e (e_boxA rfl) rfl rfl rfl ?_); rintro _ _ ⟨b4, _, rfl, rfl⟩
  refine gzU ?_
  (first | refine t_e (e_box1 rfl rfl) rfl rfl rfl ?_ | refine t_e (e_boxA rfl) rfl rfl rfl ?_); rintro _ _ ⟨b5, _, rfl, rfl⟩
  refine gzU ?_
  refine c_draw [(0, true), (1, true), (2, true), (3, true), (4, true), (5, true), (6, true), (7, true), (8, true), (9, true), (10, true), (11, true), (12, true), (13, true), (14, true), (15, true)] [[], [0], [0, 1], [0, 1, 2], [], [0, 1, 2, 3, 4], [0, 1, 2, 3, 4, 5], [0, 1, 2, 3, 4, 5, 6], [0, 1, 2, 3, 4, 5, 6, 7], [0, 1, 2, 3, 4, 5, 6, 7, 8], [0, 1, 2, 3, 4, 5, 6, 7, 8, 9], [0, 1, 2, 3, 4, 5, 6, 7, 8, 9, 10], [0, 1, 2, 3, 4, 5, 6, 7], [0, 1, 2, 3, 4, 5, 6, 7, 8, 9, 10, 11, 12], [0, 1, 2, 3, 4, 5, 6, 7, 8, 9, 10, 11, 12, 13], [0, 1, 2, 3, 4, 5, 6, 7, 8, 9, 10, 11, 12, 13, 14]] (slC b5 c :: slC b4 a :: l) (by kernel_rfl) (by kernel_rfl) zAtt zHR ?_
  refine pzU ?_
  refine pl_h (q_call rfl rfl fun l2 hl => rhas_any bs H.1 ls hb.s (by omega) a l2 fun c hc => hl _ (.tail _ (.tail _ (hsub _ (hb.m1 c hc))))) rfl rfl rfl ?_
  cases oka : okD H.1 a with
  | false =>
    rw [show fromE H a c = 3 by unfold fromE; rw [if_pos (.inl oka)]]
    refine pzU ?_
    refine gzU ?_
    exact k_ret [] rfl (.drop (.drop .refl)) (by exact zRes) ⟨rfl, rfl⟩
  | true =>
  refine pzU ?_
  refine pl_h (q_call rfl rfl fun l2 hl => rhas_any bs H.1 ls hb.s (by omega) c l2 fun c hc => hl _ (.tail _ (.tail _ (hsub _ (hb.m1 c hc))))) rfl rfl rfl ?_
  cases okc : okD H.1 c with
  | false =>
    rw [show fromE H a c = 3 by unfold fromE; rw [if_pos (.inr okc)]]
    refine pzU ?_
    refine gzU ?_
    exact k_ret [] rfl (.drop (.drop .refl)) (by exact zRes) ⟨rfl, rfl⟩
  | true =>
  have e0 : fromE H a c = if (atD H.1 a).kind = 0 then 10 else if (atD H.1 c).kind ≠ 0 then 11 else 0 := by unfold fromE; rw [if_neg (by rw [oka, okc]; decide)]
  rw [e0]
  refine pzU ?_
  refine gzU ?_
  refine t_q (q_call rfl rfl fun l2 hl => rcap_any b H lq hq0 hn a l2 fun c hc => hl _ (.tail _ (.tail _ (hsub c hc)))) rfl rfl rfl ?_
  rw [get_1 a oka]
  by_cases hp : (atD H.1 a).kind = 0
  · rw [if_pos hp]
    refine gzU ?_
    exact k_ret [] rfl (.drop (.drop .refl)) (by exact zRes) ⟨rfl, rfl⟩
  rw [if_neg hp]
  refine gzU ?_
  refine t_q (q_call rfl rfl fun l2 hl => rcap_any b H lq hq0 hn c l2 fun c hc => hl _ (.tail _ (.tail _ (hsub c hc)))) rfl rfl rfl ?_
  rw [get_1 c okc]
  by_cases hw2 : (atD H.1 c).kind ≠ 0
  · rw [if_pos hw2]
    refine gzU ?_
    exact k_ret [] rfl (.drop (.drop .refl)) (by exact zRes) ⟨rfl, rfl⟩
  rw [if_neg hw2]
  refine gzU ?_
  exact k_ret [] rfl (.drop (.drop .refl)) (by exact zRes) ⟨rfl, rfl⟩
theorem rhcopy_any (b : Nat) (H : HS) (n : Nat) (hI : InvH H n) (hn : n ≤ 1000) (lq : List Chunk) (hq : IsRH b H lq) (a c : slT) (mask : Int) (G : List Chunk) :
    Fn Tryz.prog 105 [.pointer (some ⟨b, 0, none⟩), .agg (List.toArray (encT a)), .agg (List.toArray (encT c)), .int .i64 mask] (lq ++ G) fun v l' => v = .int .i64 (derH H a c (copyC (atD H.1 a) mask)).1 ∧ ∃ lq', IsRH b (derH H a c (copyC (atD H.1 a) mask)).2 lq' ∧ l' = lq' ++ G := by
  obtain ⟨z1, z2, z3⟩ := hI.small hn
  refine fn_of_body Tryz.func105 rfl rfl fun E => ?_
  simp only [argF, Tryz.ntmps105]
  refine gzU ?_
  (first | refine t_e (e_box1 rfl rfl) rfl rfl rfl ?_ | refine t_e (e_boxA rfl) rfl rfl rfl ?_); rintro _ _ ⟨b5, _, rfl, rfl⟩
  refine gzU ?_
  (first | refine t_e (e_box1 rfl rfl) rfl rfl rfl ?_ | refine t_e (e_boxA rfl) rfl rfl rfl ?_); rintro _ _ ⟨b6, _, rfl, rfl⟩
  refine gzU ?_
  refine t_q (q_call rfl rfl fun l2 hl => rfrom_any b H lq hq z1 a c l2 fun c hc => hl _ (.tail _ (.tail _ (List.mem_append_left _ hc)))) rfl rfl rfl ?_
  by_cases hf : fromE H a c ≠ 0
  · rw [show derH H a c (copyC (atD H.1 a) mask) = (fromE H a c, H) by unfold derH; rw [if_pos hf]]
    refine gzU ?_
    exact k_ret [] rfl (.drop (.drop .refl)) (by exact zRes) ⟨rfl, _, hq, rfl⟩
  have hf0 : fromE H a c = 0 := by simpa using hf
  have oka := (from_0 hf0).1
  have e0 : derH H a c (copyC (atD H.1 a) mask) = if (copyC (atD H.1 a) mask).2 ≠ 0 then ((copyC (atD H.1 a) mask).2, H) else childH H a c (copyC (atD H.1 a) mask).1 := by unfold derH; rw [if_neg hf]
  rw [e0, hf0]
  refine gzU ?_
  refine t_q (q_call rfl rfl fun l2 hl => rcap_any b H lq hq z1 a l2 fun c hc => hl _ (.tail _ (.tail _ (List.mem_append_left _ hc)))) rfl rfl rfl ?_
  rw [get_1 a oka]
  refine gzU ?_
  refine t_q (q_call rfl rfl fun l2 hl => copyseisinref14_any (atD H.1 a) (hI.at a).2 mask l2) rfl rfl rfl ?_
  have hwr := copy_w (hI.at a).2 mask
  obtain ⟨d, hd0⟩ : ∃ d, (copyC (atD H.1 a) mask).1 = d := ⟨_, rfl⟩
  obtain ⟨e, he0⟩ : ∃ e, (copyC (atD H.1 a) mask).2 = e := ⟨_, rfl⟩
  rw [hd0] at hwr
  rw [hd0, he0]
  by_cases he : e ≠ 0
  · rw [if_pos he]
    refine gzU ?_
    refine t_e e_alloc rfl rfl rfl ?_; rintro _ _ ⟨b10, _, rfl, rfl⟩
    refine gzU ?_
    exact k_ret [] rfl (.drop (.drop (.drop .refl))) (by exact zRes) ⟨rfl, _, hq, rfl⟩
  rw [if_neg he]
  refine gzU ?_
  refine t_e e_alloc rfl rfl rfl ?_; rintro _ _ ⟨b10, _, rfl, rfl⟩
  refine gzU ?_
  refine t_e (e_call rfl rfl (Fn.mvP (fun A => capC b10 d :: slC b6 c :: slC b5 a :: (A ++ G)) (rhchild_any b H n hI hn lq hq a c d hwr (capC b10 d :: slC b6 c :: slC b5 a :: G)))) rfl rfl rfl ?_
  rintro _ _ ⟨rfl, lq', hq', rfl⟩
  refine gzU ?_
  exact k_ret [] rfl (l' := lq' ++ G) (.drop (.drop (.drop .refl))) (by exact zRes) ⟨rfl, _, hq', rfl⟩
theorem rhmint_any (b : Nat) (H : HS) (n : Nat) (hI : InvH H n) (hn : n ≤ 1000) (lq : List Chunk) (hq : IsRH b H lq) (a c : slT) (mask : Int) (data : Nat) (hd : data < 18446744073709551616) (G : List Chunk) :
    Fn Tryz.prog 38 [.pointer (some ⟨b, 0, none⟩), .agg (List.toArray (encT a)), .agg (List.toArray (encT c)), .int .i64 mask, .int .u64 (data : Nat)] (lq ++ G) fun v l' => v = .int .i64 (derH H a c (mintC (atD H.1 a) mask data)).1 ∧ ∃ lq', IsRH b (derH H a c (mintC (atD H.1 a) mask data)).2 lq' ∧ l' = lq' ++ G := by
  obtain ⟨z1, z2, z3⟩ := hI.small hn
  refine fn_of_body Tryz.func38 rfl rfl fun E => ?_
  simp only [argF, Tryz.ntmps38]
  refine gzU ?_
  (first | refine t_e (e_box1 rfl rfl) rfl rfl rfl ?_ | refine t_e (e_boxA rfl) rfl rfl rfl ?_); rintro _ _ ⟨b5, _, rfl, rfl⟩
  refine gzU ?_
  (first | refine t_e (e_box1 rfl rfl) rfl rfl rfl ?_ | refine t_e (e_boxA rfl) rfl rfl rfl ?_); rintro _ _ ⟨b6, _, rfl, rfl⟩
  refine gzU ?_
  refine t_q (q_call rfl rfl fun l2 hl => rfrom_any b H lq hq z1 a c l2 fun c hc => hl _ (.tail _ (.tail _ (List.mem_append_left _ hc)))) rfl rfl rfl ?_
  by_cases hf : fromE H a c ≠ 0
  · rw [show derH H a c (mintC (atD H.1 a) mask data) = (fromE H a c, H) by unfold derH; rw [if_pos hf]]
    refine gzU ?_
    exact k_ret [] rfl (.drop (.drop .refl)) (by exact zRes) ⟨rfl, _, hq, rfl⟩
  have hf0 : fromE H a c = 0 := by simpa using hf
  have oka := (from_0 hf0).1
  have e0 : derH H a c (mintC (atD H.1 a) mask data) = if (mintC (atD H.1 a) mask data).2 ≠ 0 then ((mintC (atD H.1 a) mask data).2, H) else childH H a c (mintC (atD H.1 a) mask data).1 := by unfold derH; rw [if_neg hf]
  rw [e0, hf0]
  refine gzU ?_
  refine t_q (q_call rfl rfl fun l2 hl => rcap_any b H lq hq z1 a l2 fun c hc => hl _ (.tail _ (.tail _ (List.mem_append_left _ hc)))) rfl rfl rfl ?_
  rw [get_1 a oka]
  refine gzU ?_
  refine t_q (q_call rfl rfl fun l2 hl => rmint_any (atD H.1 a) (hI.at a).2 mask data hd l2) rfl rfl rfl ?_
  have hwr := mint_w (hI.at a).2 mask data
  obtain ⟨d, hd0⟩ : ∃ d, (mintC (atD H.1 a) mask data).1 = d := ⟨_, rfl⟩
  obtain ⟨e, he0⟩ : ∃ e, (mintC (atD H.1 a) mask data).2 = e := ⟨_, rfl⟩
  rw [hd0] at hwr
  rw [hd0, he0]
  by_cases he : e ≠ 0
  · rw [if_pos he]
    refine gzU ?_
    refine t_e e_alloc rfl rfl rfl ?_; rintro _ _ ⟨b10, _, rfl, rfl⟩
    refine gzU ?_
    exact k_ret [] rfl (.drop (.drop (.drop .refl))) (by exact zRes) ⟨rfl, _, hq, rfl⟩
  rw [if_neg he]
  refine gzU ?_
  refine t_e e_alloc rfl rfl rfl ?_; rintro _ _ ⟨b10, _, rfl, rfl⟩
  refine gzU ?_
  refine t_e (e_call rfl rfl (Fn.mvP (fun A => capC b10 d :: slC b6 c :: slC b5 a :: (A ++ G)) (rhchild_any b H n hI hn lq hq a c d hwr (capC b10 d :: slC b6 c :: slC b5 a :: G)))) rfl rfl rfl ?_
  rintro _ _ ⟨rfl, lq', hq', rfl⟩
  refine gzU ?_
  exact k_ret [] rfl (l' := lq' ++ G) (.drop (.drop (.drop .refl))) (by exact zRes) ⟨rfl, _, hq', rfl⟩
end Go.Proofs.YtcjknmpogkofpaaGreat
