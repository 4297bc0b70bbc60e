/- Chapter 15's own answer: Set, Drop. Chapter 15's own answer: Add. Chapter 15's own answer: Used. The statements' helpers for lists of structs. Rows of numbers told by a function. The tree as plain data and its blocks: nodes told by a function of their block; New, of. The tree: a node put behind another one. The tree: the two iterators. The tree: the links below one. Laws that the statement's proof leans on. -/
import Derived.Test.YtpplknmmjlgadaaGreatGz4
import Derived.Test.YtpplknmmjlgadaaGreatGz6
import Derived.Test.YtpplknmmjlgadaaGreatGz3
/- Chapter 15's own answer: Set, Drop. -/
set_option linter.unusedVariables false
set_option linter.unusedSimpArgs false
namespace Go.Proofs.YtpplknmmjlgadaaGreat
open Go.RowKit
set_option maxRecDepth 20000

theorem ncs_app (A B : List NdS) : ncs (A ++ B) = ncs A ++ ncs B := List.flatMap_append
theorem ncs_l (A : List NdS) : (ncs A).length = A.length * 2 := by
  induction A with
  | nil => rfl
  | cons x r ih => rw [show x :: r = [x] ++ r from rfl, ncs_app, List.length_append, ih, List.length_append, Nat.add_mul]; rfl
theorem ncs_ones {S : List NdS} : ∀ u ∈ ncs S, u.oneCell' = true := fun u hu => by
  obtain ⟨x, _, hx⟩ := List.mem_flatMap.1 hu
  simp only [encN, List.mem_cons, List.not_mem_nil, or_false] at hx
  rcases hx with rfl | rfl <;> rfl
theorem encN_ones (x : NdS) : ∀ u ∈ encN x, u.oneCell' = true := fun u hx => by
  simp only [encN, List.mem_cons, List.not_mem_nil, or_false] at hx
  rcases hx with rfl | rfl <;> rfl
theorem ncs_fst {A B : List NdS} {sp : List Value} {j : Nat} {u : Value} (h : (ncs A)[j]? = some u) : (List.toArray (ncs (A ++ B) ++ sp))[0 + j]? = some u := by
  have hl := (List.getElem?_eq_some_iff.1 h).1
  rw [Nat.zero_add, List.getElem?_toArray, ncs_app, List.append_assoc, List.getElem?_append_left hl]; exact h
theorem ncs_snd {A B : List NdS} {sp : List Value} {j : Nat} {u : Value} (h : (ncs B)[j]? = some u) : (List.toArray (ncs (A ++ B) ++ sp))[A.length * 2 + j]? = some u := by
  have hl := (List.getElem?_eq_some_iff.1 h).1
  rw [List.getElem?_toArray, ncs_app, List.append_assoc, List.getElem?_append_right (by rw [ncs_l]; omega), ncs_l, Nat.add_sub_cancel_left, List.getElem?_append_left hl]; exact h
theorem asc_repl {A B : List NdS} {x y : NdS} (h : (A ++ x :: B).Pairwise fun x y => x.id < y.id) (hk : y.id = x.id) : (A ++ y :: B).Pairwise fun x y => x.id < y.id := by
  obtain ⟨h2, h3, h4⟩ := List.pairwise_append.1 h
  obtain ⟨h5, h6⟩ := List.pairwise_cons.1 h3
  refine List.pairwise_append.2 ⟨h2, List.pairwise_cons.2 ⟨fun z hz => by rw [hk]; exact h5 z hz, h6⟩, fun z hz w hw => ?_⟩
  rcases List.mem_cons.1 hw with rfl | hw
  · rw [hk]; exact h4 z hz x List.mem_cons_self
  · exact h4 z hz w (List.mem_cons_of_mem _ hw)
theorem asc_cut {A B : List NdS} {x : NdS} (h : (A ++ x :: B).Pairwise fun x y => x.id < y.id) : (A ++ B).Pairwise fun x y => x.id < y.id :=
  h.sublist (List.Sublist.append_left (List.sublist_cons_self _ _) _)
theorem keep_drop15 (x : Chunk) (c2 cs A B G : List Chunk) (y : Chunk) : Keep (c2 ++ (x :: (cs ++ (A ++ y :: B) ++ G))) ((x :: (c2 ++ (A ++ B))) ++ G) := by
  refine Keep.trans (.of_perm List.perm_middle) ?_
  refine Keep.trans (l := x :: (c2 ++ ((A ++ y :: B) ++ G))) ?_ ?_
  · exact ⟨cs, by
      have h : (c2 ++ (cs ++ (A ++ y :: B) ++ G)).Perm (cs ++ (c2 ++ ((A ++ y :: B) ++ G))) := by
        rw [List.append_assoc]; exact List.perm_append_comm_assoc _ _ _
      exact (h.cons x).trans List.perm_middle.symm⟩
  · obtain ⟨X, hX⟩ := keep_cut A B G y
    refine ⟨X, ?_⟩
    have h1 : (x :: (c2 ++ ((A ++ y :: B) ++ G))).Perm (x :: (c2 ++ (X ++ ((A ++ B) ++ G)))) := (hX.append_left c2).cons x
    refine h1.trans ?_
    have h2 : (x :: (c2 ++ (X ++ ((A ++ B) ++ G)))).Perm (X ++ (x :: (c2 ++ ((A ++ B) ++ G)))) := by
      have := (List.perm_append_comm_assoc c2 X ((A ++ B) ++ G)).cons x
      exact this.trans List.perm_middle.symm
    refine h2.trans (.of_eq ?_)
    simp
set_option pp.deepTerms false
set_option pp.deepTerms.threshold 4
set_option maxHeartbeats 400000
theorem rset_any (b : Nat) (D : SD) (lr : List Chunk) (hr : IsR b D lr) (hn : D.length ≤ 900000) (s : slT) (c : CapT) (hg : c.guard ≤ 9223372036854775807) (G : List Chunk) :
    Fn Tryz.prog 80 [.pointer (some ⟨b, 0, none⟩), .agg (List.toArray (encT s)), .agg (List.toArray (encC c))] (lr ++ G) fun v l' => v = .int .i64 (setD D s c).1 ∧ ∃ lr', IsR b (setD D s c).2 lr' ∧ l' = lr' ++ G := by
  have hr0 := hr
  obtain ⟨S, v, cs, rfl, hS⟩ := hr
  have hn2 : S.length ≤ 900000 := by simpa using hn
  refine fn_of_body Tryz.func80 rfl rfl fun E => ?_
  simp only [argF, Tryz.ntmps80]
  refine gz ?_
  (first | refine t_e (e_box1 rfl rfl) rfl rfl rfl ?_ | refine t_e (e_boxA rfl) rfl rfl rfl ?_); rintro _ _ ⟨b4, _, rfl, rfl⟩
  refine gz ?_
  (first | refine t_e (e_box1 rfl rfl) rfl rfl rfl ?_ | refine t_e (e_boxA rfl) rfl rfl rfl ?_); rintro _ _ ⟨b5, _, rfl, rfl⟩
  refine gz ?_
  refine t_q (q_call rfl rfl fun l2 hl => rhas_any b _ lr hr0 hn s l2 fun x hx => hl x (.tail _ (.tail _ (List.mem_append_left _ hx)))) rfl rfl rfl ?_
  cases hok : okD (S.map NdS.d) s with
  | false =>
    rw [show setD (S.map NdS.d) s c = (3, S.map NdS.d) by unfold setD; rw [hok]; rfl]
    refine gz ?_
    exact k_ret [] rfl (.drop (.drop .refl)) (by exact zRes) ⟨rfl, _, hr0, rfl⟩
  | true =>
    cases hM : mayC c with
    | false =>
      rw [show setD (S.map NdS.d) s c = (5, S.map NdS.d) by unfold setD; rw [hok, hM]; rfl]
      refine gz ?_
      refine t_q (q_call rfl rfl fun l2 _ => rmay_any c l2) rfl rfl rfl ?_
      rw [may_eq c hg, hM]
      refine gz ?_
      exact k_ret [] rfl (.drop (.drop .refl)) (by exact zRes) ⟨rfl, _, hr0, rfl⟩
    | true =>
      rw [show setD (S.map NdS.d) s c = (0, putD (S.map NdS.d) s c) by unfold setD; rw [hok, hM]; rfl]
      refine gz ?_
      refine t_q (q_call rfl rfl fun l2 _ => rmay_any c l2) rfl rfl rfl ?_
      rw [may_eq c hg, hM]
      obtain ⟨nd, k, x, hf, hk, hx, hat⟩ := ok_split hok
      obtain ⟨A, B, hL, hi, ht, hA, hAt⟩ := idx_of hf
      have hlA : A.length < S.length := (List.getElem?_eq_some_iff.1 hAt).1
      have hkl : k < nd.C.length := (List.getElem?_eq_some_iff.1 hx).1
      obtain ⟨g1, g2⟩ := ccs_at hx
      obtain ⟨s1, s2⟩ := s
      simp only at hk hf hi ht
      subst hk
      subst ht
      have hRS : RowSl cs v 2 encN S := OwnSl.rowSl (enc := encN) hS.own (fun _ => rfl) fun c hc => hc
      obtain ⟨p, cap, rfl, hR⟩ := hRS
      obtain ⟨bB, off, xs, ty, fz, rfl, hmr, hcx⟩ := hR (by omega)
      obtain ⟨j1, j2⟩ := hcx _ nd hAt
      obtain ⟨k0, k1⟩ := ncs_at j2 j1
      obtain ⟨T, hT⟩ : ∃ T, T = capC b5 c :: slC b4 (nd.id, ((k : Nat) : Int)) :: rxC b (.slice (some ⟨bB, off, none⟩) S.length cap) :: cs := ⟨_, rfl⟩
      have q1 : capC b5 c ∈ T := by rw [hT]; exact .head _
      have q2 : slC b4 (nd.id, ((k : Nat) : Int)) ∈ T := by rw [hT]; exact .tail _ (.head _)
      have q3 : rxC b (.slice (some ⟨bB, off, none⟩) S.length cap) ∈ T := by rw [hT]; exact .tail _ (.tail _ (.head _))
      have q4 : (bB, Obj.cells xs ty fz) ∈ T := by rw [hT]; exact .tail _ (.tail _ (.tail _ hmr))
      have hSm : S.map NdS.blk = A.map NdS.blk ++ nd.blk :: B.map NdS.blk := by rw [hL, List.map_append, List.map_cons]
      have hlr : ∀ x, x ∈ lr → x ∈ T ++ (A.map NdS.blk ++ nd.blk :: (B.map NdS.blk ++ G)) := fun x hx => by
        rw [hS.eq, hSm] at hx
        rw [hT]
        rcases List.mem_cons.1 hx with rfl | hx
        · exact .tail _ (.tail _ (.head _))
        · refine .tail _ (.tail _ (.tail _ ?_))
          rcases List.mem_append.1 hx with hx | hx
          · exact List.mem_append_left _ hx
          · refine List.mem_append_right _ ?_
            rcases List.mem_append.1 hx with hx | hx
            · exact List.mem_append_left _ hx
            · refine List.mem_append_right _ ?_
              rcases List.mem_cons.1 hx with rfl | hx
              · exact .head _
              · exact .tail _ (List.mem_append_left _ hx)
      refine gz ?_
      refine c_keep (Keep.of_perm (l' := T ++ (A.map NdS.blk ++ nd.blk :: (B.map NdS.blk ++ G))) (.of_eq (by rw [hT, hS.eq, hSm]; simp))) ?_
      refine c_draw [(0, true), (1, true), (2, true), (3, true), (4, true), (5, true), (6, true), (7, true), (8, true), (9, true), (10, true), (11, true), (12, true), (13, true), (14, true), (15, false)] [[], [0], [0, 1], [0, 1, 2], [], [], [5], [4, 5, 6], [0, 1, 2, 3, 4, 5, 6, 7], [0, 1, 2, 3, 4, 5, 6, 7, 8], [0, 1, 2, 3, 4, 5, 6, 7, 8, 9], [], [11], [], [0, 1, 2, 3, 4, 5, 6, 7, 8, 9, 10, 11, 12, 13], [0, 1, 2, 3, 4, 5, 6, 7, 8, 9, 10, 11, 12, 13, 14]] (T) (by kernel_rfl) (by kernel_rfl) zAtt (fun x hx => List.mem_append_left _ hx) ?_
      refine pz ?_
      apply pl_s (S := lr)
      · exact q_call rfl rfl fun l2 hl => rat_any b S _ cs lr hS hn2 nd.id l2 hl
      · exact hlr
      · rfl
      · rfl
      · rfl
      rw [hi]
      refine pz ?_
      apply pl_nS
      · exact e_storeA (b := nd.gb) (off := k * 8) (cs := List.toArray (ccs nd.C)) (n := 8) rfl rfl rfl (by simp [Value.oneCell']) (upd_pre (upd_mid _ _ _ _ _) T) g2
      · rfl
      · rfl
      · rintro _ _ ⟨rfl, rfl⟩ x hx; exact List.mem_append_left _ hx
      · exact fun _ _ _ x hx ha => anc_all (by kernel_rfl) hx ha
      rintro _ _ ⟨rfl, rfl⟩
      rw [show setFrom (List.toArray (ccs nd.C)) (k * 8) (List.toArray (encC c)).toList = List.toArray (ccs (nd.C.set k c)) from set_ccs hx]
      refine pz ?_
      refine gz ?_
      obtain ⟨nd', hnd'⟩ : ∃ nd' : NdS, nd' = { nd with C := nd.C.set k c } := ⟨_, rfl⟩
      have hS' : (A ++ nd' :: B).map NdS.blk = A.map NdS.blk ++ nd'.blk :: B.map NdS.blk := by rw [List.map_append, List.map_cons]
      have hncs : ncs (A ++ nd' :: B) = ncs S := by
        rw [hL]
        show (A ++ nd' :: B).flatMap encN = (A ++ nd :: B).flatMap encN
        rw [List.flatMap_append, List.flatMap_append, List.flatMap_cons, List.flatMap_cons]
        rw [show encN nd' = encN nd by rw [hnd']; simp [encN, NdS.val]]
      have hlen : (A ++ nd' :: B).length = S.length := by rw [hL]; simp
      refine k_ret [] rfl (l' := (rxC b (.slice (some ⟨bB, off, none⟩) S.length cap) :: (cs ++ (A ++ nd' :: B).map NdS.blk)) ++ G) ?_ (by exact zRes) ⟨rfl, _, ⟨A ++ nd' :: B, _, cs, ?_, rfl, ?_, ?_, ?_⟩, rfl⟩
      · rw [hT, hS', hnd']
        simp only [List.cons_append, List.append_assoc]
        exact .drop (.drop .refl)
      · rw [hL, put_d (by rw [← hL]; exact hS.asc), hnd']
      · rw [hncs, hlen]; exact hS.own
      · exact asc_repl (by rw [← hL]; exact hS.asc) (by rw [hnd'])
      · intro y hy
        have h1 := hS.sz
        rw [hL] at h1
        rcases List.mem_append.1 hy with hy | hy
        · exact h1 y (List.mem_append_left _ hy)
        · rcases List.mem_cons.1 hy with rfl | hy
          · have := h1 nd (List.mem_append_right _ List.mem_cons_self)
            rw [hnd']; simpa using this
          · exact h1 y (List.mem_append_right _ (.tail _ hy))
def ValD (D : SD) : Prop := ∀ x, x ∈ D → ∀ c, c ∈ x.2 → c.kind = 0 → c = capZ
set_option maxRecDepth 20000 in
theorem rdrop_any (b : Nat) (D : SD) (lr : List Chunk) (hr : IsR b D lr) (hn : D.length ≤ 900000) (hV : ValD D) (a : Int) (G : List Chunk) :
    Fn Tryz.prog 46 [.pointer (some ⟨b, 0, none⟩), .int .i64 a] (lr ++ G) fun v l' => v = .int .i64 (dropN D a).1 ∧ ∃ lr', IsR b (dropN D a).2 lr' ∧ l' = lr' ++ G := by
  have hr0 := hr
  obtain ⟨S, v, cs, rfl, hS⟩ := hr
  have hn2 : S.length ≤ 900000 := by simpa using hn
  refine fn_of_body Tryz.func46 rfl rfl fun E => ?_
  simp only [argF, Tryz.ntmps46]
  refine gz ?_
  refine t_q (q_call rfl rfl fun l2 hl => rat_any b S _ cs lr hS hn2 a l2 fun c hc => hl c (List.mem_append_left _ hc)) rfl rfl rfl ?_
  cases hf : findK NdS.id S a with
  | none =>
    rw [idx_neg hf, show dropN (S.map NdS.d) a = (2, S.map NdS.d) by unfold dropN; rw [find_d, hf]; rfl]
    refine gz ?_
    exact k_ret [] rfl .refl (by exact zRes) ⟨rfl, _, hr0, rfl⟩
  | some nd =>
    obtain ⟨hmem, hid⟩ := findK_some hf
    have hsz := hS.sz nd hmem
    obtain ⟨A, B, hL, hi, ht, hA, hAt⟩ := idx_of hf
    have hlA : A.length < S.length := (List.getElem?_eq_some_iff.1 hAt).1
    have hV2 : ∀ c, c ∈ nd.C → c.kind = 0 → c = capZ := fun c hc => hV nd.d (List.mem_map.2 ⟨nd, hmem, rfl⟩) c hc
    rw [hi]
    obtain ⟨p, cap, hv, hm, hR⟩ := hS.view (l := lr ++ G) fun c hc => List.mem_append_left _ hc
    obtain ⟨bB, off, xs, ty, fz, rfl, hmr, hcx⟩ := hR (by omega)
    obtain ⟨k0, k1, _⟩ := hcx _ nd hAt
    have hmb : nd.blk ∈ lr ++ G := List.mem_append_left _ (hS.m3 hmem)
    refine gz ?_
    refine k_loop (α := Nat) (fun k => [(0, .pointer (some ⟨b, 0, none⟩)), (1, .int .i64 a), (5, .int .i64 (A.length : Nat)), (6, .int .i64 k)]) (fun _ => lr ++ G) (fun k => k ≤ nd.C.length ∧ ∀ c, c ∈ nd.C.take k → c = capZ) (fun k => nd.C.length - k) 0 ⟨Nat.zero_le _, by simp⟩ ⟨rfl, rfl, rfl, rfl, trivial⟩ .refl ?_
    rintro k ⟨hk, hz⟩
    by_cases hlt : k < nd.C.length
    · obtain ⟨c, hc⟩ : ∃ c, nd.C[k]? = some c := ⟨_, List.getElem?_eq_getElem hlt⟩
      obtain ⟨g1, g2⟩ := ccs_at hc
      have gk : (List.toArray (ccs nd.C))[k * 8]? = some (.int .i64 c.kind) := by
        have e2 : (List.toArray (encC c))[0]? = (encC c)[0]? := by simp
        have : (List.toArray (ccs nd.C))[k * 8 + 0]? = (encC c)[0]? := by rw [← e2, ← g1, Array.getElem?_extract, if_pos (by omega)]
        exact this
      refine gz ?_
      by_cases hk0 : c.kind = 0
      · have hcz := hV2 c (List.mem_of_getElem? hc) hk0
        refine gz ?_
        refine k_next (k + 1) ⟨by omega, fun x hx => ?_⟩ (by omega) ⟨rfl, rfl, rfl, rfl, trivial⟩ .refl
        rw [List.take_add_one, hc] at hx
        rcases List.mem_append.1 hx with hx | hx
        · exact hz x hx
        · have : x = c := by simpa using hx
          rw [this]; exact hcz
      · rw [show dropN (S.map NdS.d) a = (16, S.map NdS.d) by
          unfold dropN
          rw [find_d, hf]
          simp only [Option.map_some]
          rw [if_neg fun h => by
            have h2 := eqC_iff.1 (List.all_eq_true.1 h c (List.mem_of_getElem? hc))
            exact hk0 (by rw [h2])]]
        refine gz ?_
        exact k_ret [] rfl .refl (by exact zRes) ⟨rfl, _, hr0, rfl⟩
    · obtain rfl : k = nd.C.length := by omega
      rw [List.take_length] at hz
      have hall : nd.C.all (fun c => eqC c capZ) = true := List.all_eq_true.2 fun c hc => eqC_iff.2 (hz c hc)
      rw [show dropN (S.map NdS.d) a = (0, (S.map NdS.d).filter fun x => decide (x.1 ≠ a)) by
          unfold dropN
          rw [find_d, hf]
          simp only [Option.map_some]
          rw [if_pos hall]]
      have hfil : S.filter (fun x => decide (x.id ≠ a)) = A ++ B := by rw [hL]; exact drop_split (by rw [← hL]; exact hS.asc) hid
      have hlS : S.length = A.length + 1 + B.length := by rw [hL]; simp; omega
      rcases hS.own.2 with ⟨h9, h0, _⟩ | ⟨gb, cap2, sp, h9, hcs, hnc, hcm, hcl⟩
      · omega
      refine gz ?_
      subst h9
      cases hv
      have hn1 : ∀ j u, (ncs A)[j]? = some u → (List.toArray (ncs S ++ sp))[0 + j]? = some u := fun j u h => by rw [hL]; exact ncs_fst h
      have hn2 : ∀ j u, (ncs B)[j]? = some u → (List.toArray (ncs S ++ sp))[(A.length + 1) * 2 + j]? = some u := fun j u h => by
        rw [hL, show A ++ nd :: B = (A ++ [nd]) ++ B by simp, show A.length + 1 = (A ++ [nd]).length by simp]; exact ncs_snd h
      obtain ⟨off', hoff⟩ : ∃ o, (if cap = A.length + 1 then 0 else 0 + (A.length + 1) * 2) = o := ⟨_, rfl⟩
      have hn3 : ∀ j u, (ncs B)[j]? = some u → (List.toArray (ncs S ++ sp))[off' + j]? = some u := fun j u h => by
        have := (List.getElem?_eq_some_iff.1 h).1
        rw [ncs_l] at this
        rw [← hoff, if_neg (by omega), Nat.zero_add]; exact hn2 j u h
      have hm2 : (bB, Obj.cells (List.toArray (ncs S ++ sp)) 113 (0, 0)) ∈ lr ++ G := List.mem_append_left _ (hS.m2 (by rw [hcs]; exact .head _))
      refine c_draw [(0, true), (1, true), (2, true), (3, true), (4, true), (5, true), (6, true), (8, true), (9, true), (10, true), (11, true), (12, true), (13, true), (14, true), (7, false), (15, false), (16, true), (17, true), (18, false)] [[], [], [1], [1, 2], [1, 2, 3], [], [1, 2, 3, 4, 5], [1, 2, 3, 4, 5, 6], [], [8], [8, 9], [8, 9, 10], [], [12], [8, 9, 10, 11, 12, 13], [1, 2, 3, 4, 5, 6, 7, 8, 9, 10, 11, 12, 13, 14], [0, 1, 2, 3, 4, 5, 6, 7, 8, 9, 10, 11, 12, 13, 14, 15], [0, 1, 2, 3, 4, 5, 6, 7, 8, 9, 10, 11, 12, 13, 14, 15, 16], [0, 1, 2, 3, 4, 5, 6, 7, 8, 9, 10, 11, 12, 13, 14, 15, 16, 17]] ([]) (by kernel_rfl) (by kernel_rfl) zAtt (fun c hc => by cases hc) ?_
      refine pz ?_
      apply pl_s (S := [rxC b (.slice (some ⟨bB, 0, none⟩) S.length cap)]); (· exact zLd); (· exact sing_mem (hm)); (· rfl); (· rfl); (· rfl)
      refine pz ?_
      apply pl_q
      · exact q_slice (l0 := 0) (h0 := A.length) (m0 := cap) (off' := 0) (n' := A.length) (c' := cap) rfl .none (.some rfl (by omega) rfl) .none (by simp) (by omega) (by omega) (by omega) (by simp) (by omega) (by omega)
      · rfl
      · rfl
      · rfl
      refine pz ?_
      apply pl_s (S := [rxC b (.slice (some ⟨bB, 0, none⟩) S.length cap)]); (· exact zLd); (· exact sing_mem (hm)); (· rfl); (· rfl); (· rfl)
      refine pz ?_
      apply pl_q
      · exact q_slice (l0 := A.length + 1) (h0 := S.length) (m0 := cap) (off' := off') (n' := B.length) rfl (.some rfl (by omega) (by omega)) .none .none (by simp) (by omega) (by omega) (by omega) hoff (by omega) rfl
      · rfl
      · rfl
      · rfl
      refine pz ?_
      apply pl_eS
      · exact ce_append (k := 2) (e := 113) (m := A.length) (xs := []) (cs := []) (F := lr ++ G) (news := ncs A) (cl := List.toArray (ncs S ++ sp)) rfl rfl rfl (OwnSl.nil _ _) hm2 hn1 (ncs_l A) ncs_ones (by unfold maxLen; omega) (by omega)
      · rfl
      · rfl
      · rfl
      · intro _ _ _ c hc; cases hc
      · rintro _ _ ⟨c1, _, rfl⟩ x hx _ c hc
        refine List.mem_append_right _ ?_
        cases hx with
        | head => rw [List.mem_singleton.1 hc]; exact hm
        | tail _ hx => rw [List.mem_singleton.1 hx] at hc; rw [List.mem_singleton.1 hc]; exact hm
      rintro v1 _ ⟨c1, ho1, rfl⟩
      rw [List.nil_append, Nat.zero_add] at ho1
      refine pz ?_
      apply pl_eS
      · exact ce_append (k := 2) (e := 113) (m := B.length) (xs := ncs A) (cs := c1) (F := lr ++ G) (news := ncs B) (cl := List.toArray (ncs S ++ sp)) rfl rfl rfl ho1 (List.mem_append_right _ hm2) hn3 (ncs_l B) ncs_ones (by unfold maxLen; omega) (by omega)
      (· rfl); (· rfl); (· rfl); (· intro _ _ _ c hc; cases hc); (· exact fun _ _ _ x hx ha => anc_all (by kernel_rfl) hx ha)
      rintro v2 _ ⟨c2, ho2, rfl⟩
      have hv2 : v2.oneCell' = true := ho2.one
      refine pz ?_
      have hSm : S.map NdS.blk = A.map NdS.blk ++ nd.blk :: B.map NdS.blk := by rw [hL, List.map_append, List.map_cons]
      rw [hS.eq, hSm]
      simp only [List.cons_append]
      apply pl_nS
      · exact e_store (b := b) (off := 0) (l' := c2 ++ (rxC b v2 :: (cs ++ (A.map NdS.blk ++ nd.blk :: B.map NdS.blk) ++ G))) rfl rfl hv2 (upd_pre .here c2) (by simp)
      (· rfl); (· rfl); (· intro _ _ _ c hc; cases hc); (· exact fun _ _ _ x hx ha => anc_all (by kernel_rfl) hx ha)
      rintro _ _ ⟨rfl, rfl⟩
      refine pz ?_
      refine gz ?_
      rw [← ncs_app] at ho2
      refine k_ret [] rfl (l' := (rxC b v2 :: (c2 ++ (A ++ B).map NdS.blk)) ++ G) ?_ (by exact zRes) ⟨rfl, _, ⟨A ++ B, v2, c2, by rw [← filter_d, hfil], rfl, by rw [List.length_append]; exact ho2, asc_cut (by rw [← hL]; exact hS.asc), ?_⟩, rfl⟩
      · rw [List.map_append]
        exact keep_drop15 _ c2 cs (A.map NdS.blk) (B.map NdS.blk) G nd.blk
      · intro x hx
        refine hS.sz x ?_
        rw [hL]
        rcases List.mem_append.1 hx with hx | hx
        · exact List.mem_append_left _ hx
        · exact List.mem_append_right _ (.tail _ hx)
end Go.Proofs.YtpplknmmjlgadaaGreat

/- Chapter 15's own answer: Add. -/
set_option linter.unusedVariables false
set_option linter.unusedSimpArgs false
namespace Go.Proofs.YtpplknmmjlgadaaGreat
open Go.RowKit
set_option maxRecDepth 20000

theorem ncs_snoc (S : List NdS) (x : NdS) : ncs (S ++ [x]) = ncs S ++ encN x := by simp [ncs]
theorem ins_asc {α : Type} {key : α → Int} {L : List α} {t : α} (h : L.Pairwise fun x y => key x < key y) (hn : findK key L (key t) = none) : (insK key L t).Pairwise fun x y => key x < key y := by
  obtain ⟨W, Z, e1, e2, hL, hall, hgt⟩ := ins_split h (findK_none.1 hn)
  have hi : insK key L t = W ++ t :: Z := by unfold insK; rw [e1, e2]
  rw [hL, List.pairwise_append] at h
  rw [hi]
  refine List.pairwise_append.2 ⟨h.1, List.pairwise_cons.2 ⟨fun x hx => hgt x hx, h.2.1⟩, fun x hx y hy => ?_⟩
  have h1 := hall x hx
  rcases List.mem_cons.1 hy with rfl | hy
  · exact h1
  · have := hgt y hy; omega
theorem keep_add16 (x y : Chunk) (cv cs W Z G : List Chunk) : Keep (cv ++ (y :: (x :: (cs ++ (W ++ Z) ++ G)))) ((x :: (cv ++ (W ++ y :: Z))) ++ G) := by
  refine ⟨cs, ?_⟩
  have e1 : (cv ++ (y :: (x :: (cs ++ (W ++ Z) ++ G)))) = cv ++ ([y] ++ ([x] ++ (cs ++ (W ++ (Z ++ G))))) := by simp
  have e2 : (cs ++ ((x :: (cv ++ (W ++ y :: Z))) ++ G)) = cs ++ ([x] ++ (cv ++ (W ++ ([y] ++ (Z ++ G))))) := by simp
  rw [e1, e2]
  have h1 : (cv ++ ([y] ++ ([x] ++ (cs ++ (W ++ (Z ++ G)))))).Perm (cv ++ ([x] ++ (cs ++ (W ++ ([y] ++ (Z ++ G)))))) := by
    refine List.Perm.append_left cv ?_
    refine (List.perm_append_comm_assoc [y] [x] _).trans (List.Perm.append_left [x] ?_)
    refine (List.perm_append_comm_assoc [y] cs _).trans (List.Perm.append_left cs ?_)
    exact List.perm_append_comm_assoc [y] W _
  refine h1.trans ?_
  refine (List.perm_append_comm_assoc cv [x] _).trans ?_
  have h2 : ([x] ++ (cv ++ (cs ++ (W ++ ([y] ++ (Z ++ G)))))).Perm ([x] ++ (cs ++ (cv ++ (W ++ ([y] ++ (Z ++ G)))))) := (List.perm_append_comm_assoc cv cs _).append_left [x]
  exact h2.trans (List.perm_append_comm_assoc [x] cs _)
set_option pp.deepTerms false
set_option pp.deepTerms.threshold 4
set_option maxHeartbeats 400000
theorem radd_any (b : Nat) (D : SD) (lr : List Chunk) (hr : IsR b D lr) (hn : D.length ≤ 900000) (id n : Int) (G : List Chunk) :
    Fn Tryz.prog 32 [.pointer (some ⟨b, 0, none⟩), .int .i64 id, .int .i64 n] (lr ++ G) fun v l' => v = .int .i64 (addN D id n).1 ∧ ∃ lr', IsR b (addN D id n).2 lr' ∧ l' = lr' ++ G := by
  have hr0 := hr
  obtain ⟨S, v, cs, rfl, hS⟩ := hr
  have hn2 : S.length ≤ 900000 := by simpa using hn
  refine fn_of_body Tryz.func32 rfl rfl fun E => ?_
  simp only [argF, Tryz.ntmps32]
  by_cases h1 : id < 1
  · rw [show addN (S.map NdS.d) id n = (2, S.map NdS.d) by unfold addN; rw [if_pos (.inl h1)]]
    refine gz ?_
    exact k_ret [] rfl .refl (by exact zRes) ⟨rfl, _, hr0, rfl⟩
  by_cases h2 : n < 1
  · rw [show addN (S.map NdS.d) id n = (2, S.map NdS.d) by unfold addN; rw [if_pos (.inr (.inl h2))]]
    refine gz ?_
    exact k_ret [] rfl .refl (by exact zRes) ⟨rfl, _, hr0, rfl⟩
  by_cases h3 : 16 < n
  · rw [show addN (S.map NdS.d) id n = (2, S.map NdS.d) by unfold addN; rw [if_pos (.inr (.inr h3))]]
    refine gz ?_
    exact k_ret [] rfl .refl (by exact zRes) ⟨rfl, _, hr0, rfl⟩
  have h123 : ¬ (id < 1 ∨ n < 1 ∨ 16 < n) := by omega
  obtain ⟨k, rfl⟩ : ∃ k : Nat, n = (k : Nat) := ⟨n.toNat, by omega⟩
  refine gz ?_
  refine t_q (q_call rfl rfl fun l2 hl => rat_any b S _ cs lr hS hn2 id l2 fun c hc => hl c (List.mem_append_left _ hc)) rfl rfl rfl ?_
  cases hf : findK NdS.id S id with
  | some nd =>
    obtain ⟨A, B, hL, hi, ht, hA, hAt⟩ := idx_of hf
    rw [hi, show addN (S.map NdS.d) id (k : Nat) = (11, S.map NdS.d) by unfold addN; rw [if_neg h123, find_d, hf]; rfl]
    refine gz ?_
    exact k_ret [] rfl .refl (by exact zRes) ⟨rfl, _, hr0, rfl⟩
  | none =>
    rw [idx_neg hf, show addN (S.map NdS.d) id (k : Nat) = (0, insK Prod.fst (S.map NdS.d) (id, List.replicate k capZ)) by unfold addN; rw [if_neg h123, find_d, hf]; rfl]
    obtain ⟨W, Z, eW, eZ, hL, hWa, hZa⟩ := ins_split hS.asc (findK_none.1 hf)
    obtain ⟨ndN, hndN⟩ : ∃ ndN : Nat → NdS, ndN = fun gb => ⟨id, List.replicate k capZ, gb⟩ := ⟨_, rfl⟩
    have hencN : ∀ gb, encN (ndN gb) = [.int .i64 id, .slice (some ⟨gb, 0, none⟩) k k] := fun gb => by rw [hndN]; simp [encN, NdS.val]
    have hblk : ∀ gb, (gb, Obj.cells (List.toArray (ccs (List.replicate k capZ))) 33 (0, 0)) = (ndN gb).blk := fun gb => by rw [hndN]
    obtain ⟨R, hR⟩ : ∃ R : Nat → List NdS, R = fun gb => W ++ ndN gb :: Z := ⟨_, rfl⟩
    have hins : ∀ gb, insK NdS.id S (ndN gb) = R gb := fun gb => by
      rw [hR]; unfold insK
      rw [show (ndN gb).id = id by rw [hndN], eW, eZ]
    have hlR : ∀ gb, (R gb).length = S.length + 1 := fun gb => by rw [hR, hL]; simp; omega
    have hlL : S.length = W.length + Z.length := by rw [hL]; simp
    obtain ⟨p, cap, rfl, hm, hRS⟩ := hS.view (l := lr ++ G) fun c hc => List.mem_append_left _ hc
    obtain ⟨cnt, hcnt⟩ : ∃ cnt : Nat → Nat, cnt = fun i => if i ≤ W.length then i else i + 1 := ⟨_, rfl⟩
    obtain ⟨F, hF⟩ : ∃ F, F = lr ++ G := ⟨_, rfl⟩
    have hfin : ∀ (gb : Nat) (w : Value) (cw : List Chunk), OwnSl 113 2 w (R gb).length (ncs (R gb)) cw → ∃ lr', IsR b (insK Prod.fst (S.map NdS.d) (id, List.replicate k capZ)) lr' ∧ (rxC b w :: (cw ++ (R gb).map NdS.blk)) ++ G = lr' ++ G := fun gb w cw hw => by
      refine ⟨_, ⟨R gb, w, cw, ?_, rfl, hw, ?_, ?_⟩, rfl⟩
      · rw [← hins gb, ins_map (key' := Prod.fst) (fun x => rfl), hndN]
      · rw [← hins gb]; exact ins_asc hS.asc (by rw [hndN]; exact hf)
      · intro x hx
        rw [← hins gb] at hx
        rcases mem_ins.1 hx with rfl | hx
        · rw [hndN]; simp; omega
        · exact hS.sz x hx
    rw [← hF] at hm hRS ⊢
    refine gz ?_
    refine k_loop (α := Nat × Value × List Chunk × Nat) (fun x => [(0, .pointer (some ⟨b, 0, none⟩)), (1, .int .i64 id), (2, .int .i64 (k : Nat)), (7, x.2.1), (8, .bool (decide (W.length < x.1))), (9, .int .i64 x.1)]) (fun x => x.2.2.1 ++ ((if W.length < x.1 then [(ndN x.2.2.2).blk] else []) ++ F)) (fun x => x.1 ≤ S.length ∧ OwnSl 113 2 x.2.1 ((R x.2.2.2).take (cnt x.1)).length (ncs ((R x.2.2.2).take (cnt x.1))) x.2.2.1) (fun x => S.length - x.1) (0, .slice none 0 0, [], 0) ⟨Nat.zero_le _, by rw [hcnt]; exact OwnSl.nil _ _⟩ ⟨rfl, rfl, rfl, rfl, by rw [decide_eq_false (show ¬ W.length < 0 by omega)]; rfl, rfl, trivial⟩ .refl ?_
    rintro ⟨i, w, cv, gb⟩ ⟨hi, hw⟩
    dsimp only at hi hw ⊢
    by_cases hlt : i < S.length
    · obtain ⟨bB, off, xs, ty, fz, rfl, hmr, hc⟩ := hRS (by omega)
      obtain ⟨x, hx⟩ : ∃ x, S[i]? = some x := ⟨_, List.getElem?_eq_getElem hlt⟩
      obtain ⟨g0, _, g1, g2⟩ := hc i x hx
      rcases Nat.lt_trichotomy i W.length with k1 | k1 | k1
      · have hxa : x.id < id := hWa x (List.mem_of_getElem? (i := i) (by rw [hL, List.getElem?_append_left k1] at hx; exact hx))
        have hc1 : cnt (i + 1) = cnt i + 1 := by rw [hcnt]; simp only; rw [if_pos (by omega), if_pos (by omega)]
        have hRi : (R gb)[cnt i]? = some x := by
          rw [hcnt, hR]; simp only; rw [if_pos (by omega), List.getElem?_append_left k1]
          rw [hL, List.getElem?_append_left k1] at hx; exact hx
        rw [decide_eq_false (show ¬ W.length < i by omega), if_neg (show ¬ W.length < i by omega), List.nil_append]
        have hm3 : rxC b (.slice (some ⟨bB, off, none⟩) S.length cap) ∈ cv ++ F := List.mem_append_right _ hm
        have hmr5 : (bB, Obj.cells xs ty fz) ∈ cv ++ F := List.mem_append_right _ hmr
        refine gz ?_
        refine t_q (q_loadA rfl hmr5 g1 g2) rfl rfl rfl ?_
        refine gz ?_
        refine t_e (e_litA (k := 2) (e := 113) (ws := encN x) rfl rfl rfl (by decide) (by decide)) rfl rfl rfl ?_
        rintro _ _ ⟨bl, _, rfl, rfl⟩
        refine t_e (e_appX (k := 2) (X := []) (cs := cv) (F := F) (xs := ncs ((R gb).take (cnt i))) (n := ((R gb).take (cnt i)).length) (ws := encN x) rfl rfl rfl hw rfl (encN_ones x) (by rw [List.length_take, hlR]; omega) (by decide)) rfl rfl rfl ?_
        rintro w2 _ ⟨cv2, hw2, rfl⟩
        have hw9 : w2.oneCell' = true := hw2.one
        refine gz ?_
        refine k_next (i + 1, w2, cv2, gb) ⟨by simp only; omega, ?_⟩ (by simp only; omega) ⟨rfl, rfl, rfl, rfl, by rw [decide_eq_false (show ¬ W.length < i + 1 by omega)]; rfl, rfl, trivial⟩ (by simp only; rw [if_neg (show ¬ W.length < i + 1 by omega)]; exact .refl)
        simp only
        rw [hc1, List.take_add_one, hRi, Option.toList_some, ncs_snoc, List.length_append]; exact hw2
      · have hxa : id < x.id := hZa x (List.mem_of_getElem? (i := 0) (by rw [hL, List.getElem?_append_right (by omega), show i - W.length = 0 by omega] at hx; exact hx))
        have hc1 : cnt (i + 1) = cnt i + 1 + 1 := by rw [hcnt]; simp only; rw [if_neg (by omega), if_pos (by omega)]
        have hci : cnt i = W.length := by rw [hcnt]; simp only; rw [if_pos (by omega)]; exact k1
        have hRi : ∀ gb, (R gb)[cnt i]? = some (ndN gb) := fun gb => by
          rw [hci, hR]; simp only; rw [List.getElem?_append_right (by omega), Nat.sub_self]; rfl
        have hRj : ∀ gb, (R gb)[cnt i + 1]? = some x := fun gb => by
          rw [hci, hR]; simp only; rw [List.getElem?_append_right (by omega), show W.length + 1 - W.length = 0 + 1 by omega, List.getElem?_cons_succ]
          rw [hL, List.getElem?_append_right (by omega), show i - W.length = 0 by omega] at hx; exact hx
        have htk : ∀ gb', (R gb').take (cnt i) = (R gb).take (cnt i) := fun gb' => by
          rw [hci, hR]; simp only; rw [List.take_left' rfl, List.take_left' rfl]
        rw [decide_eq_false (show ¬ W.length < i by omega), if_neg (show ¬ W.length < i by omega), List.nil_append]
        have hm3 : rxC b (.slice (some ⟨bB, off, none⟩) S.length cap) ∈ cv ++ F := List.mem_append_right _ hm
        have hmr5 : (bB, Obj.cells xs ty fz) ∈ cv ++ F := List.mem_append_right _ hmr
        refine gz ?_
        refine t_e (e_makeSlice (n := k) (kk := 8) (xs := ccs (List.replicate k capZ)) rfl rfl (by omega) (by omega) (by decide) (ccs_zero k)) rfl rfl rfl ?_
        rintro _ _ ⟨gn, hgn, rfl, rfl⟩
        rw [hblk gn]
        refine gz ?_
        refine t_e (e_litA (k := 2) (e := 113) (ws := [.int .i64 id, .slice (some ⟨gn, 0, none⟩) k k]) rfl rfl rfl (by decide) (by decide)) rfl rfl rfl ?_
        rintro _ _ ⟨bl, _, rfl, rfl⟩
        refine t_e (e_appX (k := 2) (X := [(ndN gn).blk]) (cs := cv) (F := F) (xs := ncs ((R gb).take (cnt i))) (n := ((R gb).take (cnt i)).length) (ws := [.int .i64 id, .slice (some ⟨gn, 0, none⟩) k k]) rfl rfl rfl hw rfl (by simp [Value.oneCell']) (by rw [List.length_take, hlR]; omega) (by decide)) rfl rfl rfl ?_
        rintro w1 _ ⟨cv1, hw1, rfl⟩
        have hw8 : w1.oneCell' = true := hw1.one
        simp only [List.cons_append, List.nil_append]
        have hm6 : rxC b (.slice (some ⟨bB, off, none⟩) S.length cap) ∈ cv1 ++ F := List.mem_append_right _ hm
        have hmr6 : (bB, Obj.cells xs ty fz) ∈ cv1 ++ F := List.mem_append_right _ hmr
        refine gz ?_
        refine t_q (q_loadA rfl (.tail _ hmr6) g1 g2) rfl rfl rfl ?_
        refine gz ?_
        refine t_e (e_litA (k := 2) (e := 113) (ws := encN x) rfl rfl rfl (by decide) (by decide)) rfl rfl rfl ?_
        rintro _ _ ⟨bl2, _, rfl, rfl⟩
        refine t_e (e_appX (k := 2) (X := [(ndN gn).blk]) (cs := cv1) (F := F) (xs := ncs ((R gb).take (cnt i)) ++ [.int .i64 id, .slice (some ⟨gn, 0, none⟩) k k]) (n := ((R gb).take (cnt i)).length + 1) (ws := encN x) rfl rfl rfl hw1 rfl (encN_ones x) (by rw [List.length_take, hlR]; omega) (by decide)) rfl rfl rfl ?_
        rintro w2 _ ⟨cv2, hw2, rfl⟩
        have hw9 : w2.oneCell' = true := hw2.one
        refine gz ?_
        refine k_next (i + 1, w2, cv2, gn) ⟨by simp only; omega, ?_⟩ (by simp only; omega) ⟨rfl, rfl, rfl, rfl, by rw [decide_eq_true (show W.length < i + 1 by omega)]; rfl, rfl, trivial⟩ (by simp only; rw [if_pos (show W.length < i + 1 by omega)]; exact .of_perm (List.perm_append_comm_assoc _ _ _))
        simp only
        rw [hc1, List.take_add_one, hRj, List.take_add_one, hRi, Option.toList_some, Option.toList_some, ncs_snoc, ncs_snoc, List.length_append, List.length_append, htk gn, hencN]; exact hw2
      · have hc1 : cnt (i + 1) = cnt i + 1 := by rw [hcnt]; simp only; rw [if_neg (by omega), if_neg (by omega)]
        have hRi : (R gb)[cnt i]? = some x := by
          rw [hcnt, hR]; simp only; rw [if_neg (by omega), List.getElem?_append_right (by omega), show i + 1 - W.length = (i - W.length) + 1 by omega, List.getElem?_cons_succ]
          rw [hL, List.getElem?_append_right (by omega)] at hx; exact hx
        rw [decide_eq_true (show W.length < i by omega), if_pos (show W.length < i by omega)]
        have hm3 : rxC b (.slice (some ⟨bB, off, none⟩) S.length cap) ∈ cv ++ ([(ndN gb).blk] ++ F) := List.mem_append_right _ (.tail _ hm)
        have hmr5 : (bB, Obj.cells xs ty fz) ∈ cv ++ ([(ndN gb).blk] ++ F) := List.mem_append_right _ (.tail _ hmr)
        refine gz ?_
        refine t_q (q_loadA rfl hmr5 g1 g2) rfl rfl rfl ?_
        refine gz ?_
        refine t_e (e_litA (k := 2) (e := 113) (ws := encN x) rfl rfl rfl (by decide) (by decide)) rfl rfl rfl ?_
        rintro _ _ ⟨bl, _, rfl, rfl⟩
        refine t_e (e_appX (k := 2) (X := []) (cs := cv) (F := [(ndN gb).blk] ++ F) (xs := ncs ((R gb).take (cnt i))) (n := ((R gb).take (cnt i)).length) (ws := encN x) rfl rfl rfl hw rfl (encN_ones x) (by rw [List.length_take, hlR]; omega) (by decide)) rfl rfl rfl ?_
        rintro w2 _ ⟨cv2, hw2, rfl⟩
        have hw9 : w2.oneCell' = true := hw2.one
        refine gz ?_
        refine k_next (i + 1, w2, cv2, gb) ⟨by simp only; omega, ?_⟩ (by simp only; omega) ⟨rfl, rfl, rfl, rfl, by rw [decide_eq_true (show W.length < i + 1 by omega)]; rfl, rfl, trivial⟩ (by simp only; rw [if_pos (show W.length < i + 1 by omega)]; exact .refl)
        simp only
        rw [hc1, List.take_add_one, hRi, Option.toList_some, ncs_snoc, List.length_append]; exact hw2
    · obtain rfl : i = S.length := by omega
      have hlr : lr = rxC b (.slice p S.length cap) :: (cs ++ S.map NdS.blk) := hS.eq
      have hpS : ∀ gb, (R gb).map NdS.blk = W.map NdS.blk ++ (ndN gb).blk :: Z.map NdS.blk := fun gb => by rw [hR, List.map_append, List.map_cons]
      have hSm : S.map NdS.blk = W.map NdS.blk ++ Z.map NdS.blk := by rw [hL, List.map_append]
      by_cases hZ0 : W.length < S.length
      · have hcl : cnt S.length = (R gb).length := by rw [hcnt, hlR]; simp only; rw [if_neg (by omega)]
        rw [hcl, List.take_length] at hw
        have hw1 : w.oneCell' = true := hw.one
        rw [decide_eq_true hZ0, if_pos hZ0]
        have hm7 : rxC b (.slice p S.length cap) ∈ cv ++ ([(ndN gb).blk] ++ F) := List.mem_append_right _ (.tail _ hm)
        refine gz ?_
        rw [hF, hlr, hSm]
        simp only [List.cons_append, List.nil_append]
        refine t_n (e_store (b := b) (off := 0) (l' := cv ++ ((ndN gb).blk :: (rxC b w :: (cs ++ (W.map NdS.blk ++ Z.map NdS.blk) ++ G)))) rfl rfl hw1 (upd_pre (.there .here) cv) (by simp)) rfl rfl ?_
        rintro _ _ ⟨rfl, rfl⟩
        refine gz ?_
        refine k_ret [] rfl (l' := (rxC b w :: (cv ++ (R gb).map NdS.blk)) ++ G) ?_ (by exact zRes) ⟨rfl, hfin gb w cv hw⟩
        rw [hpS]; exact keep_add16 _ _ cv cs _ _ G
      · have hcl : cnt S.length = S.length := by rw [hcnt]; simp only; rw [if_pos (by omega)]
        have hRe : ∀ gb', R gb' = (R gb).take S.length ++ [ndN gb'] := fun gb' => by
          have hZn : Z = [] := List.eq_nil_of_length_eq_zero (by omega)
          rw [hR]; simp only; rw [hZn, show S.length = W.length by omega, List.take_left' rfl]
        rw [hcl] at hw
        have hw0 : w.oneCell' = true := hw.one
        rw [decide_eq_false hZ0, if_neg hZ0, List.nil_append]
        have hm7 : rxC b (.slice p S.length cap) ∈ cv ++ F := List.mem_append_right _ hm
        refine gz ?_
        refine t_e (e_makeSlice (n := k) (kk := 8) (xs := ccs (List.replicate k capZ)) rfl rfl (by omega) (by omega) (by decide) (ccs_zero k)) rfl rfl rfl ?_
        rintro _ _ ⟨gn, hgn, rfl, rfl⟩
        rw [hblk gn]
        refine gz ?_
        refine t_e (e_litA (k := 2) (e := 113) (ws := [.int .i64 id, .slice (some ⟨gn, 0, none⟩) k k]) rfl rfl rfl (by decide) (by decide)) rfl rfl rfl ?_
        rintro _ _ ⟨bl, _, rfl, rfl⟩
        refine t_e (e_appX (k := 2) (X := [(ndN gn).blk]) (cs := cv) (F := F) (xs := ncs ((R gb).take S.length)) (n := ((R gb).take S.length).length) (ws := [.int .i64 id, .slice (some ⟨gn, 0, none⟩) k k]) rfl rfl rfl hw rfl (by simp [Value.oneCell']) (by rw [List.length_take, hlR]; omega) (by decide)) rfl rfl rfl ?_
        rintro w1 _ ⟨cv1, hw1, rfl⟩
        have hw8 : w1.oneCell' = true := hw1.one
        simp only [List.cons_append, List.nil_append]
        refine gz ?_
        rw [hF, hlr, hSm]
        simp only [List.cons_append]
        refine t_n (e_store (b := b) (off := 0) (l' := (ndN gn).blk :: (cv1 ++ (rxC b w1 :: (cs ++ (W.map NdS.blk ++ Z.map NdS.blk) ++ G)))) rfl rfl hw8 (.there (upd_pre .here cv1)) (by simp)) rfl rfl ?_
        rintro _ _ ⟨rfl, rfl⟩
        refine gz ?_
        refine k_ret [] rfl (l' := (rxC b w1 :: (cv1 ++ (R gn).map NdS.blk)) ++ G) ?_ (by exact zRes) ⟨rfl, hfin gn w1 cv1 ?_⟩
        · rw [hpS]; exact Keep.trans (.of_perm List.perm_middle.symm) (keep_add16 _ _ cv1 cs _ _ G)
        · rw [hRe gn, List.length_append, ncs_snoc, hencN]; exact hw1
end Go.Proofs.YtpplknmmjlgadaaGreat

/- Chapter 15's own answer: Used. -/
set_option linter.unusedVariables false
set_option linter.unusedSimpArgs false
namespace Go.Proofs.YtpplknmmjlgadaaGreat
open Go.RowKit
set_option maxRecDepth 20000

theorem encE_ones (t : HdT) : ∀ u ∈ encE t, u.oneCell' = true := by simp [Value.oneCell']
theorem eqC_zero {c : CapT} (h : c.kind ≠ 0) : eqC c capZ = false := by
  cases he : eqC c capZ with
  | false => rfl
  | true => exact absurd (by
      have : c = capZ := by simpa [eqC_iff] using he
      rw [this]) h
theorem ext_at {xs : Array Value} {o k j : Nat} {ys : List Value} {v : Value} (h : xs.extract o (o + k) = List.toArray ys) (hle : o + k ≤ xs.size) (hj : j < k) (hv : ys[j]? = some v) : xs[o + j]? = some v := by
  have h2 : (List.toArray ys)[j]? = ys[j]? := by simp
  rw [← hv, ← h2, ← h, Array.getElem?_extract, if_pos (by omega)]
set_option pp.deepTerms false
set_option pp.deepTerms.threshold 4
set_option maxHeartbeats 400000
theorem rused_any (b : Nat) (D : SD) (lr : List Chunk) (hr : IsR b D lr) (hn : D.length ≤ 50000) (hV : ValD D) (l : List Chunk) (hsub : ∀ c, c ∈ lr → c ∈ l) :
    Fn Tryz.prog 48 [.pointer (some ⟨b, 0, none⟩)] l fun v l' => ∃ cs, OwnSl 46 10 v (usedD D).length (hcs (usedD D)) cs ∧ l' = cs ++ l := by
  obtain ⟨S, v0, cs0, rfl, hS⟩ := hr
  have hn2 : S.length ≤ 50000 := by simpa using hn
  have hU := usedD_len (D := S.map NdS.d) fun x hx => by
    obtain ⟨nd, hnd, rfl⟩ := List.mem_map.1 hx
    exact (hS.sz nd hnd).2
  obtain ⟨p, cap, rfl, hm, hR⟩ := hS.view hsub
  refine fn_of_body Tryz.func48 rfl rfl fun E => ?_
  simp only [argF, Tryz.ntmps48]
  refine gz ?_
  refine k_loop (α := Nat × Value × List Chunk) (fun x => [(0, .pointer (some ⟨b, 0, none⟩)), (3, x.2.1), (4, .int .i64 x.1)]) (fun x => x.2.2 ++ l) (fun x => x.1 ≤ S.length ∧ OwnSl 46 10 x.2.1 (usedD ((S.map NdS.d).take x.1)).length (hcs (usedD ((S.map NdS.d).take x.1))) x.2.2) (fun x => S.length - x.1) (0, .slice none 0 0, []) ⟨Nat.zero_le _, OwnSl.nil _ _⟩ ⟨rfl, rfl, rfl, trivial⟩ .refl ?_
  rintro ⟨i, w, cv⟩ ⟨hi, hw⟩
  simp only at hi hw ⊢
  have hm3 : rxC b (.slice p S.length cap) ∈ cv ++ l := List.mem_append_right _ hm
  by_cases hlt : i < S.length
  · obtain ⟨bB, off, xs, ty, fz, rfl, hmr, hc⟩ := hR (by omega)
    obtain ⟨nd, hx⟩ : ∃ nd, S[i]? = some nd := ⟨_, List.getElem?_eq_getElem hlt⟩
    have hmem := List.mem_of_getElem? hx
    obtain ⟨g0, g1, g2, g3⟩ := hc i nd hx
    have hsz := hS.sz nd hmem
    have hdi : (S.map NdS.d)[i]? = some nd.d := by rw [List.getElem?_map, hx]; rfl
    refine gz ?_
    refine k_loop (α := Nat × Value × List Chunk) (fun x => [(0, .pointer (some ⟨b, 0, none⟩)), (3, x.2.1), (4, .int .i64 i), (5, .int .i64 x.1)]) (fun x => x.2.2 ++ l) (fun x => x.1 ≤ nd.C.length ∧ OwnSl 46 10 x.2.1 (usedD ((S.map NdS.d).take i) ++ usedTo nd.id nd.C x.1).length (hcs (usedD ((S.map NdS.d).take i) ++ usedTo nd.id nd.C x.1)) x.2.2) (fun x => nd.C.length - x.1) (0, w, cv) ⟨Nat.zero_le _, by show OwnSl _ _ _ (_ ++ []).length (hcs (_ ++ [])) _; rw [List.append_nil]; exact hw⟩ ⟨rfl, rfl, rfl, rfl, trivial⟩ .refl ?_
    clear hw hm3
    rintro ⟨k, w, cv⟩ ⟨hk, hw⟩
    simp only at hk hw ⊢
    have hm3 : rxC b (.slice (some ⟨bB, off, none⟩) S.length cap) ∈ cv ++ l := List.mem_append_right _ hm
    have hmr5 : (bB, Obj.cells xs ty fz) ∈ cv ++ l := List.mem_append_right _ hmr
    have hml : nd.blk ∈ l := hsub _ (hS.m3 hmem)
    have hmb : nd.blk ∈ cv ++ l := List.mem_append_right _ hml
    by_cases hkl : k < nd.C.length
    · obtain ⟨c, hcc⟩ : ∃ c, nd.C[k]? = some c := ⟨_, List.getElem?_eq_getElem hkl⟩
      obtain ⟨q1, q2⟩ := ccs_at hcc
      have q3 : (List.toArray (ccs nd.C))[k * 8]? = some (.int .i64 c.kind) := ext_at (j := 0) (k := 8) q1 q2 (by omega) rfl
      by_cases hk0 : c.kind = 0
      · have he : eqC c capZ = true := by rw [hV _ (List.mem_map.2 ⟨nd, hmem, rfl⟩) c (List.mem_of_getElem? hcc) hk0]; decide
        refine gz ?_
        exact k_next (k + 1, w, cv) ⟨by simp only; omega, by simp only; rw [usedTo_f hcc he]; exact hw⟩ (by simp only; omega) ⟨rfl, rfl, rfl, rfl, trivial⟩ .refl
      · have he := eqC_zero hk0
        have hpre : (usedD ((S.map NdS.d).take i) ++ usedTo nd.id nd.C k) ++ [((nd.id, ((k : Nat) : Int)), c)] <+: usedD (S.map NdS.d) := by
          rw [List.append_assoc, ← usedTo_t hcc he]
          exact usedD_pre hdi (by show k + 1 ≤ nd.C.length; omega)
        have hll := hpre.length_le
        rw [List.length_append, List.length_singleton] at hll
        refine gz ?_
        refine c_draw [(0, true), (1, true), (2, true), (3, true), (4, true), (5, true), (6, true), (7, true), (8, true), (9, true), (10, true), (11, true), (12, true), (13, true), (14, true), (15, true), (16, true), (17, true), (18, true), (19, true), (20, true), (21, true), (22, true), (23, false), (24, false), (25, true)] [[], [], [1], [1, 2], [1, 2, 3], [], [1, 2, 3, 4, 5], [1, 2, 3, 4, 5, 6], [1, 2, 3, 4, 5, 6, 7], [], [1, 2, 3, 4, 5, 6, 7, 8, 9], [], [11], [11, 12], [11, 12, 13], [], [11, 12, 13, 14, 15], [11, 12, 13, 14, 15, 16], [11, 12, 13, 14, 15, 16, 17], [], [11, 12, 13, 14, 15, 16, 17, 18, 19], [11, 12, 13, 14, 15, 16, 17, 18, 19, 20], [1, 2, 3, 4, 5, 6, 7, 8, 9, 10, 11, 12, 13, 14, 15, 16, 17, 18, 19, 20, 21], [1, 2, 3, 4, 5, 6, 7, 8, 9, 10, 11, 12, 13, 14, 15, 16, 17, 18, 19, 20, 21, 22], [0, 1, 2, 3, 4, 5, 6, 7, 8, 9, 10, 11, 12, 13, 14, 15, 16, 17, 18, 19, 20, 21, 22, 23], [0, 1, 2, 3, 4, 5, 6, 7, 8, 9, 10, 11, 12, 13, 14, 15, 16, 17, 18, 19, 20, 21, 22, 23, 24]] (l) (by kernel_rfl) (by kernel_rfl) zAtt (fun c hc => List.mem_append_right _ hc) ?_
        refine pz ?_
        refine pl_h (q_loadA (n := 8) rfl hml q2 q1) rfl rfl rfl ?_
        refine pz ?_
        apply pl_e
        · exact e_litA (k := 10) (e := 46) (ws := encE ((nd.id, ((k : Nat) : Int)), c)) rfl rfl rfl (by decide) (by decide)
        · rfl
        · rfl
        · rfl
        · rintro _ _ ⟨_, _, _, rfl⟩ x hx; exact .tail _ (List.mem_append_right _ hx)
        rintro _ _ ⟨bl, _, rfl, rfl⟩
        refine pz ?_
        apply pl_e
        · exact e_appX (k := 10) (X := []) (cs := cv) (F := l) (xs := hcs (usedD ((S.map NdS.d).take i) ++ usedTo nd.id nd.C k)) (n := (usedD ((S.map NdS.d).take i) ++ usedTo nd.id nd.C k).length) (ws := encE ((nd.id, ((k : Nat) : Int)), c)) rfl rfl rfl hw rfl (encE_ones _) (by omega) (by decide)
        · rfl
        · rfl
        · rfl
        · rintro _ _ ⟨_, _, rfl⟩ x hx; exact List.mem_append_right _ (List.mem_append_right _ hx)
        rintro w2 _ ⟨cv2, hw2, rfl⟩
        have hw9 : w2.oneCell' = true := hw2.one
        refine pz ?_
        refine gz ?_
        refine k_next (k + 1, w2, cv2) ⟨by simp only; omega, ?_⟩ (by simp only; omega) ⟨rfl, rfl, rfl, rfl, trivial⟩ .refl
        simp only
        rw [usedTo_t hcc he, ← List.append_assoc, hcs_snoc, List.length_append, List.length_singleton]; exact hw2
    · obtain rfl : k = nd.C.length := by omega
      refine gz ?_
      refine k_next (i + 1, w, cv) ⟨by simp only; omega, ?_⟩ (by simp only; omega) ⟨rfl, rfl, rfl, trivial⟩ .refl
      simp only
      rw [List.take_add_one, hdi, usedD_app]
      rw [show usedD (some nd.d).toList = usedTo nd.id nd.C nd.C.length by simp [usedD]]
      exact hw
  · obtain rfl : i = S.length := by omega
    rw [show (S.map NdS.d).take S.length = S.map NdS.d from List.take_of_length_le (by simp)] at hw
    have hw1 : w.oneCell' = true := hw.one
    refine gz ?_
    refine k_ret [] rfl (l' := cv ++ l) .refl (by exact zRes) ?_
    exact ⟨cv, hw, rfl⟩
end Go.Proofs.YtpplknmmjlgadaaGreat

/- The statements' helpers for lists of structs. -/
set_option linter.unusedVariables false
set_option linter.unusedSimpArgs false
namespace Go.Proofs.YtpplknmmjlgadaaGreat
open Go.RowKit
set_option maxRecDepth 20000

abbrev hdK : List (Option IntKind) := some .i64 :: some .i64 :: capK
instance : EQ Tryz.prog 46 hdK := ⟨by kernel_rfl⟩
theorem encE_k (h : HdT) : AllK hdK (encE h) := ⟨_, _, rfl, ⟨_, rfl⟩, _, _, rfl, ⟨_, rfl⟩, encC_k h.2⟩
theorem encE_inj (x y : HdT) (h : encE x = encE y) : x = y := by
  have e : ∀ z : HdT, encE z = [.int .i64 z.1.1, .int .i64 z.1.2] ++ encC z.2 := fun _ => rfl
  rw [e, e] at h
  obtain ⟨h1, h2⟩ := List.append_inj h rfl
  simp only [List.cons.injEq, Value.int.injEq, true_and, and_true] at h1
  exact Prod.ext (Prod.ext h1.1 h1.2) (encC_inj _ _ h2)
set_option pp.deepTerms false
set_option pp.deepTerms.threshold 4
set_option maxHeartbeats 400000 in
set_option maxRecDepth 20000 in
theorem sameHeld_any {α : Type} [DecidableEq α] (enc : α → List Value) (hin : ∀ x y, enc x = enc y → x = y) (hk : ∀ x, AllK hdK (enc x)) (v u : Value) (xs ys : List α) (l : List Chunk) (h1 : RowSl l v 10 enc xs) (h2 : RowSl l u 10 enc ys) (hx : xs.length ≤ 1000000) :
    Fn Tryz.prog 19 [v, u] l fun r l' => r = .bool (decide (xs = ys)) ∧ l' = l := by
  obtain ⟨a, ca, rfl, h1⟩ := h1
  obtain ⟨a', ca', rfl, h2⟩ := h2
  refine fn_of_body Tryz.func19 rfl rfl fun E => ?_
  simp only [argF, Tryz.ntmps19]
  by_cases hl : xs.length = ys.length
  · refine gz ?_
    refine k_loop (α := Nat) (fun k => [(0, .slice a xs.length ca), (1, .slice a' ys.length ca'), (5, .int .i64 k)]) (fun k => l) (fun k => k ≤ xs.length ∧ ∀ j, j < k → xs[j]? = ys[j]?) (fun k => xs.length - k) 0 ⟨Nat.zero_le _, fun j h => by omega⟩ ⟨rfl, rfl, rfl, trivial⟩ .refl ?_
    rintro k ⟨hk2, hj⟩
    by_cases hlt : k < xs.length
    · obtain ⟨b, off, cs, t, fz, rfl, hm, hc⟩ := h1 (by omega)
      obtain ⟨b', off', cs', t', fz', rfl, hm', hc'⟩ := h2 (by omega)
      obtain ⟨x, e1⟩ : ∃ x, xs[k]? = some x := ⟨_, List.getElem?_eq_getElem hlt⟩
      obtain ⟨y, e2⟩ : ∃ y, ys[k]? = some y := ⟨_, List.getElem?_eq_getElem (show k < ys.length by omega)⟩
      obtain ⟨g1, g2⟩ := hc k x e1
      obtain ⟨g1', g2'⟩ := hc' k y e2
      refine gz ?_
      refine c_draw [(0, true), (1, true), (2, true), (3, true), (4, true), (5, true), (6, true), (7, true), (8, true)] [[], [], [0, 1], [0, 1, 2], [], [], [4, 5], [4, 5, 6], [0, 1, 2, 3, 4, 5, 6, 7]] _ (by kernel_rfl) (by kernel_rfl) zAtt (fun _ h => h) ?_
      refine pz ?_
      apply pl_q
      · exact q_loadA rfl hm g1 g2
      · rfl
      · rfl
      · rfl
      refine pz ?_
      apply pl_q
      · exact q_loadA rfl hm' g1' g2'
      · rfl
      · rfl
      · rfl
      refine pz ?_
      apply pl_q
      · exact q_neagg rfl rfl (hk x) (hk y)
      · rfl
      · rfl
      · rfl
      by_cases hxy : x = y
      · rw [show (!eqCells (enc x) (enc y)) = false by rw [hxy, eqCells_self (hk y)]; rfl]
        refine pz ?_
        refine gz ?_
        exact k_next (k + 1) ⟨by omega, fun j hjk => by
          by_cases e : j = k
          · subst e; rw [e1, e2, hxy]
          · exact hj j (by omega)⟩ (by omega) ⟨rfl, rfl, rfl, trivial⟩ .refl
      · rw [show (!eqCells (enc x) (enc y)) = true by
          cases h : eqCells (enc x) (enc y) with
          | false => rfl
          | true => exact absurd (hin _ _ ((eqCells_iff (hk x) (hk y)).1 h)) hxy]
        refine pz ?_
        refine gz ?_
        refine k_ret [] rfl .refl (by exact zRes) ⟨?_, rfl⟩
        rw [show decide (xs = ys) = false from decide_eq_false fun e => by subst e; rw [e1] at e2; exact hxy (by cases e2; rfl)]; rfl
    · obtain rfl : k = xs.length := by omega
      refine gz ?_
      refine k_ret [] rfl .refl (by exact zRes) ⟨?_, rfl⟩
      rw [show decide (xs = ys) = true from decide_eq_true (List.ext_getElem? fun j => by
        by_cases h : j < xs.length
        · exact hj j h
        · rw [List.getElem?_eq_none (by omega), List.getElem?_eq_none (by omega)])]; rfl
  · refine gz ?_
    refine k_ret [] rfl .refl (by exact zRes) ⟨?_, rfl⟩
    rw [show decide (xs = ys) = false from decide_eq_false fun e => hl (by rw [e])]; rfl
set_option pp.deepTerms false
set_option pp.deepTerms.threshold 4
set_option maxHeartbeats 400000 in
set_option maxRecDepth 20000 in
theorem overHeld_any (v : Value) (n : Nat) (xs : List Value) (cs F : List Chunk) (h : OwnSl 46 10 v n xs cs) (hn : n ≤ 1000000) :
    Fn Tryz.prog 53 [v] (cs ++ F) fun r l' => r = .tuple #[] ∧ ∃ X, l' = X ++ F := by
  refine fn_of_body Tryz.func53 rfl rfl fun E => ?_
  simp only [argF, Tryz.ntmps53]
  obtain ⟨hlen, h⟩ := h
  rcases h with ⟨rfl, rfl, rfl⟩ | ⟨gb, cap, sp, rfl, rfl, hnc, hcm, hcl⟩
  · refine gz ?_
    refine k_loop (α := Unit) (fun k => [(0, .slice none 0 0), (2, .int .i64 0)]) (fun k => F) (fun k => True) (fun k => 0) () trivial ⟨rfl, rfl, trivial⟩ .refl ?_
    rintro _ _
    refine gz ?_
    refine t_e (e_litA (k := 10) rfl rfl rfl (by decide) (by decide)) rfl rfl rfl ?_
    rintro _ _ ⟨bl, _, rfl, rfl⟩
    refine t_e (e_appX (k := 10) (X := []) (cs := []) (n := 0) (xs := []) rfl rfl rfl (OwnSl.nil _ _) rfl (by simp [Value.oneCell']) (by omega) (by decide)) rfl rfl rfl ?_
    rintro v' _ ⟨cs', hown', rfl⟩
    have hv1 : v'.oneCell' = true := hown'.one
    refine gz ?_
    exact k_ret [] rfl .refl (by exact zRes) ⟨rfl, cs', rfl⟩
  · simp only [List.cons_append, List.nil_append]
    refine gz ?_
    refine k_loop (α := Nat × Array Value) (fun x => [(0, .slice (some ⟨gb, 0, none⟩) n cap), (2, .int .i64 x.1)]) (fun x => (gb, .cells x.2 46 (0, 0)) :: F) (fun x => x.1 ≤ n ∧ x.2.size = cap * 10) (fun x => n - x.1) (0, (xs ++ sp).toArray) ⟨Nat.zero_le _, by simpa using hcl⟩ ⟨rfl, rfl, trivial⟩ .refl ?_
    rintro ⟨k, ys⟩ ⟨hk, hy⟩
    simp only at hk hy ⊢
    by_cases hlt : k < n
    · refine gz ?_
      refine t_n (e_storeA (cs := ys) (n := 10) rfl rfl rfl (by simp [Value.oneCell']) (by exact zUpd) (by omega)) rfl rfl ?_
      rintro _ _ ⟨rfl, rfl⟩
      generalize hz : setFrom ys _ _ = zs
      refine gz ?_
      exact k_next (k + 1, zs) ⟨by simp only; omega, by simp only; rw [← hz, setFrom_size]; exact hy⟩ (by simp only; omega) ⟨rfl, rfl, trivial⟩ .refl
    · obtain rfl : k = n := by omega
      refine gz ?_
      refine t_e (e_litA (k := 10) rfl rfl rfl (by decide) (by decide)) rfl rfl rfl ?_
      rintro _ _ ⟨bl, _, rfl, rfl⟩
      refine t_e (e_appX (k := 10) (X := []) (cs := [(gb, _)]) (F := F) (n := k) (xs := ys.toList.take (k * 10)) rfl rfl rfl ⟨by simp; omega, .inr ⟨gb, cap, ys.toList.drop (k * 10), rfl, by rw [List.take_append_drop], hnc, hcm, by rw [List.take_append_drop]; simpa using hy⟩⟩ rfl (by simp [Value.oneCell']) (by omega) (by decide)) rfl rfl rfl ?_
      rintro v' _ ⟨cs', hown', rfl⟩
      have hv1 : v'.oneCell' = true := hown'.one
      refine gz ?_
      exact k_ret [] rfl .refl (by exact zRes) ⟨rfl, cs', rfl⟩
theorem ins_len (D : SD) (x : Int × List CapT) : (insK Prod.fst D x).length = D.length + 1 := (ins_perm D x).length_eq
theorem ValD.add {D : SD} (h : ValD D) (id n : Int) : ValD (addN D id n).2 := by
  unfold addN
  split
  · exact h
  split
  · exact h
  intro x hx c hc _
  rcases mem_ins.1 hx with rfl | hx
  · exact List.eq_of_mem_replicate hc
  · exact h x hx c hc (by assumption)
theorem ValD.drop {D : SD} (h : ValD D) (a : Int) : ValD (dropN D a).2 := by
  unfold dropN
  split
  · exact h
  · split
    · exact fun x hx => h x (List.mem_filter.1 hx).1
    · exact h
theorem ValD.set {D : SD} (h : ValD D) (s : slT) (c : CapT) : ValD (setD D s c).2 := by
  unfold setD
  split
  · split
    · rename_i hM
      intro x hx d hd h0
      obtain ⟨y, hy, rfl⟩ := List.mem_map.1 hx
      split at hd
      · rcases List.mem_or_eq_of_mem_set hd with hd | rfl
        · exact h y hy d hd h0
        · exact may_zero hM h0
      · exact h y hy d hd h0
    · exact h
  · exact h
def actX (D : SD) (x : ActS) : SD := if x.1.1 = 0 then (addN D x.2.1.1 x.1.2).2 else if x.1.1 = 1 then (dropN D x.2.1.1).2 else if x.1.1 = 3 then (setD D x.2.1 x.2.2).2 else D
theorem actX_val {D : SD} (h : ValD D) (x : ActS) : ValD (actX D x) := by
  unfold actX
  split
  · exact h.add _ _
  split
  · exact h.drop _
  split
  · exact h.set _ _
  · exact h
theorem actX_len (D : SD) (x : ActS) : (actX D x).length ≤ D.length + 1 := by
  unfold actX
  split
  · unfold addN
    split
    · simp
    split
    · simp
    · rw [ins_len]; simp
  split
  · unfold dropN
    split
    · simp
    · split
      · exact Nat.le_succ_of_le (List.length_filter_le ..)
      · simp
  split
  · unfold setD
    split
    · split
      · simp [putD]
      · simp
    · simp
  · simp
theorem RowSl.mono {α : Type} {l l' : List Chunk} {v : Value} {k : Nat} {enc : α → List Value} {xs : List α} (h : RowSl l v k enc xs) (hs : ∀ c, c ∈ l → c ∈ l') : RowSl l' v k enc xs := by
  obtain ⟨a, cap, h1, h2⟩ := h
  exact ⟨a, cap, h1, fun h0 => by
    obtain ⟨b, off, cs, t, fz, k1, k2, k3⟩ := h2 h0
    exact ⟨b, off, cs, t, fz, k1, hs _ k2, k3⟩⟩
end Go.Proofs.YtpplknmmjlgadaaGreat

/- Rows of numbers told by a function. -/
set_option linter.unusedVariables false
set_option linter.unusedSimpArgs false
namespace Go.Proofs.YtpplknmmjlgadaaGreat
open Go.RowKit

def upd {α : Type} (f : Nat → α) (k : Nat) (v : α) : Nat → α := fun i => if i = k then v else f i
theorem upd_same {α : Type} (f : Nat → α) (k : Nat) (v : α) : upd f k v k = v := if_pos rfl
theorem upd_other {α : Type} (f : Nat → α) (k i : Nat) (v : α) (h : i ≠ k) : upd f k v i = f i := if_neg h
theorem upd_upd {α : Type} (f : Nat → α) (k : Nat) (v w : α) : upd (upd f k v) k w = upd f k w := by funext i; unfold upd; split <;> rfl
/-- f a, f (a + 1), .. (n of them) -/
def seqI (f : Nat → Int) (a n : Nat) : List Int := (List.range n).map fun j => f (a + j)
theorem seqI_len (f : Nat → Int) (a n : Nat) : (seqI f a n).length = n := by simp [seqI]
theorem seqI_succ (f : Nat → Int) (a n : Nat) : seqI f a (n + 1) = seqI f a n ++ [f (a + n)] := by simp [seqI, List.range_succ]
theorem seqI_cons (f : Nat → Int) (a n : Nat) : seqI f a (n + 1) = f a :: seqI f (a + 1) n := by
  simp only [seqI, List.range_succ_eq_map, List.map_cons, List.map_map, Nat.add_zero]
  congr 1
  apply List.map_congr_left
  intro j _
  simp only [Function.comp_apply]; congr 1; omega
theorem seqI_mem {f : Nat → Int} {a n : Nat} {x : Int} (h : x ∈ seqI f a n) : ∃ j, j < n ∧ x = f (a + j) := by
  simp only [seqI, List.mem_map, List.mem_range] at h
  obtain ⟨j, hj, e⟩ := h
  exact ⟨j, hj, e.symm⟩
theorem seqI_congr {f g : Nat → Int} {a n : Nat} (h : ∀ j, j < n → f (a + j) = g (a + j)) : seqI f a n = seqI g a n := by
  unfold seqI; apply List.map_congr_left; intro j hj; exact h j (List.mem_range.1 hj)
abbrev fLo : Nat → Int := fun j => 1 + (j : Int)
end Go.Proofs.YtpplknmmjlgadaaGreat

/- The tree as plain data and its blocks: nodes told by a function of their block; New, of. -/
set_option linter.unusedVariables false
set_option linter.unusedSimpArgs false
namespace Go.Proofs.YtpplknmmjlgadaaGreat.Tr
open Go.RowKit
set_option maxRecDepth 20000

abbrev SlotT := Int × Int
abbrev encT (s : SlotT) : List Value := [.int .i64 s.1, .int .i64 s.2]
theorem encT_ok : EncOk encT [some .i64, some .i64] := ⟨fun a => ⟨_, _, rfl, ⟨_, rfl⟩, _, _, rfl, ⟨_, rfl⟩, rfl⟩, fun a b h => by
  simp only [encT, List.cons.injEq, Value.int.injEq, true_and, and_true] at h
  exact Prod.ext h.1 h.2⟩
structure NdT where
  sl : SlotT
  dp : Int
  pv : Nat
  nx : Nat
abbrev NdT.cells (x : NdT) : List Value := [.int .i64 x.sl.1, .int .i64 x.sl.2, .int .i64 x.dp, .pointer (some ⟨x.pv, 0, none⟩), .pointer (some ⟨x.nx, 0, none⟩)]
abbrev ndC (p : Nat) (x : NdT) : Chunk := (p, .cells (List.toArray x.cells) 131 (0, 0))
def chs (F : Nat → NdT) (all : List Nat) : List Chunk := all.map fun p => ndC p (F p)
theorem chs_mem {F : Nat → NdT} {all : List Nat} {p : Nat} (h : p ∈ all) : ndC p (F p) ∈ chs F all := List.mem_map.2 ⟨p, h, rfl⟩
theorem chs_congr {F F' : Nat → NdT} {all : List Nat} (h : ∀ p, p ∈ all → F p = F' p) : chs F all = chs F' all := List.map_congr_left fun p hp => by rw [h p hp]
theorem chs_upd {F : Nat → NdT} {all : List Nat} {p : Nat} (x : NdT) (hn : all.Nodup) (hp : p ∈ all) : Upd (chs F all) p (ndC p (F p)).2 (ndC p x).2 (chs (upd F p x) all) := by
  induction all with
  | nil => cases hp
  | cons q all ih =>
    rw [List.nodup_cons] at hn
    by_cases e : q = p
    · subst e
      have h1 : chs (upd F q x) all = chs F all := chs_congr fun r hr => upd_other _ _ _ _ fun e => hn.1 (e ▸ hr)
      show Upd (ndC q (F q) :: chs F all) q _ _ (ndC q (upd F q x q) :: chs (upd F q x) all)
      rw [upd_same, h1]
      exact .here
    · rcases List.mem_cons.1 hp with h | h
      · exact absurd h.symm e
      · show Upd (ndC q (F q) :: chs F all) p _ _ (ndC q (upd F p x q) :: chs (upd F p x) all)
        rw [upd_other _ _ _ _ e]
        exact .there (ih hn.2 h)
instance : EQ Tryz.prog 30 [some .i64, some .i64] := ⟨by kernel_rfl⟩
abbrev DT := List (SlotT × Int)
/-- one links to the next and back -/
def Adj (F : Nat → NdT) : List Nat → Prop
  | [] => True
  | [_] => True
  | a :: b :: r => (F a).nx = b ∧ (F b).pv = a ∧ Adj F (b :: r)
abbrev trC (b rb m : Nat) : Chunk := (b, .cells (List.toArray [.pointer (some ⟨rb, 0, none⟩), .map (some m)]) 129 (0, 0))
structure TB (b rb m : Nat) (F : Nat → NdT) (all os : List Nat) (es : List (EntS SlotT)) (clock : Nat) (lq : List Chunk) : Prop where
  eq : lq = trC b rb m :: (m, mapS encT es clock) :: chs F all
  nd : all.Nodup
  rin : rb ∈ all
  sub : ∀ p, p ∈ os → p ∈ all
  ond : (rb :: os).Nodup
  adj : Adj F (rb :: (os ++ [rb]))
  snd : (os.map fun p => (F p).sl).Nodup
  keys : KeysOk es clock
  get : ∀ s, getS s es = (os.find? fun p => decide ((F p).sl = s)).map fun p => .pointer (some ⟨p, 0, none⟩)
def dOf (F : Nat → NdT) (os : List Nat) : DT := os.map fun p => ((F p).sl, (F p).dp)
def IsT (b : Nat) (D : DT) (lq : List Chunk) : Prop := ∃ rb m F all os es clock, dOf F os = D ∧ TB b rb m F all os es clock lq
theorem TB.m1 {b rb m : Nat} {F : Nat → NdT} {all os : List Nat} {es : List (EntS SlotT)} {clock : Nat} {lq : List Chunk} (h : TB b rb m F all os es clock lq) : trC b rb m ∈ lq := by rw [h.eq]; exact .head _
theorem TB.m2 {b rb m : Nat} {F : Nat → NdT} {all os : List Nat} {es : List (EntS SlotT)} {clock : Nat} {lq : List Chunk} (h : TB b rb m F all os es clock lq) : (m, mapS encT es clock) ∈ lq := by rw [h.eq]; exact .tail _ (.head _)
theorem TB.m3 {b rb m : Nat} {F : Nat → NdT} {all os : List Nat} {es : List (EntS SlotT)} {clock : Nat} {lq : List Chunk} (h : TB b rb m F all os es clock lq) {p : Nat} (hp : p ∈ all) : ndC p (F p) ∈ lq := by rw [h.eq]; exact .tail _ (.tail _ (chs_mem hp))
/-- the block of a slot -/
def blk (F : Nat → NdT) (os : List Nat) (s : SlotT) : Option Nat := os.find? fun p => decide ((F p).sl = s)
theorem blk_some {F : Nat → NdT} {os : List Nat} {s : SlotT} {p : Nat} (h : blk F os s = some p) : p ∈ os ∧ (F p).sl = s :=
  ⟨List.mem_of_find?_eq_some h, by have := List.find?_some h; simpa using this⟩
def ptrO : Option Nat → Value
  | some p => .pointer (some ⟨p, 0, none⟩)
  | none => .pointer none
set_option pp.deepTerms false
set_option pp.deepTerms.threshold 4
set_option maxHeartbeats 400000
theorem of_any (b rb m : Nat) (F : Nat → NdT) (all os : List Nat) (es : List (EntS SlotT)) (clock : Nat) (lq : List Chunk) (s : SlotT) (hT : TB b rb m F all os es clock lq) (l : List Chunk) (hsub : ∀ c, c ∈ lq → c ∈ l) :
    Fn Tryz.prog 99 [.pointer (some ⟨b, 0, none⟩), .agg (List.toArray (encT s))] l fun v l' => v = ptrO (blk F os s) ∧ l' = l := by
  have h1 := hsub _ hT.m1
  have h2 := hsub _ hT.m2
  have hg : (getS s es).getD (.pointer none) = ptrO (blk F os s) := by
    rw [hT.get]; unfold blk; cases os.find? fun p => decide ((F p).sl = s) <;> rfl
  refine fn_of_body Tryz.func99 rfl rfl fun E => ?_
  simp only [argF, Tryz.ntmps99]
  refine gz ?_
  refine t_e (e_boxA rfl) rfl rfl rfl ?_
  rintro _ _ ⟨b3, hb3, rfl, rfl⟩
  refine gz ?_
  refine c_draw [(0, true), (1, true), (2, true), (3, true), (4, true), (5, true), (6, true)] [[], [0], [0, 1], [0, 1, 2], [], [0, 1, 2, 3, 4], [0, 1, 2, 3, 4, 5]] _ (by kernel_rfl) (by kernel_rfl) zAtt (fun _ h => h) ?_
  refine pz ?_
  apply pl_q
  · apply q_lookupS (enc := encT) (a := s) (es := es) (clock := clock) (ks := [some .i64, some .i64])
    · rfl
    · rfl
    · exact encT_ok
    · exact .tail _ h2
  · rfl
  · rfl
  · rfl
  rw [hg]
  refine pz ?_
  refine gz ?_
  exact k_ret [] rfl (.drop .refl) (by exact zRes) ⟨rfl, rfl⟩
theorem of_nil (s : SlotT) (l : List Chunk) : Fn Tryz.prog 99 [.pointer none, .agg (List.toArray (encT s))] l fun v l' => v = .pointer none ∧ l' = l := by
  refine fn_of_body Tryz.func99 rfl rfl fun E => ?_
  simp only [argF, Tryz.ntmps99]
  refine gz ?_
  refine t_e (e_boxA rfl) rfl rfl rfl ?_
  rintro _ _ ⟨b3, hb3, rfl, rfl⟩
  refine gz ?_
  exact k_ret [] rfl (.drop .refl) (by exact zRes) ⟨rfl, rfl⟩
theorem new_any (l : List Chunk) : Fn Tryz.prog 73 [] l fun v l' => ∃ b, v = .pointer (some ⟨b, 0, none⟩) ∧ ∃ lq, IsT b [] lq ∧ l' = lq ++ l := by
  refine fn_of_body Tryz.func73 rfl rfl fun E => ?_
  simp only [argF, Tryz.ntmps73]
  refine gz ?_
  refine t_e (e_boxA rfl) rfl rfl rfl ?_
  rintro _ _ ⟨rb, hrb, rfl, rfl⟩
  refine gz ?_
  refine t_e e_makeMap rfl rfl rfl ?_
  rintro _ _ ⟨m, hm, rfl, rfl⟩
  refine gz ?_
  refine t_e (e_boxA rfl) rfl rfl rfl ?_
  rintro _ _ ⟨b, hb, rfl, rfl⟩
  refine gz ?_
  exact k_ret [] rfl .refl (by exact zRes) ⟨b, rfl, [trC b rb m, (m, .map #[] 0), ndC rb ⟨(0, 0), 0, rb, rb⟩], ⟨rb, m, fun _ => ⟨(0, 0), 0, rb, rb⟩, [rb], [], [], 0, rfl, ⟨rfl, by simp, by simp, by simp, by simp, ⟨rfl, rfl, trivial⟩, by simp, ⟨by simp, by simp, by simp⟩, fun s => rfl⟩⟩, rfl⟩
end Go.Proofs.YtpplknmmjlgadaaGreat.Tr

/- The tree: a node put behind another one. -/
set_option linter.unusedVariables false
set_option linter.unusedSimpArgs false
namespace Go.Proofs.YtpplknmmjlgadaaGreat.Tr
open Go.RowKit
set_option maxRecDepth 20000

theorem adj_cons {F : Nat → NdT} {a b : Nat} {r : List Nat} : Adj F (a :: b :: r) ↔ (F a).nx = b ∧ (F b).pv = a ∧ Adj F (b :: r) := Iff.rfl
theorem adj_same {F F' : Nat → NdT} : ∀ {L : List Nat}, Adj F L → (∀ u, u ∈ L.dropLast → (F' u).nx = (F u).nx) → (∀ v, v ∈ L.tail → (F' v).pv = (F v).pv) → Adj F' L
  | [], _, _, _ => trivial
  | [_], _, _, _ => trivial
  | a :: b :: r, ⟨h1, h2, h3⟩, hn, hp => by
    refine ⟨by rw [hn a (by simp [List.dropLast]), h1], by rw [hp b (by simp), h2], adj_same h3 (fun u hu => hn u ?_) fun v hv => hp v ?_⟩
    · simp only [List.dropLast_cons_of_ne_nil (List.cons_ne_nil b r), List.mem_cons]; exact .inr hu
    · simp only [List.tail_cons] at hv ⊢; exact List.mem_cons_of_mem _ hv
theorem adj_insert {F F' : Nat → NdT} {p n x : Nat} {Z : List Nat} : ∀ {X : List Nat}, Adj F (X ++ p :: n :: Z) → (X ++ p :: n :: Z).dropLast.Nodup → (X ++ p :: n :: Z).tail.Nodup → x ∉ X ++ p :: n :: Z →
    (∀ u, u ≠ x → u ≠ p → (F' u).nx = (F u).nx) → (∀ v, v ≠ x → v ≠ n → (F' v).pv = (F v).pv) → (F' p).nx = x → (F' x).pv = p → (F' x).nx = n → (F' n).pv = x → Adj F' (X ++ p :: x :: n :: Z)
  | [], ⟨h1, h2, h3⟩, hs, ht, hx, hn, hp, k1, k2, k3, k4 => by
    refine ⟨k1, k2, k3, k4, adj_same h3 (fun u hu => hn u ?_ ?_) fun v hv => hp v ?_ ?_⟩
    · rintro rfl; exact hx (List.mem_cons_of_mem _ (List.dropLast_subset _ hu))
    · rintro rfl
      have : (u :: (n :: Z).dropLast).Nodup := by simpa using hs
      exact (List.nodup_cons.1 this).1 hu
    · rintro rfl; exact hx (by simp only [List.nil_append, List.mem_cons, List.tail_cons] at hv ⊢; exact .inr (.inr hv))
    · rintro rfl
      have : (v :: Z).Nodup := by simpa using ht
      exact (List.nodup_cons.1 this).1 hv
  | [a], ⟨h1, h2, h3⟩, hs, ht, hx, hn, hp, k1, k2, k3, k4 => by
    have hs1 : (a :: (p :: n :: Z).dropLast).Nodup := by simpa using hs
    have hs2 := List.nodup_cons.1 hs1
    have ht1 : (p :: n :: Z).Nodup := by simpa using ht
    have ht2 := List.nodup_cons.1 ht1
    refine ⟨by rw [hn a (fun e => hx (by simp [e])) (fun e => hs2.1 (by rw [e]; simp [List.dropLast]))]; exact h1, by rw [hp p (fun e => hx (by simp [e])) (fun e => ht2.1 (by rw [e]; simp))]; exact h2, ?_⟩
    exact adj_insert (X := []) h3 hs2.2 ht2.2 (fun h => hx (List.mem_cons_of_mem _ h)) hn hp k1 k2 k3 k4
  | a :: b :: X, ⟨h1, h2, h3⟩, hs, ht, hx, hn, hp, k1, k2, k3, k4 => by
    have hs1 : (a :: ((b :: X) ++ p :: n :: Z).dropLast).Nodup := by
      have : ((a :: b :: X) ++ p :: n :: Z).dropLast = a :: ((b :: X) ++ p :: n :: Z).dropLast := List.dropLast_cons_of_ne_nil (by simp)
      rwa [this] at hs
    have hs2 := List.nodup_cons.1 hs1
    have ht1 : (b :: (X ++ p :: n :: Z)).Nodup := ht
    have ht2 := List.nodup_cons.1 ht1
    have hpd : p ∈ ((b :: X) ++ p :: n :: Z).dropLast := by
      rw [List.dropLast_append_of_ne_nil (by simp)]
      exact List.mem_append_right _ (by simp [List.dropLast])
    refine ⟨by rw [hn a (fun e => hx (by simp [e])) (fun e => hs2.1 (by rw [e]; exact hpd))]; exact h1, by rw [hp b (fun e => hx (by simp [e])) (fun e => ht2.1 (by rw [e]; simp))]; exact h2, ?_⟩
    exact adj_insert (X := b :: X) h3 hs2.2 ht2.2 (fun h => hx (List.mem_cons_of_mem _ h)) hn hp k1 k2 k3 k4
theorem adj_at {F : Nat → NdT} {p n : Nat} {Z : List Nat} : ∀ {X : List Nat}, Adj F (X ++ p :: n :: Z) → (F p).nx = n ∧ (F n).pv = p
  | [], ⟨h1, h2, _⟩ => ⟨h1, h2⟩
  | [a], ⟨_, _, h⟩ => adj_at (X := []) h
  | a :: b :: X, ⟨_, _, h⟩ => adj_at (X := b :: X) h
theorem upd_left {l l' : List Chunk} {b : Nat} {o o' : Obj} (h : Upd l b o o' l') (r : List Chunk) : Upd (l ++ r) b o o' (l' ++ r) := by
  induction h with
  | here => exact .here
  | there _ ih => exact .there ih
theorem blk_none {F : Nat → NdT} {os : List Nat} {s : SlotT} (h : blk F os s = none) : ∀ p, p ∈ os → (F p).sl ≠ s := fun p hp e => by
  have := List.find?_eq_none.1 h p hp
  simp [e] at this
theorem fresh_nd {p : Nat} {F : Nat → NdT} {all : List Nat} {l : List Chunk} (hf : ∀ c, c ∈ l → c.1 ≠ p) (hs : ∀ c, c ∈ chs F all → c ∈ l) : p ∉ all := fun h => hf _ (hs _ (chs_mem h)) rfl
set_option pp.deepTerms false
set_option pp.deepTerms.threshold 4
set_option maxHeartbeats 400000
theorem put_any (b rb m : Nat) (F : Nat → NdT) (all os : List Nat) (es : List (EntS SlotT)) (clock : Nat) (lq : List Chunk) (hT : TB b rb m F all os es clock lq) (X Y : List Nat) (p : Nat) (hX : rb :: os = X ++ p :: Y) (s : SlotT) (dp : Int) (hs : blk F os s = none) (G : List Chunk) :
    Fn Tryz.prog 105 [.pointer (some ⟨b, 0, none⟩), .pointer (some ⟨p, 0, none⟩), .agg (List.toArray (encT s)), .int .i64 dp] (lq ++ G) fun v l' => v = .tuple #[] ∧ ∃ lq', IsT b ((dOf F os).take X.length ++ (s, dp) :: (dOf F os).drop X.length) lq' ∧ l' = lq' ++ G := by
  obtain ⟨n, Z, hnZ⟩ : ∃ n Z, Y ++ [rb] = n :: Z := by cases Y with | nil => exact ⟨_, _, rfl⟩ | cons y Y => exact ⟨_, _, rfl⟩
  have hL : rb :: (os ++ [rb]) = X ++ p :: n :: Z := by rw [← List.cons_append, hX, List.append_assoc, List.cons_append, hnZ]
  have hadj := hT.adj
  rw [hL] at hadj
  obtain ⟨hpn, hnp⟩ := adj_at hadj
  have hcyc : ∀ q, q ∈ X ++ p :: n :: Z → q ∈ all := fun q hq => by
    rw [← hL] at hq
    rcases List.mem_cons.1 hq with rfl | hq
    · exact hT.rin
    · rcases List.mem_append.1 hq with hq | hq
      · exact hT.sub q hq
      · rw [List.mem_singleton.1 hq]; exact hT.rin
  have hpa : p ∈ all := hcyc p (by simp)
  have hna : n ∈ all := hcyc n (by simp)
  refine fn_of_body Tryz.func105 rfl rfl fun E => ?_
  simp only [argF, Tryz.ntmps105]
  refine gz ?_
  refine t_e (e_boxA rfl) rfl rfl rfl ?_
  rintro _ _ ⟨b6, hb6, rfl, rfl⟩
  have hEq := hT.eq
  have hmp : ndC p (F p) ∈ lq ++ G := List.mem_append_left _ (hT.m3 hpa)
  refine gz ?_
  refine c_draw [(0, true), (1, true), (2, true), (3, true), (4, true), (5, true), (6, true), (7, true), (8, false), (9, true)] [[], [], [], [], [3], [3, 4], [3, 4, 5], [0, 1, 2, 3, 4, 5, 6], [0, 1, 2, 3, 4, 5, 6, 7], [0, 1, 2, 3, 4, 5, 6, 7, 8]] _ (by kernel_rfl) (by kernel_rfl) zAtt (fun _ h => h) ?_
  refine pz ?_
  apply pl_e
  · exact e_boxA rfl
  · rfl
  · rfl
  · rfl
  · rintro _ _ ⟨x, _, _, rfl⟩ c hc; exact .tail _ hc
  rintro _ _ ⟨x, hx, rfl, rfl⟩
  refine pz ?_
  have hxa : x ∉ all := fun h => hx _ (.tail _ (List.mem_append_left _ (hT.m3 h))) rfl
  rw [hpn]
  obtain ⟨F1, hF1⟩ : ∃ F1, F1 = upd F x ⟨s, dp, p, n⟩ := ⟨_, rfl⟩
  have e1x : F1 x = ⟨s, dp, p, n⟩ := by rw [hF1, upd_same]
  have e1o : ∀ q, q ≠ x → F1 q = F q := fun q hq => by rw [hF1, upd_other _ _ _ _ hq]
  have hpx : p ≠ x := fun e => hxa (e ▸ hpa)
  have hnx : n ≠ x := fun e => hxa (e ▸ hna)
  have hnd1 : (x :: all).Nodup := List.nodup_cons.2 ⟨hxa, hT.nd⟩
  have hc1 : chs F1 (x :: all) = ndC x ⟨s, dp, p, n⟩ :: chs F all := by
    show ndC x (F1 x) :: chs F1 all = _
    rw [e1x, chs_congr (F := F1) (F' := F) fun q hq => e1o q fun e => hxa (e ▸ hq)]
  refine p_keep (l' := trC b rb m :: (m, mapS encT es clock) :: (chs F1 (x :: all) ++ ((b6, .cells (List.toArray (encT s)) 30 (0, 0)) :: G))) (Keep.of_perm ?_) ?_
  · rw [hEq, hc1]
    refine (List.perm_append_comm_assoc [(x, _), (b6, _)] [trC b rb m, (m, mapS encT es clock)] (chs F all ++ G)).trans ?_
    refine List.Perm.cons _ (List.Perm.cons _ (List.Perm.cons _ ?_))
    exact (List.perm_middle (l₁ := chs F all)).symm
  have hmx : ndC x (F1 x) ∈ trC b rb m :: (m, mapS encT es clock) :: (chs F1 (x :: all) ++ ((b6, .cells (List.toArray (encT s)) 30 (0, 0)) :: G)) := .tail _ (.tail _ (List.mem_append_left _ (chs_mem (.head _))))
  rw [e1x] at hmx
  refine gz ?_
  refine c_draw [(0, true), (1, true), (2, true), (3, true), (4, true), (5, true), (6, true), (7, true), (8, true), (9, true), (10, true), (11, true), (12, false), (13, true), (14, true), (15, false)] [[], [0], [0, 1], [0, 1, 2], [], [4], [4, 5], [4, 5, 6], [], [], [0, 1, 2, 3, 4, 5, 6, 7, 8], [0, 1, 2, 3, 4, 5, 6, 7, 8, 10], [0, 1, 2, 3, 4, 5, 6, 7, 8, 10, 11], [0, 1, 2, 3, 4, 5, 6, 7, 8, 9, 10, 11, 12], [0, 1, 2, 3, 4, 5, 6, 7, 8, 9, 10, 11, 12, 13], [0, 1, 2, 3, 4, 5, 6, 7, 8, 9, 10, 11, 12, 13, 14]] ([]) (by kernel_rfl) (by kernel_rfl) zAtt zHR ?_
  refine pz ?_
  apply pl_s (S := [ndC x ⟨s, dp, p, n⟩])
  · exact q_load rfl (.head _) rfl
  · intro c hc; cases hc with
    | head => exact hmx
    | tail _ h => cases h
  · rfl
  · rfl
  · rfl
  refine pz ?_
  apply pl_s (S := [ndC x ⟨s, dp, p, n⟩])
  · exact q_load rfl (.head _) rfl
  · intro c hc; cases hc with
    | head => exact hmx
    | tail _ h => cases h
  · rfl
  · rfl
  · rfl
  refine pz ?_
  obtain ⟨F2, hF2⟩ : ∃ F2, F2 = upd F1 p { F1 p with nx := x } := ⟨_, rfl⟩
  obtain ⟨F3, hF3⟩ : ∃ F3, F3 = upd F2 n { F2 n with pv := x } := ⟨_, rfl⟩
  apply pl_nS
  · exact e_store (b := p) (off := 4) (cs := List.toArray (F1 p).cells) rfl rfl rfl (.there (.there (upd_left (chs_upd { F1 p with nx := x } hnd1 (List.mem_cons_of_mem _ hpa)) _))) (by simp)
  · rfl
  · rfl
  · intro _ _ _ c hc; cases hc
  · exact fun _ _ _ x hx ha => anc_all (by kernel_rfl) hx ha
  rintro _ _ ⟨rfl, rfl⟩
  rw [← hF2]
  refine pz ?_
  apply pl_nS
  · exact e_store (b := n) (off := 3) (cs := List.toArray (F2 n).cells) rfl rfl rfl (.there (.there (upd_left (chs_upd { F2 n with pv := x } hnd1 (List.mem_cons_of_mem _ hna)) _))) (by simp)
  · rfl
  · rfl
  · intro _ _ _ c hc; cases hc
  · exact fun _ _ _ x hx ha => anc_all (by kernel_rfl) hx ha
  rintro _ _ ⟨rfl, rfl⟩
  rw [← hF3]
  refine pz ?_
  have hm6 : (b6, Obj.cells (List.toArray (encT s)) 30 (0, 0)) ∈ chs F3 (x :: all) ++ ((b6, .cells (List.toArray (encT s)) 30 (0, 0)) :: G) := List.mem_append_right _ (.head _)
  refine gz ?_
  refine c_draw [(0, true), (1, true), (2, true), (3, true), (4, true), (5, true), (6, false)] [[], [0], [0, 1], [0, 1, 2], [], [], [0, 1, 2, 3, 4, 5]] ([trC b rb m]) (by kernel_rfl) (by kernel_rfl) zAtt zHR ?_
  refine pz ?_
  apply pl_s (S := [(b6, .cells (List.toArray (encT s)) 30 (0, 0))])
  · exact q_loadL rfl (.head _) (by (repeat (first | with_reducible apply LSub.done | with_reducible apply LSub.take | with_reducible apply LSub.drop)))
  · intro c hc; cases hc with
    | head => exact .tail _ (.tail _ hm6)
    | tail _ h => cases h
  · rfl
  · rfl
  · rfl
  refine pz ?_
  apply pl_nS
  · apply e_mapUpdateS (enc := encT) (a := s) (es := es) (clock := clock) (ks := [some .i64, some .i64])
    · rfl
    · rfl
    · rfl
    · exact encT_ok
    · exact zUpd
  · rfl
  · rfl
  · rintro _ _ ⟨rfl, rfl⟩ c hc
    cases hc with
    | head => exact .head _
    | tail _ h => cases h
  · exact fun _ _ _ x hx ha => anc_all (by kernel_rfl) hx ha
  rintro _ _ ⟨rfl, rfl⟩
  refine pz ?_
  refine gz ?_
  obtain ⟨A, hA, hos⟩ : ∃ A, X ++ [p] = rb :: A ∧ os = A ++ Y := by
    have h : rb :: os = (X ++ [p]) ++ Y := by rw [hX]; simp
    cases hXp : X ++ [p] with
    | nil => simp at hXp
    | cons a A =>
      rw [hXp, List.cons_append, List.cons.injEq] at h
      exact ⟨A, by rw [h.1], h.2⟩
  have hAl : A.length = X.length := by have := congrArg List.length hA; simp at this; omega
  have e3 : ∀ q, (F3 q).sl = (F1 q).sl ∧ (F3 q).dp = (F1 q).dp := fun q => by
    rw [hF3, hF2]; unfold upd
    split <;> split <;> simp_all
  have e3n : ∀ q, (F3 q).nx = if q = p then x else (F1 q).nx := fun q => by
    rw [hF3, hF2]; unfold upd
    split <;> split <;> simp_all
  have e3p : ∀ q, (F3 q).pv = if q = n then x else (F1 q).pv := fun q => by
    rw [hF3, hF2]; unfold upd
    split <;> split <;> simp_all
  have hosa : ∀ q, q ∈ os → q ≠ x := fun q hq e => hxa (e ▸ hT.sub q hq)
  have eo : ∀ q, q ∈ os → (F3 q).sl = (F q).sl ∧ (F3 q).dp = (F q).dp := fun q hq => by
    rw [(e3 q).1, (e3 q).2, e1o q (hosa q hq)]; exact ⟨rfl, rfl⟩
  have ex : (F3 x).sl = s ∧ (F3 x).dp = dp := by rw [(e3 x).1, (e3 x).2, e1x]; exact ⟨rfl, rfl⟩
  have hno := blk_none hs
  obtain ⟨lq', hlq'⟩ : ∃ lq', lq' = trC b rb m :: (m, mapS encT (setS s (.pointer (some ⟨x, 0, none⟩)) clock es).1 (setS s (.pointer (some ⟨x, 0, none⟩)) clock es).2) :: chs F3 (x :: all) := ⟨_, rfl⟩
  refine k_ret [] rfl (l' := lq' ++ G) ?_ (by exact zRes) ⟨rfl, lq', ⟨rb, m, F3, x :: all, A ++ x :: Y, _, _, ?_, ⟨hlq', hnd1, List.mem_cons_of_mem _ hT.rin, fun q hq => ?_, ?_, ?_, ?_, hT.keys.set _ _, fun s' => ?_⟩⟩, rfl⟩
  · rw [hlq']
    refine ⟨[(b6, .cells (List.toArray (encT s)) 30 (0, 0))], ?_⟩
    refine ((List.Perm.cons _ (List.Perm.cons _ List.perm_middle)).trans ?_)
    exact List.perm_append_comm_assoc [_, _] [_] _
  · unfold dOf
    rw [hos, List.map_append, List.map_cons, List.map_append, ← hAl]
    rw [List.take_left' (by simp), List.drop_left' (by simp), ex.1, ex.2]
    congr 1
    · apply List.map_congr_left
      intro q hq
      have := eo q (by rw [hos]; exact List.mem_append_left _ hq)
      rw [this.1, this.2]
    · congr 1
      apply List.map_congr_left
      intro q hq
      have := eo q (by rw [hos]; exact List.mem_append_right _ hq)
      rw [this.1, this.2]
  · rcases List.mem_append.1 hq with hq | hq
    · exact List.mem_cons_of_mem _ (hT.sub q (by rw [hos]; exact List.mem_append_left _ hq))
    · rcases List.mem_cons.1 hq with rfl | hq
      · exact .head _
      · exact List.mem_cons_of_mem _ (hT.sub q (by rw [hos]; exact List.mem_append_right _ hq))
  · have hp2 : (rb :: (A ++ x :: Y)).Perm (x :: (rb :: os)) := by
      rw [hos]
      exact (List.Perm.cons _ List.perm_middle).trans (List.Perm.swap _ _ _)
    rw [hp2.nodup_iff, List.nodup_cons]
    refine ⟨fun h => ?_, hT.ond⟩
    rcases List.mem_cons.1 h with h | h
    · exact hxa (h ▸ hT.rin)
    · exact hosa x h rfl
  · have hL2 : rb :: ((A ++ x :: Y) ++ [rb]) = X ++ p :: x :: n :: Z := by
      have : rb :: ((A ++ x :: Y) ++ [rb]) = (rb :: A) ++ (x :: (Y ++ [rb])) := by simp
      rw [this, ← hA, hnZ]; simp
    rw [hL2]
    refine adj_insert hadj ?_ ?_ (fun h => hxa (hcyc x h)) (fun u h1 h2 => ?_) (fun v h1 h2 => ?_) ?_ ?_ ?_ ?_
    · rw [← hL, ← List.cons_append, List.dropLast_concat]; exact hT.ond
    · rw [← hL, List.tail_cons, List.nodup_append]
      have := List.nodup_cons.1 hT.ond
      exact ⟨this.2, by simp, fun a ha c hc e => this.1 (by rw [List.mem_singleton.1 hc] at e; rw [← e]; exact ha)⟩
    · rw [e3n, if_neg h2, e1o u h1]
    · rw [e3p, if_neg h2, e1o v h1]
    · rw [e3n, if_pos rfl]
    · rw [e3p, if_neg (fun e => hnx e.symm), e1x]
    · rw [e3n, if_neg (fun e => hpx e.symm), e1x]
    · rw [e3p, if_pos rfl]
  · have hmp2 : ((A ++ x :: Y).map fun q => (F3 q).sl).Perm (s :: os.map fun q => (F q).sl) := by
      rw [hos, List.map_append, List.map_cons, List.map_append, ex.1]
      have h1 : A.map (fun q => (F3 q).sl) = A.map (fun q => (F q).sl) := List.map_congr_left fun q hq => (eo q (by rw [hos]; exact List.mem_append_left _ hq)).1
      have h2 : Y.map (fun q => (F3 q).sl) = Y.map (fun q => (F q).sl) := List.map_congr_left fun q hq => (eo q (by rw [hos]; exact List.mem_append_right _ hq)).1
      rw [h1, h2]
      exact List.perm_middle
    rw [hmp2.nodup_iff, List.nodup_cons]
    exact ⟨fun h => by obtain ⟨q, hq, e⟩ := List.mem_map.1 h; exact hno q hq e, hT.snd⟩
  · rw [getS_set]
    have hfA : ∀ B : List Nat, (∀ q, q ∈ B → q ∈ os) → B.find? (fun q => decide ((F3 q).sl = s')) = B.find? (fun q => decide ((F q).sl = s')) := fun B hB => by
      induction B with
      | nil => rfl
      | cons z B ih =>
        rw [List.find?_cons, List.find?_cons, (eo z (hB z List.mem_cons_self)).1, ih fun q hq => hB q (List.mem_cons_of_mem _ hq)]
    rw [List.find?_append, hfA A (fun q hq => by rw [hos]; exact List.mem_append_left _ hq), List.find?_cons, ex.1]
    by_cases hss : s' = s
    · rw [if_pos hss, decide_eq_true hss.symm]
      have : A.find? (fun q => decide ((F q).sl = s')) = none := List.find?_eq_none.2 fun q hq => by
        have := hno q (by rw [hos]; exact List.mem_append_left _ hq)
        simpa [hss] using this
      rw [this]; rfl
    · rw [if_neg hss, decide_eq_false (fun e => hss e.symm), hT.get, hos, List.find?_append, hfA Y (fun q hq => by rw [hos]; exact List.mem_append_right _ hq)]
end Go.Proofs.YtpplknmmjlgadaaGreat.Tr

/- The tree: the two iterators. -/
set_option linter.unusedVariables false
set_option linter.unusedSimpArgs false
namespace Go.Proofs.YtpplknmmjlgadaaGreat.Tr
open Go.RowKit
set_option maxRecDepth 20000

section
variable {P : Program} {ro : Option Nat} {N : Nat} {E : World} {ops : Array Oper} {Q : Exit → Act → World → Prop} {R : List Chunk} {tbl : List (List Nat)} {sw : Sw} {sp : Spec} {pl : List PlanOp} {o : Oper} {fr fr' : Fr} {ds : List Deferred} {l l' : List Chunk} {K : Value → List Chunk → Prop} {v : Value} {i : Nat} {k : Bool}
/-- an effect under a guard that is met, while special blocks are looked at -/
theorem pl_geS {d : Nat} (h : OpE P ro N fr l o K) (hw : gst ops fr o.guard = some true) (hd : o.dst = some d) (hb : Nat.blt d N = true) (hR : ∀ v l', K v l' → (∀ c, c ∈ R → c ∈ l')) (hS : ∀ v l', K v l' → ∀ x, x ∈ sp → ancOf tbl i x.1 = false → ∀ c, c ∈ x.2 → c ∈ l') (hk : ∀ v l', K v l' → PlanS P ro N E ops Q R tbl none sp pl ((d, v) :: fr) ds l') : PlanS P ro N E ops Q R tbl none sp ((i, false, o) :: pl) fr ds l := by
  rcases gst_some hw with ⟨h1, _⟩ | ⟨j, b, oj, dj, b', h1, h2, h3, h4, h5⟩
  · exact pl_eS h h1 hd hb hR hS hk
  · have : b' = b := by simpa using h5
    subst this
    exact .ge h h1 h2 h3 h4 (by rw [hd]; exact hb) hR hS fun v l' hkv => by rw [hd]; exact hk v l' hkv
end
theorem nep_t {q r : Nat} (h : q ≠ r) : (!decide ((⟨q, 0, none⟩ : Addr) = ⟨r, 0, none⟩)) = true := by
  rw [decide_eq_false (fun e => h (by injection e))]; rfl
theorem nep_f (q : Nat) : (!decide ((⟨q, 0, none⟩ : Addr) = ⟨q, 0, none⟩)) = false := by
  rw [decide_eq_true rfl]; rfl
theorem TB.nxt {b rb m : Nat} {F : Nat → NdT} {all os : List Nat} {es : List (EntS SlotT)} {clock : Nat} {lq : List Chunk} (h : TB b rb m F all os es clock lq) {X Y : List Nat} {p : Nat} (hX : rb :: os = X ++ p :: Y) : (F p).nx = Y.headD rb := by
  have hadj := h.adj
  rw [show rb :: (os ++ [rb]) = X ++ p :: (Y ++ [rb]) by rw [← List.cons_append, hX, List.append_assoc, List.cons_append]] at hadj
  cases Y with
  | nil => exact (adj_at (Z := []) hadj).1
  | cons y Y => exact (adj_at (Z := Y ++ [rb]) hadj).1
theorem TB.prv {b rb m : Nat} {F : Nat → NdT} {all os : List Nat} {es : List (EntS SlotT)} {clock : Nat} {lq : List Chunk} (h : TB b rb m F all os es clock lq) {X Y : List Nat} {p : Nat} (hX : rb :: os = X ++ p :: Y) : (F (Y.headD rb)).pv = p := by
  have hadj := h.adj
  rw [show rb :: (os ++ [rb]) = X ++ p :: (Y ++ [rb]) by rw [← List.cons_append, hX, List.append_assoc, List.cons_append]] at hadj
  cases Y with
  | nil => exact (adj_at (Z := []) hadj).2
  | cons y Y => exact (adj_at (Z := Y ++ [rb]) hadj).2
/-- what stands in a list of slots: ahead of a slot, its depth, behind it -/
def splitD (s : SlotT) : DT → Option (DT × Int × DT)
  | [] => none
  | x :: r => if x.1 = s then some ([], x.2, r) else (splitD s r).map fun y => (x :: y.1, y.2.1, y.2.2)
theorem split_blk {F : Nat → NdT} {s : SlotT} : ∀ {os : List Nat} {p : Nat}, blk F os s = some p → ∃ A B, os = A ++ p :: B ∧ splitD s (dOf F os) = some (dOf F A, (F p).dp, dOf F B)
  | [], _, h => by cases h
  | q :: os, p, h => by
    unfold blk at h
    rw [List.find?_cons] at h
    by_cases e : (F q).sl = s
    · rw [decide_eq_true e] at h
      cases h
      exact ⟨[], os, rfl, by show splitD s (((F q).sl, (F q).dp) :: dOf F os) = _; unfold splitD; rw [if_pos e]; rfl⟩
    · rw [decide_eq_false e] at h
      obtain ⟨A, B, rfl, h2⟩ := split_blk (os := os) h
      exact ⟨q :: A, B, rfl, by show splitD s (((F q).sl, (F q).dp) :: dOf F _) = _; unfold splitD; rw [if_neg e, h2]; rfl⟩
theorem split_none {F : Nat → NdT} {s : SlotT} : ∀ {os : List Nat}, blk F os s = none → splitD s (dOf F os) = none
  | [], _ => rfl
  | q :: os, h => by
    unfold blk at h
    rw [List.find?_cons] at h
    by_cases e : (F q).sl = s
    · rw [decide_eq_true e] at h; cases h
    · rw [decide_eq_false e] at h
      show splitD s (((F q).sl, (F q).dp) :: dOf F os) = none
      unfold splitD; rw [if_neg e, split_none (os := os) h]; rfl
set_option pp.deepTerms false
set_option pp.deepTerms.threshold 4
set_option maxHeartbeats 400000
abbrev bxT (B b : Nat) : Chunk := (B, .cells #[.pointer (some ⟨b, 0, none⟩)] 91 (0, 0))
abbrev bxL (B p : Nat) : Chunk := (B, .cells #[.pointer (some ⟨p, 0, none⟩)] 126 (0, 0))
theorem behind_any (b p : Nat) (l : List Chunk) : Fn Tryz.prog 97 [.pointer (some ⟨b, 0, none⟩), .pointer (some ⟨p, 0, none⟩)] l fun v l' => ∃ B1 B2, v = .func (.func 114) #[] #[.pointer (some ⟨B1, 0, none⟩), .pointer (some ⟨B2, 0, none⟩)] ∧ l' = bxL B1 p :: bxT B2 b :: l := by
  refine fn_of_body Tryz.func97 rfl rfl fun E => ?_
  simp only [argF, Tryz.ntmps97]
  refine gz ?_
  (first | refine t_e (e_box1 rfl rfl) rfl rfl rfl ?_ | refine t_e (e_boxA rfl) rfl rfl rfl ?_); rintro _ _ ⟨b2, _, rfl, rfl⟩
  refine gz ?_
  (first | refine t_e (e_box1 rfl rfl) rfl rfl rfl ?_ | refine t_e (e_boxA rfl) rfl rfl rfl ?_); rintro _ _ ⟨b3, _, rfl, rfl⟩
  refine gz ?_
  exact k_ret [] rfl .refl (by exact zRes) ⟨b3, b2, rfl, rfl⟩
theorem below_any (b p : Nat) (l : List Chunk) : Fn Tryz.prog 100 [.pointer (some ⟨b, 0, none⟩), .pointer (some ⟨p, 0, none⟩)] l fun v l' => ∃ B1 B2, v = .func (.func 116) #[] #[.pointer (some ⟨B2, 0, none⟩), .pointer (some ⟨B1, 0, none⟩)] ∧ l' = bxL B1 p :: bxT B2 b :: l := by
  refine fn_of_body Tryz.func100 rfl rfl fun E => ?_
  simp only [argF, Tryz.ntmps100]
  refine gz ?_
  (first | refine t_e (e_box1 rfl rfl) rfl rfl rfl ?_ | refine t_e (e_boxA rfl) rfl rfl rfl ?_); rintro _ _ ⟨b2, _, rfl, rfl⟩
  refine gz ?_
  (first | refine t_e (e_box1 rfl rfl) rfl rfl rfl ?_ | refine t_e (e_boxA rfl) rfl rfl rfl ?_); rintro _ _ ⟨b3, _, rfl, rfl⟩
  refine gz ?_
  exact k_ret [] rfl .refl (by exact zRes) ⟨b3, b2, rfl, rfl⟩
/-- the links are as they were -/
def Nxs (F : Nat → NdT) (L : List Nat) (l : List Chunk) : Prop := ∀ q, q ∈ L → ∃ x : NdT, ndC q x ∈ l ∧ x.nx = (F q).nx
theorem behind_iter (B1 B2 b rb m p : Nat) (F : Nat → NdT) (all os : List Nat) (es : List (EntS SlotT)) (clock : Nat) (lq : List Chunk) (hT : TB b rb m F all os es clock lq) (X Y : List Nat) (hX : rb :: os = X ++ p :: Y) :
    IterS Tryz.prog 114 [.pointer (some ⟨B1, 0, none⟩), .pointer (some ⟨B2, 0, none⟩)] (fun q : Nat => [.pointer (some ⟨q, 0, none⟩)]) (fun xs => xs = Y) (fun pre => pre <+: Y)
      (fun pre l => bxL B1 p ∈ l ∧ bxT B2 b ∈ l ∧ trC b rb m ∈ l ∧ Nxs F (rb :: os) l) := by
  refine ⟨fun r I Ix G0 hneed hY l G hG h0 => ?_⟩
  have hpc : p ∈ rb :: os := by rw [hX]; simp
  obtain ⟨n1, n2, n3, n4⟩ := hneed _ _ G hG h0
  obtain ⟨xp, hxp, hxn⟩ := n4 p hpc
  refine fn_of_body Tryz.func114 rfl rfl fun E => ?_
  simp only [argF, Tryz.ntmps114]
  refine gz ?_
  rw [hxn, hT.nxt hX]
  refine gz ?_
  refine k_loop (α := List Nat × List Nat × List Chunk) (fun x => [(0, .func (.yield r) #[] #[]), (1, .pointer (some ⟨B1, 0, none⟩)), (2, .pointer (some ⟨B2, 0, none⟩)), (4, .pointer (some ⟨x.2.1.headD rb, 0, none⟩))]) (fun x => x.2.2 ++ G) (fun x => x.1 ++ x.2.1 = Y ∧ I x.1 x.2.2) (fun x => x.2.1.length) ([], Y, l) ⟨rfl, h0⟩ ⟨rfl, rfl, rfl, rfl, trivial⟩ .refl ?_
  rintro ⟨pre, suf, l⟩ ⟨hps, hI⟩
  simp only at hps hI ⊢
  obtain ⟨n1, n2, n3, n4⟩ := hneed _ _ G hG hI
  obtain ⟨xr, hxr, hxrn⟩ := n4 rb List.mem_cons_self
  cases suf with
  | nil =>
    rw [List.append_nil] at hps
    subst hps
    simp only [List.headD_nil]
    refine gz ?_
    refine t_q (q_neptr rfl rfl (by decide) hxr hxr) rfl rfl rfl ?_
    rw [nep_f]
    refine gz ?_
    exact k_ret [] rfl .refl (by exact zRes) ⟨l, rfl, .inl ⟨_, rfl, hI⟩⟩
  | cons q suf =>
    have hX2 : rb :: os = (X ++ p :: pre) ++ q :: suf := by rw [hX, ← hps]; simp
    have hqc : q ∈ rb :: os := by rw [hX2]; simp
    have hqr : q ≠ rb := fun e => by
      have hnd := hT.ond
      cases X with
      | nil => rw [List.nil_append, List.cons.injEq] at hX; rw [hX.2, ← hps, ← e] at hnd; simp at hnd
      | cons x X => rw [List.cons_append, List.cons.injEq] at hX; rw [hX.2, ← hps, ← e] at hnd; simp at hnd
    obtain ⟨xq, hxq, hxqn⟩ := n4 q hqc
    simp only [List.headD_cons]
    refine gz ?_
    refine t_q (q_neptr rfl rfl (by decide) hxq hxr) rfl rfl rfl ?_
    rw [nep_t hqr]
    refine gz ?_
    have hsp : pre ++ [q] <+: Y := ⟨suf, by rw [← hps]; simp⟩
    refine t_e (e_yield rfl rfl (hY pre q l G hG hI hsp)) rfl rfl rfl ?_
    rintro v l' ⟨l1, rfl, ⟨rfl, hI'⟩ | ⟨rfl, hx⟩⟩
    · obtain ⟨k1, k2, k3, k4⟩ := hneed _ _ G hG hI'
      obtain ⟨xq2, hxq2, hxqn2⟩ := k4 q hqc
      refine gz ?_
      rw [hxqn2, hT.nxt hX2]
      refine gz ?_
      exact k_next (pre ++ [q], suf, l1) ⟨by rw [← hps]; simp, hI'⟩ (by simp) ⟨rfl, rfl, rfl, rfl, trivial⟩ .refl
    · refine gz ?_
      exact k_ret [] rfl .refl (by exact zRes) ⟨l1, rfl, .inr ⟨_, hsp, hx⟩⟩
end Go.Proofs.YtpplknmmjlgadaaGreat.Tr

/- The tree: the links below one. -/
set_option linter.unusedVariables false
set_option linter.unusedSimpArgs false
namespace Go.Proofs.YtpplknmmjlgadaaGreat.Tr
open Go.RowKit
set_option maxRecDepth 20000

theorem tw_take {α : Type} {P : α → Bool} {pre : List α} {y : α} {Y : List α} (h1 : pre ++ [y] <+: Y) (h2 : pre <+: Y.takeWhile P) (hy : P y = true) : pre ++ [y] <+: Y.takeWhile P := by
  obtain ⟨r, rfl⟩ := h1
  have hp : ∀ x, x ∈ pre → P x = true := fun x hx => List.all_eq_true.1 (List.all_takeWhile (p := P)) x (h2.subset hx)
  rw [List.append_assoc, List.takeWhile_append_of_pos hp]
  show pre ++ [y] <+: pre ++ List.takeWhile P (y :: r)
  rw [List.takeWhile_cons_of_pos hy]
  exact ⟨r.takeWhile P, by simp⟩
theorem tw_stop {α : Type} {P : α → Bool} {pre : List α} {y : α} {Y : List α} (h1 : pre ++ [y] <+: Y) (h2 : pre <+: Y.takeWhile P) (hy : P y = false) : pre = Y.takeWhile P := by
  obtain ⟨r, rfl⟩ := h1
  have hp : ∀ x, x ∈ pre → P x = true := fun x hx => List.all_eq_true.1 (List.all_takeWhile (p := P)) x (h2.subset hx)
  rw [List.append_assoc, List.takeWhile_append_of_pos hp]
  show pre = pre ++ List.takeWhile P (y :: r)
  rw [List.takeWhile_cons_of_neg (by rw [hy]; simp), List.append_nil]
theorem tw_all {α : Type} {P : α → Bool} {Y : List α} (h2 : Y <+: Y.takeWhile P) : Y = Y.takeWhile P := (h2.sublist.eq_of_length_le (List.takeWhile_prefix P).length_le)
theorem Keep.in_mid (A B C : List Chunk) : Keep (A ++ (B ++ C)) (B ++ (A ++ C)) := Keep.of_perm (List.perm_append_comm_assoc A B C)
set_option pp.deepTerms false
set_option pp.deepTerms.threshold 4
set_option maxHeartbeats 400000
/-- the depths of those that did not come yet are as they were -/
def Dps (F : Nat → NdT) (L pre : List Nat) (l : List Chunk) : Prop := ∀ q, q ∈ L → ∃ x : NdT, ndC q x ∈ l ∧ x.nx = (F q).nx ∧ (q ∉ pre → x.dp = (F q).dp)
theorem below_iter (B1 B2 b rb m p : Nat) (F : Nat → NdT) (all os : List Nat) (es : List (EntS SlotT)) (clock : Nat) (lq : List Chunk) (hT : TB b rb m F all os es clock lq) (X Y : List Nat) (hX : rb :: os = X ++ p :: Y) :
    IterS Tryz.prog 116 [.pointer (some ⟨B2, 0, none⟩), .pointer (some ⟨B1, 0, none⟩)] (fun q : Nat => [.pointer (some ⟨q, 0, none⟩)]) (fun xs => xs = Y.takeWhile fun q => decide ((F p).dp < (F q).dp)) (fun pre => pre <+: Y.takeWhile fun q => decide ((F p).dp < (F q).dp))
      (fun pre l => bxL B1 p ∈ l ∧ bxT B2 b ∈ l ∧ trC b rb m ∈ l ∧ Dps F (rb :: os) pre l) := by
  refine ⟨fun r I Ix G0 hneed hY l G hG h0 => ?_⟩
  have hnd : (p :: Y).Nodup := by have := hT.ond; rw [hX] at this; exact (List.nodup_append.1 this).2.1
  have hpc : p ∈ rb :: os := by rw [hX]; simp
  obtain ⟨tw, htw⟩ : ∃ tw, tw = Y.takeWhile fun q => decide ((F p).dp < (F q).dp) := ⟨_, rfl⟩
  rw [← htw] at hY ⊢
  obtain ⟨n1, n2, n3, n4⟩ := hneed _ _ G hG h0
  refine fn_of_body Tryz.func116 rfl rfl fun E => ?_
  simp only [argF, Tryz.ntmps116]
  refine gz ?_
  (first | refine t_e (e_box1 rfl rfl) rfl rfl rfl ?_ | refine t_e (e_boxA rfl) rfl rfl rfl ?_); rintro _ _ ⟨b3, _, rfl, rfl⟩
  refine gz ?_
  refine t_e (e_call rfl rfl (behind_any _ _ _)) rfl rfl rfl ?_
  rintro v l' ⟨C1, C2, rfl, rfl⟩
  refine gz ?_
  refine c_range (α := Nat) (ps := [8]) (lb := [.pointer (some ⟨C1, 0, none⟩), .pointer (some ⟨C2, 0, none⟩)]) rfl (behind_iter C1 C2 b rb m p F all os es clock lq hT X Y hX) (fun _ => rfl) rfl
    (fun pre l => ∃ l1, I pre l1 ∧ pre <+: tw ∧ l = [bxL C1 p, bxT C2 b, (b3, .cells #[.func (.yield r) #[] #[]] 150 (0, 0))] ++ l1)
    (fun c pre l => c = .exit 0 ∧ ∃ l1, ((pre <+: tw ∧ Ix pre l1) ∨ I tw l1) ∧ l = [bxL C1 p, bxT C2 b, (b3, .cells #[.func (.yield r) #[] #[]] 150 (0, 0))] ++ l1)
    _ G (fun pre l2 X2 hX2 h => by
      obtain ⟨l1, hI, _, rfl⟩ := h
      obtain ⟨k1, k2, k3, k4⟩ := hneed _ _ X2 (fun c hc => hX2 c (hG c hc)) hI
      refine ⟨.head _, .tail _ (.head _), .tail _ (.tail _ (.tail _ k3)), fun q hq => ?_⟩
      obtain ⟨x, h1, h2, h3⟩ := k4 q hq
      exact ⟨x, .tail _ (.tail _ (.tail _ h1)), h2⟩) (by exact zKeep) ⟨l, h0, List.nil_prefix, rfl⟩ ?_ ?_ ?_
  · rintro E r0 rec pre y l' T ⟨fn, tmps, D, rfl⟩ hT0 ⟨l1, hI, hpt, rfl⟩ hsp
    simp only [putPs, List.cons_append, List.nil_append]
    refine gz ?_
    refine p_begin (.there (.there (.there (upd_mid _ _ _ _ _)))) ?_
    generalize hX1 : (r0, Obj.loop (recOf fn tmps _ _ _ D .busy none)) :: T = X1
    have hG1 : ∀ c, c ∈ G0 → c ∈ X1 := fun c hc => by rw [← hX1]; exact .tail _ (hT0 c (hG c hc))
    have hyp : y ∉ pre ∧ p ∉ pre ∧ y ∈ rb :: os := by
      obtain ⟨r9, h9⟩ := hsp
      rw [← h9] at hnd hX
      refine ⟨fun h => ?_, fun h => ?_, by rw [hX]; simp⟩
      · have := (List.nodup_append.1 (List.nodup_append.1 (List.nodup_cons.1 hnd).2).1).2.2 y h y (by simp)
        exact this rfl
      · exact (List.nodup_cons.1 hnd).1 (by simp [h])
    obtain ⟨k1, k2, k3, k4⟩ := hneed _ _ X1 hG1 hI
    obtain ⟨xy, hxy, _, hyd⟩ := k4 y hyp.2.2
    obtain ⟨xp, hxp, _, hpd⟩ := k4 p hpc
    have hyd := hyd hyp.1
    have hpd := hpd hyp.2.1
    by_cases hlt : (F p).dp < (F y).dp
    · have hpt2 : pre ++ [y] <+: tw := by rw [htw] at hpt ⊢; exact tw_take hsp hpt (decide_eq_true hlt)
      refine gz ?_
      refine c_draw [(0, true), (1, true), (2, true), (3, true), (4, true), (5, true), (6, true), (7, true), (8, true), (9, true), (10, true), (11, true), (12, false), (13, true), (14, true)] [[], [0], [0, 1], [0, 1, 2], [], [4], [4, 5], [4, 5, 6], [0, 1, 2, 3, 4, 5, 6, 7], [0, 1, 2, 3, 4, 5, 6, 7, 8], [0, 1, 2, 3, 4, 5, 6, 7, 8, 9], [0, 1, 2, 3, 4, 5, 6, 7, 8, 9], [0, 1, 2, 3, 4, 5, 6, 7, 8, 9, 10, 11], [0, 1, 2, 3, 4, 5, 6, 7, 8, 9, 10, 11, 12], [0, 1, 2, 3, 4, 5, 6, 7, 8, 9, 10, 11, 12, 13]] ([(b3, .cells #[.func (.yield r) #[] #[]] 150 (0, 0))]) (by kernel_rfl) (by kernel_rfl) zAtt zHR ?_
      refine pz ?_
      apply pl_s (S := [ndC y xy])
      · exact q_load rfl (.head _) rfl
      · intro c hc; cases hc with
        | head => exact .tail _ (.tail _ (.tail _ hxy))
        | tail _ h => cases h
      · rfl
      · rfl
      · rfl
      refine pz ?_
      apply pl_s (S := [bxL B1 p])
      · exact q_load rfl (.head _) rfl
      · intro c hc; cases hc with
        | head => exact .tail _ (.tail _ (.tail _ k1))
        | tail _ h => cases h
      · rfl
      · rfl
      · rfl
      refine pz ?_
      apply pl_s (S := [ndC p xp])
      · exact q_load rfl (.head _) rfl
      · intro c hc; cases hc with
        | head => exact .tail _ (.tail _ (.tail _ hxp))
        | tail _ h => cases h
      · rfl
      · rfl
      · rfl
      refine pz ?_
      apply pl_geS
      · apply OpE.re (K' := fun v l3 => ∃ l2, l3 = bxL C1 p :: bxT C2 b :: (b3, .cells #[.func (.yield r) #[] #[]] 150 (0, 0)) :: (l2 ++ X1) ∧ ((v = .bool true ∧ I (pre ++ [y]) l2) ∨ (v = .bool false ∧ Ix (pre ++ [y]) l2))) (Keep.in_mid [bxL C1 p, bxT C2 b, (b3, .cells #[.func (.yield r) #[] #[]] 150 (0, 0))] l1 X1)
        · exact e_yield rfl rfl (hY pre y l1 _ (fun c hc => .tail _ (.tail _ (.tail _ (hG1 c hc)))) hI hpt2)
        · rintro v _ ⟨l2, rfl, hor⟩
          exact ⟨_, Keep.in_mid l2 [bxL C1 p, bxT C2 b, (b3, .cells #[.func (.yield r) #[] #[]] 150 (0, 0))] X1, l2, rfl, hor⟩
      · rfl
      · rfl
      · rfl
      · rintro _ _ ⟨l2, rfl, _⟩ c hc
        cases hc with
        | head => exact .tail _ (.tail _ (.head _))
        | tail _ h => cases h
      · exact fun _ _ _ x hx ha => anc_all (by kernel_rfl) hx ha
      rintro v _ ⟨l2, rfl, ⟨rfl, hI2⟩ | ⟨rfl, hI2⟩⟩
      · refine pz ?_
        refine gz ?_
        rw [← hX1]
        exact p_round _ (.refl) ⟨l2, hI2, hpt2, rfl⟩
      · refine pz ?_
        refine gz ?_
        rw [← hX1]
        exact p_round_exit _ (.refl) ⟨rfl, l2, .inl ⟨hpt2, hI2⟩, rfl⟩
    · have hpt2 : pre = tw := by rw [htw] at hpt ⊢; exact tw_stop hsp hpt (decide_eq_false hlt)
      refine gz ?_
      refine c_draw [(0, true), (1, true), (2, true), (3, true), (4, true), (5, true), (6, true), (7, true), (8, true), (9, true), (10, true), (11, true), (12, false), (13, true), (14, true)] [[], [0], [0, 1], [0, 1, 2], [], [4], [4, 5], [4, 5, 6], [0, 1, 2, 3, 4, 5, 6, 7], [0, 1, 2, 3, 4, 5, 6, 7, 8], [0, 1, 2, 3, 4, 5, 6, 7, 8, 9], [0, 1, 2, 3, 4, 5, 6, 7, 8, 9], [0, 1, 2, 3, 4, 5, 6, 7, 8, 9, 10, 11], [0, 1, 2, 3, 4, 5, 6, 7, 8, 9, 10, 11, 12], [0, 1, 2, 3, 4, 5, 6, 7, 8, 9, 10, 11, 12, 13]] _ (by kernel_rfl) (by kernel_rfl) zAtt (fun _ h => h) ?_
      refine pz ?_
      refine gz ?_
      rw [← hX1]
      exact p_round_exit _ (.refl) ⟨rfl, l1, .inr (hpt2 ▸ hI), rfl⟩
  · rintro D xs l' rfl ⟨l1, hI, hpt, rfl⟩
    simp only [List.cons_append, List.nil_append]
    have hall : xs = tw := by rw [htw] at hpt ⊢; exact tw_all hpt
    refine gz ?_
    exact k_ret2 [D] (l1 ++ G) rfl (l' := l1 ++ G) (by exact zKeep) (by exact zRes) .refl ⟨l1, rfl, .inl ⟨_, rfl, hall ▸ hI⟩⟩
  · rintro D c pre l' hsp ⟨rfl, l1, hor, rfl⟩
    simp only [List.cons_append, List.nil_append]
    refine gz ?_
    refine k_ret2 [D] (l1 ++ G) rfl (l' := l1 ++ G) (by exact zKeep) (by exact zRes) .refl ⟨l1, rfl, ?_⟩
    rcases hor with ⟨h1, h2⟩ | h
    · exact .inr ⟨_, h1, h2⟩
    · exact .inl ⟨_, rfl, h⟩
end Go.Proofs.YtpplknmmjlgadaaGreat.Tr
