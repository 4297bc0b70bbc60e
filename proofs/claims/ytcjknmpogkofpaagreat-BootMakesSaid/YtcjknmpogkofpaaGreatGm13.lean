/- Laws that the statement's proof leans on (joined out of several texts). -/
import Derived.Test.YtcjknmpogkofpaaGreatGm3
import Derived.Test.YtcjknmpogkofpaaGreatGm12
import Derived.Test.YtcjknmpogkofpaaGreatGm5
import Derived.Test.YtcjknmpogkofpaaGreatGm6
import Derived.Test.YtcjknmpogkofpaaGreatGm9
import Derived.Test.YtcjknmpogkofpaaGreatGm10
import Derived.Test.YtcjknmpogkofpaaGreatGm11
set_option linter.unusedVariables false
set_option linter.unusedSimpArgs false
namespace Go.Proofs.YtcjknmpogkofpaaGreat
open Go.RowKit
set_option maxRecDepth 20000
def owV : List OwT → List Value
  | [] => []
  | o :: os => owL o ++ owV os
theorem owV_ext : ∀ {os : List OwT} {i : Nat} {o : OwT}, os[i]? = some o → i * 5 + 5 ≤ (List.toArray (owV os)).size ∧ (List.toArray (owV os)).extract (i * 5) (i * 5 + 5) = List.toArray (owL o)
  | [], i, o, h => by cases h
  | a :: os, 0, o, h => by
    obtain rfl : a = o := Option.some.inj h
    refine ⟨by show 0 * 5 + 5 ≤ (owL a ++ owV os).length; simp [owL], ?_⟩
    show (List.toArray (owL a ++ owV os)).extract (0 * 5) (0 * 5 + 5) = _
    simp [owL, List.extract_eq_take_drop]
  | a :: os, i + 1, o, h => by
    obtain ⟨h1, h2⟩ := owV_ext (os := os) (i := i) (o := o) h
    simp only [List.size_toArray] at h1
    refine ⟨by show (i + 1) * 5 + 5 ≤ (owL a ++ owV os).length; simp [owL]; omega, ?_⟩
    show (List.toArray (owL a ++ owV os)).extract ((i + 1) * 5) ((i + 1) * 5 + 5) = _
    rw [← h2]
    simp only [List.extract_toArray, List.extract_eq_take_drop]
    have e1 : (i + 1) * 5 = i * 5 + (owL a).length := by show _ = i * 5 + 5; omega
    have e2 : (i + 1) * 5 + 5 - (i + 1) * 5 = i * 5 + 5 - i * 5 := by omega
    rw [e2]
    congr 1
    rw [e1, Nat.add_comm, List.drop_append]
    simp
abbrev ow0 : OwT := ⟨0, 0, 0, 0, 0⟩
abbrev capE (o : Int) : CapT := ⟨8, o, 7, 0, 0, 0, 0, 0⟩
theorem capE_w (o : Int) : CapW (capE o) := ⟨Int.le_refl 0, by show (0 : Int) ≤ 9223372036854775807; decide⟩
def shH (H : HS) (nd : Int) (i : Nat) (o : OwT) : HS :=
  let H1 := (derH H (nd, 7) (o.nd, 7) (mintC (atD H.1 (nd, 7)) 7 (i + 1))).2
  (derH H1 (nd, 7) (o.th, 2) (mintC (atD H1.1 (nd, 7)) 7 (101 + i))).2
def shK (nd : Int) (os : List OwT) (H : HS) : Nat → HS
  | 0 => H
  | k + 1 => if k = 0 then shK nd os H k else shH (shK nd os H k) nd k (os.getD k ow0)
def shareH (H : HS) (os : List OwT) (sh : Int) : HS := shK (os.getD 0 ow0).nd os (rootH H ((os.getD 0 ow0).nd, 7) (capE sh)).2 os.length
theorem InvH.shH {H : HS} {n : Nat} (h : InvH H n) (nd : Int) (i : Nat) (o : OwT) : InvH (shH H nd i o) (n + 2) := by
  have h1 := h.der (nd, 7) (o.nd, 7) (mintC (atD H.1 (nd, 7)) 7 (i + 1)) (mint_w (h.at _).2 _ _)
  exact h1.der (nd, 7) (o.th, 2) _ (mint_w (h1.at _).2 _ _)
theorem InvH.shK {H : HS} {n : Nat} (h : InvH H n) (nd : Int) (os : List OwT) : ∀ k, InvH (shK nd os H k) (n + 2 * k)
  | 0 => h
  | k + 1 => by
    show InvH (if k = 0 then _ else _) _
    split
    · exact (InvH.shK h nd os k).mono (by omega)
    · exact ((InvH.shK h nd os k).shH nd k _).mono (by omega)
abbrev slX (B : Nat) (s : slT) : Chunk := (B, .cells (List.toArray (encT s)) 109 (0, 0))
set_option maxHeartbeats 4000000 in
theorem share_any (F C n : Nat) (R : RT) (b : Nat) (p : RP) (s : RL) (hR : IsRl F C n R p s) (hn : n ≤ 900) (os : List OwT) (h0 : 1 ≤ os.length) (h3 : os.length ≤ 3) (sh : Int) (bs cap : Nat) (T : TypeId) (fz : Nat × Nat) (G : List Chunk) (hm : (bs, Obj.cells (List.toArray (owV os)) T fz) ∈ G) :
    Fn Tryz.prog 28 [pV b, .slice (some ⟨bs, 0, none⟩) os.length cap, .int .i64 sh] (allL b p s R G) fun v l' =>
    v = .tuple #[] ∧ ∃ s' X, IsRl F C (n + 7) { R with H := shareH R.H os sh } p s' ∧ l' = allL b p s' { R with H := shareH R.H os sh } (X ++ G) := by
  obtain ⟨o0, ot, rfl⟩ : ∃ o ot, os = o :: ot := by
    cases os with
    | nil => exact absurd h0 (by decide)
    | cons o ot => exact ⟨o, ot, rfl⟩
  refine fn_of_body Tryz.func28 rfl rfl fun E => ?_
  simp only [argF, Tryz.ntmps28]
  unfold allL
  refine gzU ?_
  have hm1 : (bs, Obj.cells (List.toArray (owV (o0 :: ot))) T fz) ∈ rlC b p :: As.asA p.n R.N :: (s.M ++ (s.C ++ (s.A ++ (s.H ++ (s.T ++ (s.Q ++ (s.E ++ (s.V ++ G)))))))) := .tail _ (.tail _ (List.mem_append_right _ (List.mem_append_right _ (List.mem_append_right _ (List.mem_append_right _ (List.mem_append_right _ (List.mem_append_right _ (List.mem_append_right _ (List.mem_append_right _ hm)))))))))
  refine t_q (q_load (v := .int .i64 o0.nd) rfl hm1 rfl) rfl rfl rfl ?_
  refine gzU ?_
  refine t_e e_alloc rfl rfl rfl ?_; rintro _ _ ⟨b6, _, rfl, rfl⟩
  refine gzU ?_
  have hsub1 : ∀ (lq : List Chunk) (c : Chunk), c ∈ [rlC b p, slX b6 (o0.nd, 7)] → c ∈ lq ++ (slX b6 (o0.nd, 7) :: rlC b p :: As.asA p.n R.N :: (s.M ++ (s.C ++ (s.A ++ (s.T ++ (s.Q ++ (s.E ++ (s.V ++ G)))))))) := fun lq c hc => by
    rcases List.mem_cons.1 hc with rfl | hc
    · exact List.mem_append_right _ (.tail _ (.head _))
    · rw [List.mem_singleton.1 hc]; exact List.mem_append_right _ (.head _)
  refine c_keep (l' := s.H ++ (slX b6 (o0.nd, 7) :: rlC b p :: As.asA p.n R.N :: (s.M ++ (s.C ++ (s.A ++ (s.T ++ (s.Q ++ (s.E ++ (s.V ++ G))))))))) (by dsimp only [slX, encT]; exact keep_ac []) ?_
  refine c_draw [(0, true), (1, true), (2, true), (3, true), (4, true), (5, false)] [[], [0], [], [], [3], [0, 1, 2, 3, 4]] ([rlC b p, slX b6 (o0.nd, 7)]) (by kernel_rfl) (by kernel_rfl) zAtt (hsub1 _) ?_
  refine pzU ?_
  apply pl_q
  · exact q_call rfl rfl (fun l hl => rhold_any b p l (hl _ (.head _)))
  · rfl
  · rfl
  · rfl
  refine pzU ?_
  apply pl_e
  · exact e_call0 rfl rfl (hroot_any p.h R.H n hR.inv s.H hR.ho (o0.nd, 7) (capE sh) _)
  · rfl
  · rfl
  · rfl
  · rintro _ _ ⟨_, _, _, rfl⟩; exact hsub1 _
  rintro _ _ ⟨rfl, lH1, hq1, rfl⟩
  refine pzU ?_
  refine gzU ?_
  obtain ⟨H1, hH1⟩ : ∃ x, x = (rootH R.H (o0.nd, 7) (capE sh)).2 := ⟨_, rfl⟩
  have hI1 : InvH H1 (n + 1) := by rw [hH1]; exact InvH.root hR.inv _ _ (capE_w _)
  rw [← hH1] at hq1
  refine k_loop (α := Nat × List Chunk × List Chunk) (fun x => [(0, pV b), (6, pV b6), (20, .slice (some ⟨bs, 0, none⟩) (o0 :: ot).length cap), (21, .int .i64 ((o0 :: ot).length : Nat)), (22, .int .i64 x.1)]) (fun x => x.2.1 ++ (slX b6 (o0.nd, 7) :: rlC b p :: As.asA p.n R.N :: (s.M ++ (s.C ++ (s.A ++ (s.T ++ (s.Q ++ (s.E ++ (s.V ++ (x.2.2 ++ G))))))))))
    (fun x => x.1 ≤ (o0 :: ot).length ∧ IsH p.h (shK o0.nd (o0 :: ot) H1 x.1) x.2.1) (fun x => (o0 :: ot).length - x.1) (0, lH1, []) ⟨Nat.zero_le _, hq1⟩ ⟨rfl, rfl, rfl, rfl, rfl, trivial⟩ (by simp only [List.nil_append]; exact keep_ac []) ?_
  rintro ⟨k, lH, X⟩ ⟨hk, hq⟩
  simp only at hk hq ⊢
  by_cases hkl : k < (o0 :: ot).length
  · obtain ⟨o, ho⟩ : ∃ o, (o0 :: ot)[k]? = some o := ⟨_, List.getElem?_eq_getElem hkl⟩
    obtain ⟨x1, x2⟩ := owV_ext ho
    have hm2 : (bs, Obj.cells (List.toArray (owV (o0 :: ot))) T fz) ∈ lH ++ (slX b6 (o0.nd, 7) :: rlC b p :: As.asA p.n R.N :: (s.M ++ (s.C ++ (s.A ++ (s.T ++ (s.Q ++ (s.E ++ (s.V ++ (X ++ G))))))))) := List.mem_append_right _ (.tail _ (.tail _ (.tail _ (List.mem_append_right _ (List.mem_append_right _ (List.mem_append_right _ (List.mem_append_right _ (List.mem_append_right _ (List.mem_append_right _ (List.mem_append_right _ (List.mem_append_right _ hm)))))))))))
    refine gzU ?_
    refine t_q (q_loadA rfl hm2 x1 x2) rfl rfl rfl ?_
    refine gzU ?_
    refine t_e e_alloc rfl rfl rfl ?_; rintro _ _ ⟨b8, _, rfl, rfl⟩
    refine gzU ?_
    by_cases hk0 : k = 0
    · subst hk0
      refine gzU ?_
      refine k_next (0 + 1, lH, owC b8 o :: X) ⟨by omega, ?_⟩ (by simp only; omega) ⟨rfl, rfl, rfl, rfl, rfl, trivial⟩ (by dsimp only [owC, owL]; exact keep_ac [])
      exact hq
    refine gzU ?_
    have hI : InvH (shK o0.nd (o0 :: ot) H1 k) (n + 1 + 2 * k) := hI1.shK _ _ _
    have hsub2 : ∀ (lq : List Chunk) (c : Chunk), c ∈ [rlC b p, slX b6 (o0.nd, 7), owC b8 o] → c ∈ lq ++ (owC b8 o :: slX b6 (o0.nd, 7) :: rlC b p :: As.asA p.n R.N :: (s.M ++ (s.C ++ (s.A ++ (s.T ++ (s.Q ++ (s.E ++ (s.V ++ (X ++ G))))))))) := fun lq c hc => by
      rcases List.mem_cons.1 hc with rfl | hc
      · exact List.mem_append_right _ (.tail _ (.tail _ (.head _)))
      · rcases List.mem_cons.1 hc with rfl | hc
        · exact List.mem_append_right _ (.tail _ (.head _))
        · rw [List.mem_singleton.1 hc]; exact List.mem_append_right _ (.head _)
    refine c_keep (l' := lH ++ (owC b8 o :: slX b6 (o0.nd, 7) :: rlC b p :: As.asA p.n R.N :: (s.M ++ (s.C ++ (s.A ++ (s.T ++ (s.Q ++ (s.E ++ (s.V ++ (X ++ G)))))))))) (by dsimp only [owC, owL]; exact keep_ac []) ?_
    refine c_draw [(0, true), (1, true), (2, true), (3, true), (4, true), (5, true), (6, true), (7, true), (8, true), (9, false)] [[], [0], [], [], [3], [3, 4], [], [6], [6, 7], [0, 1, 2, 3, 4, 5, 6, 7, 8]] ([rlC b p, slX b6 (o0.nd, 7), owC b8 o]) (by kernel_rfl) (by kernel_rfl) zAtt (hsub2 _) ?_
    refine pzU ?_
    apply pl_q
    · exact q_call rfl rfl (fun l hl => rhold_any b p l (hl _ (.head _)))
    · rfl
    · rfl
    · rfl
    refine pzU ?_
    apply pl_e
    · exact e_call0 rfl rfl (hmint_any p.h (shK o0.nd (o0 :: ot) H1 k) _ (hI) (by omega) lH hq (o0.nd, 7) (o.nd, 7) 7 (k + 1) (by omega) _)
    · rfl
    · rfl
    · rfl
    · rintro _ _ ⟨_, _, _, rfl⟩; exact hsub2 _
    rintro _ _ ⟨rfl, lM1, hm1', rfl⟩
    refine pzU ?_
    refine gzU ?_
    have hI' := hI.der (o0.nd, 7) (o.nd, 7) (mintC (atD (shK o0.nd (o0 :: ot) H1 k).1 (o0.nd, 7)) 7 (k + 1)) (mint_w (hI.at _).2 _ _)
    refine c_draw [(0, true), (1, true), (2, true), (3, true), (4, true), (5, true), (6, true), (7, true), (8, true), (9, false)] [[], [0], [], [], [3], [3, 4], [], [6], [6, 7], [0, 1, 2, 3, 4, 5, 6, 7, 8]] ([rlC b p, slX b6 (o0.nd, 7), owC b8 o]) (by kernel_rfl) (by kernel_rfl) zAtt (hsub2 _) ?_
    refine pzU ?_
    apply pl_q
    · exact q_call rfl rfl (fun l hl => rhold_any b p l (hl _ (.head _)))
    · rfl
    · rfl
    · rfl
    refine pzU ?_
    apply pl_e
    · exact e_call0 rfl rfl (hmint_any p.h _ _ (hI') (by omega) lM1 hm1' (o0.nd, 7) (o.th, 2) 7 (101 + k) (by omega) _)
    · rfl
    · rfl
    · rfl
    · rintro _ _ ⟨_, _, _, rfl⟩; exact hsub2 _
    rintro _ _ ⟨rfl, lM2, hm2', rfl⟩
    refine pzU ?_
    refine gzU ?_
    refine k_next (k + 1, lM2, owC b8 o :: X) ⟨by omega, ?_⟩ (by simp only; omega) ⟨rfl, rfl, rfl, rfl, rfl, trivial⟩ (keep_ac [])
    have e1 : shK o0.nd (o0 :: ot) H1 (k + 1) = shH (shK o0.nd (o0 :: ot) H1 k) o0.nd k o := by
      show (if k = 0 then _ else _) = _
      rw [if_neg hk0, List.getD, ho, Option.getD_some]
    show IsH p.h (shK o0.nd (o0 :: ot) H1 (k + 1)) lM2
    rw [e1]
    exact hm2'
  · refine gzU ?_
    obtain rfl : k = (o0 :: ot).length := by omega
    have hL : shareH R.H (o0 :: ot) sh = shK o0.nd (o0 :: ot) H1 (o0 :: ot).length := by
      show shK o0.nd (o0 :: ot) (rootH R.H (o0.nd, 7) (capE sh)).2 _ = _
      rw [← hH1]
    have hI : InvH (shK o0.nd (o0 :: ot) H1 (o0 :: ot).length) (n + 1 + 2 * (o0 :: ot).length) := hI1.shK _ _ _
    refine k_ret [] rfl (l' := allL b p ⟨s.M, s.C, s.A, lH, s.T, s.Q, s.E, s.V⟩ { R with H := shareH R.H (o0 :: ot) sh } ((slX b6 (o0.nd, 7) :: X) ++ G)) (by unfold allL; dsimp only; exact keep_ac []) (by exact zRes) ⟨rfl, ⟨s.M, s.C, s.A, lH, s.T, s.Q, s.E, s.V⟩, slX b6 (o0.nd, 7) :: X, ?_, rfl⟩
    rw [hL]
    exact ⟨hR.mem, hR.co, hR.ar, hR.an, hq, hI.mono (by omega), fun i hi => by have := hR.giv i hi; simp only; omega, hR.th, hR.qu, fun j hj => Nat.le_trans (hR.ql j hj) (by omega), hR.en, hR.cu, hR.c1⟩
def readyR (R : RT) (id : Int) : RT := match Th.findH R.T id with
  | none => R
  | some t => { R with T := (Th.setD R.T { t with st := 1 }).2, Q := (Qu.addQ R.Q id t.pr).2 }
theorem addQ_len {X : Nat → List Int} {k : Nat} (h : ∀ n, n < 8 → (X n).length ≤ k) (id pr : Int) : ∀ n, n < 8 → ((Qu.addQ X id pr).2 n).length ≤ k + 1 := by
  intro n hn
  have h0 := h n hn
  unfold Qu.addQ
  split
  · exact Nat.le_succ_of_le h0
  split
  · exact Nat.le_succ_of_le h0
  · simp only [Qu.upd]
    split
    · rename_i e
      subst e
      simp only [List.length_append, List.length_cons, List.length_nil]
      omega
    · exact Nat.le_succ_of_le h0
set_option maxHeartbeats 2000000 in
theorem state_any (F C n : Nat) (R : RT) (b : Nat) (p : RP) (s : RL) (hR : IsRl F C n R p s) (hn : n ≤ 900) (id : Int) (G : List Chunk) : Fn Tryz.prog 30 [pV b, .int .i64 id, .int .i64 1] (allL b p s R G) fun v l' =>
    (∃ e, v = .int .i64 e) ∧ ∃ s' X, IsRl F C (n + 1) (readyR R id) p s' ∧ l' = allL b p s' (readyR R id) (X ++ G) := by
  refine fn_of_body Tryz.func30 rfl rfl fun E => ?_
  simp only [argF, Tryz.ntmps30]
  unfold allL
  refine gzU ?_
  refine t_q (q_call rfl rfl (fun l hl => Th.get_any p.t R.T s.T hR.th id l (fun c hc => hl _ (.tail _ (.tail _ (List.mem_append_right _ (List.mem_append_right _ (List.mem_append_right _ (List.mem_append_right _ (List.mem_append_left _ hc)))))))))) rfl rfl rfl ?_
  cases hf : Th.findH R.T id with
  | none =>
    have e : readyR R id = R := by unfold readyR; rw [hf]
    simp only [Option.getD_none, Option.isSome_none]
    refine gzU ?_
    refine t_e e_alloc rfl rfl rfl ?_; rintro _ _ ⟨b7, _, rfl, rfl⟩
    refine gzU ?_
    refine k_ret [] rfl (l' := allL b p s R ([Th.thC b7 Th.thZ] ++ G)) (by unfold allL; dsimp only [Th.thC, Th.encH, Th.thZ]; exact keep_ac []) (by exact zRes) ⟨⟨_, rfl⟩, s, [Th.thC b7 Th.thZ], ?_, by rw [e]; rfl⟩
    rw [e]
    exact hR.mono (by omega)
  | some t =>
    have e : readyR R id = { R with T := (Th.setD R.T { t with st := 1 }).2, Q := (Qu.addQ R.Q id t.pr).2 } := by unfold readyR; rw [hf]
    simp only [Option.getD_some, Option.isSome_some]
    refine gzU ?_
    refine t_e e_alloc rfl rfl rfl ?_; rintro _ _ ⟨b7, _, rfl, rfl⟩
    refine gzU ?_
    have hsub1 : ∀ (lq : List Chunk) (c : Chunk), c ∈ [rlC b p, Th.thC b7 { t with st := 1 }] → c ∈ lq ++ (Th.thC b7 { t with st := 1 } :: rlC b p :: As.asA p.n R.N :: (s.M ++ (s.C ++ (s.A ++ (s.H ++ (s.Q ++ (s.E ++ (s.V ++ G)))))))) := fun lq c hc => by
      rcases List.mem_cons.1 hc with rfl | hc
      · exact List.mem_append_right _ (.tail _ (.head _))
      · rw [List.mem_singleton.1 hc]; exact List.mem_append_right _ (.head _)
    refine c_keep (l' := s.T ++ (Th.thC b7 { t with st := 1 } :: rlC b p :: As.asA p.n R.N :: (s.M ++ (s.C ++ (s.A ++ (s.H ++ (s.Q ++ (s.E ++ (s.V ++ G))))))))) (by dsimp only [Th.thC, Th.encH]; exact keep_ac []) ?_
    refine c_draw [(0, true), (1, true), (2, true), (3, true), (4, true), (5, false)] [[], [0], [0, 1], [0, 1, 2], [], [0, 1, 2, 3, 4]] ([rlC b p, Th.thC b7 { t with st := 1 }]) (by kernel_rfl) (by kernel_rfl) zAtt (hsub1 _) ?_
    refine pzU ?_
    apply pl_e
    · exact e_call0 rfl rfl (Th.set_any p.t R.T s.T hR.th { t with st := 1 } _)
    · rfl
    · rfl
    · rfl
    · rintro _ _ ⟨_, _, _, rfl⟩; exact hsub1 _
    rintro _ _ ⟨rfl, lT, hT, rfl⟩
    refine pzU ?_
    refine gzU ?_
    have hsub2 : ∀ (lq : List Chunk) (c : Chunk), c ∈ [rlC b p, Th.thC b7 { t with st := 1 }] → c ∈ lq ++ (Th.thC b7 { t with st := 1 } :: rlC b p :: As.asA p.n R.N :: (s.M ++ (s.C ++ (s.A ++ (s.H ++ (lT ++ (s.E ++ (s.V ++ G)))))))) := fun lq c hc => by
      rcases List.mem_cons.1 hc with rfl | hc
      · exact List.mem_append_right _ (.tail _ (.head _))
      · rw [List.mem_singleton.1 hc]; exact List.mem_append_right _ (.head _)
    refine c_keep (l' := s.Q ++ (Th.thC b7 { t with st := 1 } :: rlC b p :: As.asA p.n R.N :: (s.M ++ (s.C ++ (s.A ++ (s.H ++ (lT ++ (s.E ++ (s.V ++ G))))))))) (keep_ac []) ?_
    refine c_draw [(0, true), (1, true), (2, true), (3, true), (4, true), (5, true), (6, true), (7, false)] [[], [0], [0, 1], [0, 1, 2], [], [], [5], [0, 1, 2, 3, 4, 5, 6]] ([rlC b p, Th.thC b7 { t with st := 1 }]) (by kernel_rfl) (by kernel_rfl) zAtt (hsub2 _) ?_
    refine pzU ?_
    apply pl_e
    · exact e_call0 rfl rfl (Qu.add_any p.q R.Q s.Q id t.pr hR.qu (fun j hj => by have := hR.ql j hj; omega) _)
    · rfl
    · rfl
    · rfl
    · rintro _ _ ⟨_, _, _, rfl⟩; exact hsub2 _
    rintro _ _ ⟨rfl, lQ, hQ, rfl⟩
    refine pzU ?_
    refine gzU ?_
    rw [e]
    refine k_ret [] rfl (l' := allL b p ⟨s.M, s.C, s.A, s.H, lT, lQ, s.E, s.V⟩ { R with T := (Th.setD R.T { t with st := 1 }).2, Q := (Qu.addQ R.Q id t.pr).2 } ([Th.thC b7 { t with st := 1 }] ++ G)) (by unfold allL; dsimp only; exact keep_ac []) (by exact zRes) ⟨⟨_, rfl⟩, ⟨s.M, s.C, s.A, s.H, lT, lQ, s.E, s.V⟩, [Th.thC b7 { t with st := 1 }], ?_, rfl⟩
    exact ⟨hR.mem, hR.co, hR.ar, hR.an, hR.ho, hR.inv.mono (by omega), fun i hi => by have := hR.giv i hi; simp only; omega, hT, hQ, addQ_len hR.ql id t.pr, hR.en, hR.cu, hR.c1⟩
abbrev knC (B b : Nat) : Chunk := (B, .cells (List.toArray [pV b]) 117 (0, 0))
theorem knew_any (b : Nat) (l : List Chunk) : Fn Tryz.prog 31 [pV b] l fun v l' => ∃ B, v = .tuple #[pV B, .int .i64 0] ∧ l' = knC B b :: l := by
  refine fn_of_body Tryz.func31 rfl rfl fun E => ?_
  simp only [argF, Tryz.ntmps31]
  refine gzU ?_
  refine t_e (e_boxA rfl) rfl rfl rfl ?_
  rintro _ _ ⟨B, _, rfl, rfl⟩
  refine gzU ?_
  exact k_ret [] rfl .refl (by exact zRes) ⟨B, rfl, rfl⟩
abbrev rrC (b : Nat) (p : RP) : Chunk := (b, .cells (List.toArray [pV p.m, pV p.c, pV p.a, pV p.h, pV p.n, pV p.t, pV p.q, pV p.e, p.v]) 63 (0, 0))
def allR (b : Nat) (p : RP) (s : RL) (N : As.ASt) (G : List Chunk) : List Chunk := rrC b p :: As.rfA p.n N :: (s.M ++ (s.C ++ (s.A ++ (s.H ++ (s.T ++ (s.Q ++ (s.E ++ (s.V ++ G))))))))
structure IsRR (F C k : Nat) (R : RT) (L : List (Int × Int)) (p : RP) (s : RL) : Prop where
  mem : IsM2 p.m F s.M
  co : IsC7 p.c C s.C
  ar : Ar.IsR p.a R.A s.A
  an : R.A.n = F
  ho : IsRH p.h R.H s.H
  inv : InvH R.H k
  giv : ∀ n, n < 32 → 0 ≤ R.N.given n ∧ R.N.given n ≤ k
  fit : As.Fit R.N
  th : Th.IsRX p.t R.T s.T
  ta : R.T.Pairwise fun x y => x.id < y.id
  tl : R.T.length ≤ k
  qu : Qu.IsR p.q L s.Q
  ql : L.length ≤ k
  en : En.IsF p.e R.E s.E
  el : R.E.length ≤ k
  cu : OwnSl 3 1 p.v C (List.replicate C (.int .i64 0)) s.V
  c1 : 1 ≤ C ∧ C ≤ 3
theorem ref0_cells : As.ASt.zero.cells = List.toArray [.int .i64 0, .bool false, .int .i64 0, .int .i64 0, .int .i64 0, .int .i64 0, .int .i64 0, .int .i64 0, .int .i64 0, .int .i64 0, .int .i64 0, .bool false, .int .i64 0, .int .i64 0, .int .i64 0, .int .i64 0, .int .i64 0, .int .i64 0, .int .i64 0, .int .i64 0, .int .i64 0, .bool false, .int .i64 0, .int .i64 0, .int .i64 0, .int .i64 0, .int .i64 0, .int .i64 0, .int .i64 0, .int .i64 0, .int .i64 0, .bool false, .int .i64 0, .int .i64 0, .int .i64 0, .int .i64 0, .int .i64 0, .int .i64 0, .int .i64 0, .int .i64 0, .int .i64 0, .bool false, .int .i64 0, .int .i64 0, .int .i64 0, .int .i64 0, .int .i64 0, .int .i64 0, .int .i64 0, .int .i64 0, .int .i64 0, .bool false, .int .i64 0, .int .i64 0, .int .i64 0, .int .i64 0, .int .i64 0, .int .i64 0, .int .i64 0, .int .i64 0, .int .i64 0, .bool false, .int .i64 0, .int .i64 0, .int .i64 0, .int .i64 0, .int .i64 0, .int .i64 0, .int .i64 0, .int .i64 0, .int .i64 0, .bool false, .int .i64 0, .int .i64 0, .int .i64 0, .int .i64 0, .int .i64 0, .int .i64 0, .int .i64 0, .int .i64 0, .int .i64 0, .int .i64 0, .int .i64 0, .int .i64 0, .int .i64 0, .int .i64 0, .int .i64 0, .int .i64 0, .int .i64 0, .int .i64 0, .int .i64 0, .int .i64 0, .int .i64 0, .int .i64 0, .int .i64 0, .int .i64 0, .int .i64 0, .int .i64 0, .int .i64 0, .int .i64 0, .int .i64 0, .int .i64 0, .int .i64 0, .int .i64 0, .int .i64 0, .int .i64 0, .int .i64 0, .int .i64 0, .int .i64 0, .int .i64 0, .int .i64 0, .int .i64 0] := by kernel_rfl
set_option maxHeartbeats 2000000 in
theorem rrnew_any (F C : Nat) (hF : 1 ≤ F ∧ F ≤ 64) (hC : 1 ≤ C ∧ C ≤ 3) (G : List Chunk) : Fn Tryz.prog 32 [.int .i64 (F : Nat), .int .i64 (C : Nat)] G fun v l' => ∃ b p s X, v = .tuple #[pV b, .int .i64 0] ∧ IsRR F C 0 (newR F) [] p s ∧ l' = allR b p s As.ASt.zero (X ++ G) := by
  refine fn_of_body Tryz.func32 rfl rfl fun E => ?_
  simp only [argF, Tryz.ntmps32]
  refine gzU ?_
  refine t_e (e_call0 rfl rfl (m2new_any F hF.1 hF.2 _)) rfl rfl rfl ?_
  rintro _ _ ⟨bm, rfl, lm, hm, rfl⟩
  refine gzU ?_
  refine t_e (e_call0 rfl rfl (c7new_any C hC.1 hC.2 _)) rfl rfl rfl ?_
  rintro _ _ ⟨bc, rfl, lc, X, hc, rfl⟩
  refine gzU ?_
  refine t_e (e_call0 rfl rfl (Ar.rnew_any F _)) rfl rfl rfl ?_
  rintro _ _ (⟨h, _⟩ | ⟨_, ba, la, rfl, ha, rfl⟩)
  · exact absurd h (by omega)
  refine gzU ?_
  refine c_drawL [(0, true), (1, true), (2, true), (4, true), (6, true), (8, true), (10, true), (12, true), (3, false), (5, false), (7, false), (9, false), (11, false), (13, false), (14, true), (15, false), (16, true), (17, true)] [[], [], [], [], [], [4], [], [6], [], [8], [], [10], [], [12], [0, 1, 2, 3, 4, 5, 6, 7, 8, 9, 10, 11, 12, 13], [0, 1, 2, 3, 4, 5, 6, 7, 8, 9, 10, 11, 12, 13, 14], [0, 1, 2, 3, 4, 5, 6, 7, 8, 9, 10, 11, 12, 13, 14, 15], [0, 1, 2, 3, 4, 5, 6, 7, 8, 9, 10, 11, 12, 13, 14, 15, 16]] (some [(3, 5), (3, 7), (3, 9), (3, 11), (3, 13), (5, 7), (5, 9), (5, 11), (5, 13), (7, 9), (7, 11), (7, 13), (9, 11), (9, 13), (11, 13)]) _ (by kernel_rfl) (by kernel_rfl) zAtt (fun _ h => h) ?_
  refine pzU ?_
  refine pl_any2 [(3, _, fun v cs => ∃ b, v = .pointer (some ⟨b, 0, none⟩) ∧ IsRH b ([], []) cs), (5, _, _), (7, _, _), (9, _, _), (11, _, _), (13, _, _)] rfl rfl (fun _ h => h) (fun _ h => by cases h) ⟨ad_call rfl rfl (fun l' hl => (rhnew_any l').mono fun v l2 ⟨b, h1, lq, h2, h3⟩ => ⟨lq, ⟨b, h1, h2⟩, h3⟩) rfl rfl, ad_box rfl rfl rfl, ad_box rfl rfl rfl, ad_box rfl rfl rfl, ad_box rfl rfl rfl, ad_makeSlice (n := C) (kk := 1) (yb := 8) (zs := [.int .i64 0]) (xs := List.replicate C (.int .i64 0)) rfl rfl (by omega) (by omega) (by decide) (rep_flat _ _) rfl rfl, trivial⟩ (by kernel_rfl) (by kernel_rfl) (by kernel_rfl) ?_
  rintro _ lh ⟨bh, rfl, hh⟩ _ _ ⟨bn, rfl, rfl⟩ _ _ ⟨bt, rfl, rfl⟩ _ _ ⟨bq, rfl, rfl⟩ _ _ ⟨be, rfl, rfl⟩ _ _ ⟨bv, rfl, rfl⟩
  simp only [putF, List.cons_append, List.nil_append]
  refine pzU ?_
  apply pl_e
  · exact e_boxA rfl
  · rfl
  · rfl
  · rfl
  · rintro _ _ ⟨_, _, _, rfl⟩ q hq; exact .tail _ (.tail _ (.tail _ (.tail _ (.tail _ (.tail _ (List.mem_append_right _ hq))))))
  rintro _ _ ⟨b, _, rfl, rfl⟩
  rw [← ref0_cells]
  refine pzU ?_
  refine gzU ?_
  refine k_ret [] rfl (l' := allR b ⟨bm, bc, ba, bh, bn, bt, bq, be, .slice (some ⟨bv, 0, none⟩) C C⟩ ⟨lm, lc, la, lh, [Th.rxC bt (.slice none 0 0)], [Qu.rqC bq (.slice none 0 0)], [En.rfC be (.slice none 0 0)], [(bv, .cells (List.toArray (List.replicate C (.int .i64 0))) 3 (0, 0))]⟩ As.ASt.zero (X ++ G)) (by unfold allR; dsimp only [rrC, pV, As.rfA, newR, Th.rxC, Qu.rqC, En.rfC]; simp only [List.getElem_toArray, List.getElem_cons_zero]; exact keep_ac []) (by exact zRes) ?_
  refine ⟨b, _, _, X, rfl, ?_, rfl⟩
  exact ⟨hm, hc, ha, rfl, hh, inv0, fun n hn => ⟨Int.le_refl _, Int.le_refl _⟩, As.Fit.zero, ⟨_, [], rfl, OwnSl.nil _ _⟩, .nil, Nat.le_refl _, ⟨_, [], OwnSl.nil _ _, rfl⟩, Nat.le_refl _, ⟨[], _, [], rfl, ⟨rfl, OwnSl.nil _ _, fun r hr => by cases hr⟩⟩, Nat.le_refl _, ⟨by simp, .inr ⟨bv, C, [], rfl, by simp, Nat.le_refl _, by unfold maxLen; omega, by simp⟩⟩, hC⟩
section
variable (b : Nat) (p : RP) (M C A H T Q E V G : List Chunk) (N : As.ASt)
theorem pmM : (allR b p ⟨M, C, A, H, T, Q, E, V⟩ N G).Perm (M ++ (rrC b p :: As.rfA p.n N :: (C ++ (A ++ (H ++ (T ++ (Q ++ (E ++ (V ++ G))))))))) := by unfold allR; exact perm_ac
theorem pmC : (allR b p ⟨M, C, A, H, T, Q, E, V⟩ N G).Perm (C ++ (rrC b p :: As.rfA p.n N :: (M ++ (A ++ (H ++ (T ++ (Q ++ (E ++ (V ++ G))))))))) := by unfold allR; exact perm_ac
theorem pmA : (allR b p ⟨M, C, A, H, T, Q, E, V⟩ N G).Perm (A ++ (rrC b p :: As.rfA p.n N :: (M ++ (C ++ (H ++ (T ++ (Q ++ (E ++ (V ++ G))))))))) := by unfold allR; exact perm_ac
theorem pmH : (allR b p ⟨M, C, A, H, T, Q, E, V⟩ N G).Perm (H ++ (rrC b p :: As.rfA p.n N :: (M ++ (C ++ (A ++ (T ++ (Q ++ (E ++ (V ++ G))))))))) := by unfold allR; exact perm_ac
theorem pmT : (allR b p ⟨M, C, A, H, T, Q, E, V⟩ N G).Perm (T ++ (rrC b p :: As.rfA p.n N :: (M ++ (C ++ (A ++ (H ++ (Q ++ (E ++ (V ++ G))))))))) := by unfold allR; exact perm_ac
theorem pmE : (allR b p ⟨M, C, A, H, T, Q, E, V⟩ N G).Perm (E ++ (rrC b p :: As.rfA p.n N :: (M ++ (C ++ (A ++ (H ++ (T ++ (Q ++ (V ++ G))))))))) := by unfold allR; exact perm_ac
theorem pmN : (allR b p ⟨M, C, A, H, T, Q, E, V⟩ N G).Perm (As.rfA p.n N :: (rrC b p :: (M ++ (C ++ (A ++ (H ++ (T ++ (Q ++ (E ++ (V ++ G)))))))))) := by unfold allR; exact perm_ac
end
theorem Fn.same {P : Program} {f : FuncId} {args : List Value} {A F Lst : List Chunk} {x : Value} (hp : Lst.Perm (A ++ F)) (h : Fn P f args (A ++ F) fun v l' => v = x ∧ l' = A ++ F) : Fn P f args Lst fun v l' => v = x ∧ l' = Lst :=
  Fn.re (.of_perm hp) h fun v l' ⟨h1, h2⟩ => ⟨Lst, by subst h2; exact .of_perm hp.symm, h1, rfl⟩
theorem th_len (L : Th.TL) (a : Int) : (Th.addD L a).2.length ≤ L.length + 1 := by
  unfold Th.addD
  split
  · simp
  · split
    · simp
    · show (Th.insH L _).length ≤ _
      unfold Th.insH
      have := congrArg List.length (List.takeWhile_append_dropWhile (p := fun x : Th.ThT => decide (x.id < (Th.thNew a).id)) (l := L))
      simp only [List.length_append, List.length_cons] at this ⊢
      omega
theorem th_asc {L : Th.TL} (h : L.Pairwise fun x y => x.id < y.id) (a : Int) : (Th.addD L a).2.Pairwise fun x y => x.id < y.id := by
  unfold Th.addD
  split
  · exact h
  · split
    · exact h
    · rename_i h1
      exact ins_asc (key := Th.ThT.id) h (by
        show L.find? _ = none
        cases hf : Th.findH L a with
        | none => exact hf
        | some t => rw [hf] at h1; exact absurd rfl h1)
theorem en_len (D : En.DE) (a : Int) : (En.addD D a).2.length ≤ D.length + 1 := by
  unfold En.addD
  split
  · simp
  · split <;> simp
theorem th_put {L : Th.TL} (h : L.Pairwise fun x y => x.id < y.id) (t : Th.ThT) : (Th.setD L t).2.Pairwise (fun x y => x.id < y.id) ∧ (Th.setD L t).2.length = L.length := by
  unfold Th.setD
  split
  · refine ⟨?_, by simp [Th.putH]⟩
    have h2 : (L.map Th.ThT.id).Pairwise (fun x y => x < y) := List.pairwise_map.2 h
    rw [← Th.putH_ids L t] at h2
    exact List.pairwise_map.1 h2
  · exact ⟨h, rfl⟩
theorem rsl9_any (l : List Chunk) : Fn Tryz.prog 101 [.int .i64 9, .int .i64 0] l fun v l' => v = .int .i64 3 ∧ l' = l := by
  refine fn_of_body Tryz.func101 rfl rfl fun E => ?_
  simp only [argF, Tryz.ntmps101]
  refine gzU ?_
  exact k_ret [] rfl .refl (by exact zRes) ⟨rfl, rfl⟩
theorem rsl2_any (l : List Chunk) : Fn Tryz.prog 101 [.int .i64 2, .int .i64 4] l fun v l' => v = .int .i64 16 ∧ l' = l := by
  refine fn_of_body Tryz.func101 rfl rfl fun E => ?_
  simp only [argF, Tryz.ntmps101]
  refine gzU ?_
  exact k_ret [] rfl .refl (by exact zRes) ⟨rfl, rfl⟩
set_option maxHeartbeats 2000000 in
theorem rmake9_any (F C n : Nat) (R : RT) (L : List (Int × Int)) (b : Nat) (p : RP) (s : RL) (hR : IsRR F C n R L p s) (hn : n ≤ 900) (f : Int) (G : List Chunk) : Fn Tryz.prog 33 [pV b, .int .i64 9, .int .i64 0, .int .i64 f] (allR b p s R.N G) fun v l' =>
    v = .tuple #[.int .i64 (makeR R 9 0 f).1.1, .int .i64 (makeR R 9 0 f).1.2] ∧ ∃ s', IsRR F C (n + 1) (makeR R 9 0 f).2 L p s' ∧ l' = allR b p s' R.N G := by
  obtain ⟨M, C0, A, H, T, Q, E0, V⟩ := s
  obtain ⟨hmem, hco, har, han, hho, hinv, hgiv, hfit, hth, hta, htl, hqu, hql, hen, hel, hcu, hc1⟩ := hR
  simp only at hmem hco har hho hth hqu hen hcu
  have hm0 : rrC b p ∈ allR b p ⟨M, C0, A, H, T, Q, E0, V⟩ R.N G := .head _
  refine fn_of_body Tryz.func33 rfl rfl fun E => ?_
  simp only [argF, Tryz.ntmps33]
  refine gzU ?_
  refine t_e (e_call0 rfl rfl (Fn.mvP (fun A => allR b p ⟨M, C0, A, H, T, Q, E0, V⟩ R.N G) (Ar.radd_any p.a R.A A har 9 0 f _) (fun A => pmA ..))) rfl rfl rfl ?_
  rintro _ _ ⟨rfl, lA, hA, rfl⟩
  have hm1 : rrC b p ∈ allR b p ⟨M, C0, lA, H, T, Q, E0, V⟩ R.N G := .head _
  clear hm0
  have hAn : (Ar.addD R.A 9 0 f).2.n = F := by rw [add_n]; exact han
  have gv : ∀ j, j < 32 → 0 ≤ R.N.given j ∧ R.N.given j ≤ ((n + 1 : Nat) : Int) := fun j hj => by have := hgiv j hj; omega
  by_cases he : (Ar.addD R.A 9 0 f).1.2 = 0
  case neg =>
    have hmk : makeR R 9 0 f = ((0, (Ar.addD R.A 9 0 f).1.2), { R with A := (Ar.addD R.A 9 0 f).2 }) := by unfold makeR; rw [if_neg he]
    rw [hmk]
    refine gzU ?_
    refine k_ret [] rfl .refl (by exact zRes) ?_
    exact ⟨rfl, ⟨M, C0, lA, H, T, Q, E0, V⟩, ⟨hmem, hco, hA, hAn, hho, hinv.mono (by omega), gv, hfit, hth, hta, by simp only; omega, hqu, by omega, hen, by simp only; omega, hcu, hc1⟩, rfl⟩
  have hsl : 0 < Ar.slotsD 9 0 := by decide
  have hmk : makeR R 9 0 f = (((Ar.addD R.A 9 0 f).1.1, 0), ⟨(Ar.addD R.A 9 0 f).2, ((addN R.H.1 (Ar.addD R.A 9 0 f).1.1 (Ar.slotsD 9 0)).2, R.H.2), R.N, (Th.addD R.T (Ar.addD R.A 9 0 f).1.1).2, R.Q, R.E⟩) := by unfold makeR; rw [if_pos he, if_pos hsl, if_pos (by decide), if_neg (by decide)]
  rw [hmk]
  obtain ⟨r1, r2, r3⟩ := add_rng he
  rw [han] at r2
  obtain ⟨f', hf'⟩ : ∃ f' : Nat, f = f' := ⟨f.toNat, by omega⟩
  obtain ⟨fr, hfr⟩ : ∃ fr : Nat, Ar.framesD 9 0 = fr := ⟨(Ar.framesD 9 0).toNat, by omega⟩
  obtain ⟨id, hid⟩ : ∃ x, x = (Ar.addD R.A 9 0 f).1.1 := ⟨_, rfl⟩
  rw [← hid]
  rw [he]
  refine gzU ?_
  refine c_draw [(0, true), (1, true), (2, true), (3, true), (4, true), (5, true), (6, true), (7, true), (8, false)] [[], [0], [0, 1], [0, 1, 2], [], [], [], [5, 6], [0, 1, 2, 3, 4, 5, 6, 7]] _ (by kernel_rfl) (by kernel_rfl) zAtt (fun _ h => h) ?_
  refine pzU ?_
  apply pl_q
  · exact q_call rfl rfl (fun l2 hl => Ar.rfr_any 9 0 l2)
  · rfl
  · rfl
  · rfl
  rw [hfr]
  refine pzU ?_
  apply pl_e
  · exact e_call0 rfl rfl (by rw [hf']; exact Fn.same (pmM ..) (m2zero_any p.m F f' fr M hmem (by omega) (by omega) _))
  · rfl
  · rfl
  · rfl
  · rintro _ _ ⟨_, rfl⟩ q hq; exact hq
  rintro _ _ ⟨rfl, rfl⟩
  refine pzU ?_
  refine gzU ?_
  obtain ⟨bs, bt, ls, lt, hB⟩ := hho
  obtain rfl := hB.eq
  have hm2 : rhoC p.h bs bt ∈ allR b p ⟨M, C0, lA, (rhoC p.h bs bt :: (ls ++ lt)), T, Q, E0, V⟩ R.N G := by unfold allR; simp
  have hs2 : ∀ c, c ∈ [rrC b p, rhoC p.h bs bt] → c ∈ allR b p ⟨M, C0, lA, (rhoC p.h bs bt :: (ls ++ lt)), T, Q, E0, V⟩ R.N G := fun c hc => by
    rcases List.mem_cons.1 hc with rfl | hc
    · exact hm1
    · rw [List.mem_singleton.1 hc]; exact hm2
  refine c_draw [(0, true), (1, true), (2, true), (3, true), (4, true), (5, true), (6, true), (7, true), (8, true), (9, true), (10, true), (11, false)] [[], [0], [0, 1], [0, 1, 2], [0, 1, 2, 3], [0, 1, 2, 3, 4], [0, 1, 2, 3, 4, 5], [], [], [], [8, 9], [0, 1, 2, 3, 4, 5, 6, 7, 8, 9, 10]] ([rrC b p, rhoC p.h bs bt]) (by kernel_rfl) (by kernel_rfl) zAtt (hs2) ?_
  refine pzU ?_
  apply pl_q
  · exact q_call rfl rfl (fun l2 hl => rsl9_any l2)
  · rfl
  · rfl
  · rfl
  refine pzU ?_
  apply pl_e
  · exact e_call0 rfl rfl (Fn.mvP (fun X => allR b p ⟨M, C0, lA, rhoC p.h bs bt :: (X ++ lt), T, Q, E0, V⟩ R.N G) (radd_any bs R.H.1 ls hB.s (by have := (hinv.small (by omega)).1; omega) id (Ar.slotsD 9 0) (rrC b p :: As.rfA p.n R.N :: (M ++ (C0 ++ (lA ++ (rhoC p.h bs bt :: (lt ++ (T ++ (Q ++ (E0 ++ (V ++ G))))))))))) (fun X => by unfold allR; exact perm_ac))
  · rfl
  · rfl
  · rfl
  · rintro _ _ ⟨_, X, _, rfl⟩ c hc
    unfold allR
    rcases List.mem_cons.1 hc with rfl | hc
    · exact .head _
    · rw [List.mem_singleton.1 hc]; simp
  rintro _ _ ⟨rfl, lS, hS, rfl⟩
  refine pzU ?_
  have hm3 : rrC b p ∈ allR b p ⟨M, C0, lA, rhoC p.h bs bt :: (lS ++ lt), T, Q, E0, V⟩ R.N G := .head _
  refine gzU ?_
  refine t_e (e_call0 rfl rfl (Fn.mvP (fun X => allR b p ⟨M, C0, lA, rhoC p.h bs bt :: (lS ++ lt), X, Q, E0, V⟩ R.N G) (Th.radd_any p.t R.T T hth (by omega) hta id _) (fun X => pmT ..))) rfl rfl rfl ?_
  rintro _ _ ⟨rfl, lT, hT, rfl⟩
  refine gzU ?_
  refine k_ret [] rfl .refl (by exact zRes) ?_
  exact ⟨rfl, ⟨M, C0, lA, rhoC p.h bs bt :: (lS ++ lt), lT, Q, E0, V⟩, ⟨hmem, hco, hA, hAn, (⟨bs, bt, lS, lt, ⟨rfl, hS, hB.t⟩⟩ : IsRH p.h ((addN R.H.1 id (Ar.slotsD 9 0)).2, R.H.2) (rhoC p.h bs bt :: (lS ++ lt))), hinv.add _ _, gv, hfit, hT, th_asc hta id, by have := th_len R.T id; simp only; omega, hqu, by omega, hen, by simp only; omega, hcu, hc1⟩, rfl⟩
set_option maxHeartbeats 2000000 in
theorem rmake2_any (F C n : Nat) (R : RT) (L : List (Int × Int)) (b : Nat) (p : RP) (s : RL) (hR : IsRR F C n R L p s) (hn : n ≤ 900) (f : Int) (G : List Chunk) : Fn Tryz.prog 33 [pV b, .int .i64 2, .int .i64 4, .int .i64 f] (allR b p s R.N G) fun v l' =>
    v = .tuple #[.int .i64 (makeR R 2 4 f).1.1, .int .i64 (makeR R 2 4 f).1.2] ∧ ∃ s', IsRR F C (n + 1) (makeR R 2 4 f).2 L p s' ∧ l' = allR b p s' R.N G := by
  obtain ⟨M, C0, A, H, T, Q, E0, V⟩ := s
  obtain ⟨hmem, hco, har, han, hho, hinv, hgiv, hfit, hth, hta, htl, hqu, hql, hen, hel, hcu, hc1⟩ := hR
  simp only at hmem hco har hho hth hqu hen hcu
  have hm0 : rrC b p ∈ allR b p ⟨M, C0, A, H, T, Q, E0, V⟩ R.N G := .head _
  refine fn_of_body Tryz.func33 rfl rfl fun E => ?_
  simp only [argF, Tryz.ntmps33]
  refine gzU ?_
  refine t_e (e_call0 rfl rfl (Fn.mvP (fun A => allR b p ⟨M, C0, A, H, T, Q, E0, V⟩ R.N G) (Ar.radd_any p.a R.A A har 2 4 f _) (fun A => pmA ..))) rfl rfl rfl ?_
  rintro _ _ ⟨rfl, lA, hA, rfl⟩
  have hm1 : rrC b p ∈ allR b p ⟨M, C0, lA, H, T, Q, E0, V⟩ R.N G := .head _
  clear hm0
  have hAn : (Ar.addD R.A 2 4 f).2.n = F := by rw [add_n]; exact han
  have gv : ∀ j, j < 32 → 0 ≤ R.N.given j ∧ R.N.given j ≤ ((n + 1 : Nat) : Int) := fun j hj => by have := hgiv j hj; omega
  by_cases he : (Ar.addD R.A 2 4 f).1.2 = 0
  case neg =>
    have hmk : makeR R 2 4 f = ((0, (Ar.addD R.A 2 4 f).1.2), { R with A := (Ar.addD R.A 2 4 f).2 }) := by unfold makeR; rw [if_neg he]
    rw [hmk]
    refine gzU ?_
    refine k_ret [] rfl .refl (by exact zRes) ?_
    exact ⟨rfl, ⟨M, C0, lA, H, T, Q, E0, V⟩, ⟨hmem, hco, hA, hAn, hho, hinv.mono (by omega), gv, hfit, hth, hta, by simp only; omega, hqu, by omega, hen, by simp only; omega, hcu, hc1⟩, rfl⟩
  have hsl : 0 < Ar.slotsD 2 4 := by decide
  have hmk : makeR R 2 4 f = (((Ar.addD R.A 2 4 f).1.1, 0), ⟨(Ar.addD R.A 2 4 f).2, ((addN R.H.1 (Ar.addD R.A 2 4 f).1.1 (Ar.slotsD 2 4)).2, R.H.2), R.N, R.T, R.Q, R.E⟩) := by unfold makeR; rw [if_pos he, if_pos hsl, if_neg (by decide), if_neg (by decide)]
  rw [hmk]
  obtain ⟨r1, r2, r3⟩ := add_rng he
  rw [han] at r2
  obtain ⟨f', hf'⟩ : ∃ f' : Nat, f = f' := ⟨f.toNat, by omega⟩
  obtain ⟨fr, hfr⟩ : ∃ fr : Nat, Ar.framesD 2 4 = fr := ⟨(Ar.framesD 2 4).toNat, by omega⟩
  obtain ⟨id, hid⟩ : ∃ x, x = (Ar.addD R.A 2 4 f).1.1 := ⟨_, rfl⟩
  rw [← hid]
  rw [he]
  refine gzU ?_
  refine c_draw [(0, true), (1, true), (2, true), (3, true), (4, true), (5, true), (6, true), (7, true), (8, false)] [[], [0], [0, 1], [0, 1, 2], [], [], [], [5, 6], [0, 1, 2, 3, 4, 5, 6, 7]] _ (by kernel_rfl) (by kernel_rfl) zAtt (fun _ h => h) ?_
  refine pzU ?_
  apply pl_q
  · exact q_call rfl rfl (fun l2 hl => Ar.rfr_any 2 4 l2)
  · rfl
  · rfl
  · rfl
  rw [hfr]
  refine pzU ?_
  apply pl_e
  · exact e_call0 rfl rfl (by rw [hf']; exact Fn.same (pmM ..) (m2zero_any p.m F f' fr M hmem (by omega) (by omega) _))
  · rfl
  · rfl
  · rfl
  · rintro _ _ ⟨_, rfl⟩ q hq; exact hq
  rintro _ _ ⟨rfl, rfl⟩
  refine pzU ?_
  refine gzU ?_
  obtain ⟨bs, bt, ls, lt, hB⟩ := hho
  obtain rfl := hB.eq
  have hm2 : rhoC p.h bs bt ∈ allR b p ⟨M, C0, lA, (rhoC p.h bs bt :: (ls ++ lt)), T, Q, E0, V⟩ R.N G := by unfold allR; simp
  have hs2 : ∀ c, c ∈ [rrC b p, rhoC p.h bs bt] → c ∈ allR b p ⟨M, C0, lA, (rhoC p.h bs bt :: (ls ++ lt)), T, Q, E0, V⟩ R.N G := fun c hc => by
    rcases List.mem_cons.1 hc with rfl | hc
    · exact hm1
    · rw [List.mem_singleton.1 hc]; exact hm2
  refine c_draw [(0, true), (1, true), (2, true), (3, true), (4, true), (5, true), (6, true), (7, true), (8, true), (9, true), (10, true), (11, false)] [[], [0], [0, 1], [0, 1, 2], [0, 1, 2, 3], [0, 1, 2, 3, 4], [0, 1, 2, 3, 4, 5], [], [], [], [8, 9], [0, 1, 2, 3, 4, 5, 6, 7, 8, 9, 10]] ([rrC b p, rhoC p.h bs bt]) (by kernel_rfl) (by kernel_rfl) zAtt (hs2) ?_
  refine pzU ?_
  apply pl_q
  · exact q_call rfl rfl (fun l2 hl => rsl2_any l2)
  · rfl
  · rfl
  · rfl
  refine pzU ?_
  apply pl_e
  · exact e_call0 rfl rfl (Fn.mvP (fun X => allR b p ⟨M, C0, lA, rhoC p.h bs bt :: (X ++ lt), T, Q, E0, V⟩ R.N G) (radd_any bs R.H.1 ls hB.s (by have := (hinv.small (by omega)).1; omega) id (Ar.slotsD 2 4) (rrC b p :: As.rfA p.n R.N :: (M ++ (C0 ++ (lA ++ (rhoC p.h bs bt :: (lt ++ (T ++ (Q ++ (E0 ++ (V ++ G))))))))))) (fun X => by unfold allR; exact perm_ac))
  · rfl
  · rfl
  · rfl
  · rintro _ _ ⟨_, X, _, rfl⟩ c hc
    unfold allR
    rcases List.mem_cons.1 hc with rfl | hc
    · exact .head _
    · rw [List.mem_singleton.1 hc]; simp
  rintro _ _ ⟨rfl, lS, hS, rfl⟩
  refine pzU ?_
  have hm3 : rrC b p ∈ allR b p ⟨M, C0, lA, rhoC p.h bs bt :: (lS ++ lt), T, Q, E0, V⟩ R.N G := .head _
  refine gzU ?_
  refine k_ret [] rfl .refl (by exact zRes) ?_
  exact ⟨rfl, ⟨M, C0, lA, rhoC p.h bs bt :: (lS ++ lt), T, Q, E0, V⟩, ⟨hmem, hco, hA, hAn, (⟨bs, bt, lS, lt, ⟨rfl, hS, hB.t⟩⟩ : IsRH p.h ((addN R.H.1 id (Ar.slotsD 2 4)).2, R.H.2) (rhoC p.h bs bt :: (lS ++ lt))), hinv.add _ _, gv, hfit, hth, hta, by simp only; omega, hqu, by omega, hen, by simp only; omega, hcu, hc1⟩, rfl⟩
set_option maxHeartbeats 2000000 in
theorem rmake5_any (F C n : Nat) (R : RT) (L : List (Int × Int)) (b : Nat) (p : RP) (s : RL) (hR : IsRR F C n R L p s) (hn : n ≤ 900) (f : Int) (G : List Chunk) : Fn Tryz.prog 33 [pV b, .int .i64 5, .int .i64 0, .int .i64 f] (allR b p s R.N G) fun v l' =>
    v = .tuple #[.int .i64 (makeR R 5 0 f).1.1, .int .i64 (makeR R 5 0 f).1.2] ∧ ∃ s', IsRR F C (n + 1) (makeR R 5 0 f).2 L p s' ∧ l' = allR b p s' R.N G := by
  obtain ⟨M, C0, A, H, T, Q, E0, V⟩ := s
  obtain ⟨hmem, hco, har, han, hho, hinv, hgiv, hfit, hth, hta, htl, hqu, hql, hen, hel, hcu, hc1⟩ := hR
  simp only at hmem hco har hho hth hqu hen hcu
  have hm0 : rrC b p ∈ allR b p ⟨M, C0, A, H, T, Q, E0, V⟩ R.N G := .head _
  refine fn_of_body Tryz.func33 rfl rfl fun E => ?_
  simp only [argF, Tryz.ntmps33]
  refine gzU ?_
  refine t_e (e_call0 rfl rfl (Fn.mvP (fun A => allR b p ⟨M, C0, A, H, T, Q, E0, V⟩ R.N G) (Ar.radd_any p.a R.A A har 5 0 f _) (fun A => pmA ..))) rfl rfl rfl ?_
  rintro _ _ ⟨rfl, lA, hA, rfl⟩
  have hm1 : rrC b p ∈ allR b p ⟨M, C0, lA, H, T, Q, E0, V⟩ R.N G := .head _
  clear hm0
  have hAn : (Ar.addD R.A 5 0 f).2.n = F := by rw [add_n]; exact han
  have gv : ∀ j, j < 32 → 0 ≤ R.N.given j ∧ R.N.given j ≤ ((n + 1 : Nat) : Int) := fun j hj => by have := hgiv j hj; omega
  by_cases he : (Ar.addD R.A 5 0 f).1.2 = 0
  case neg =>
    have hmk : makeR R 5 0 f = ((0, (Ar.addD R.A 5 0 f).1.2), { R with A := (Ar.addD R.A 5 0 f).2 }) := by unfold makeR; rw [if_neg he]
    rw [hmk]
    refine gzU ?_
    refine k_ret [] rfl .refl (by exact zRes) ?_
    exact ⟨rfl, ⟨M, C0, lA, H, T, Q, E0, V⟩, ⟨hmem, hco, hA, hAn, hho, hinv.mono (by omega), gv, hfit, hth, hta, by simp only; omega, hqu, by omega, hen, by simp only; omega, hcu, hc1⟩, rfl⟩
  have hsl : ¬ 0 < Ar.slotsD 5 0 := by decide
  have hmk : makeR R 5 0 f = (((Ar.addD R.A 5 0 f).1.1, 0), ⟨(Ar.addD R.A 5 0 f).2, R.H, R.N, R.T, R.Q, R.E⟩) := by unfold makeR; rw [if_pos he, if_neg hsl, if_neg (by decide), if_neg (by decide)]
  rw [hmk]
  obtain ⟨r1, r2, r3⟩ := add_rng he
  rw [han] at r2
  obtain ⟨f', hf'⟩ : ∃ f' : Nat, f = f' := ⟨f.toNat, by omega⟩
  obtain ⟨fr, hfr⟩ : ∃ fr : Nat, Ar.framesD 5 0 = fr := ⟨(Ar.framesD 5 0).toNat, by omega⟩
  obtain ⟨id, hid⟩ : ∃ x, x = (Ar.addD R.A 5 0 f).1.1 := ⟨_, rfl⟩
  rw [← hid]
  rw [he]
  refine gzU ?_
  refine c_draw [(0, true), (1, true), (2, true), (3, true), (4, true), (5, true), (6, true), (7, true), (8, false)] [[], [0], [0, 1], [0, 1, 2], [], [], [], [5, 6], [0, 1, 2, 3, 4, 5, 6, 7]] _ (by kernel_rfl) (by kernel_rfl) zAtt (fun _ h => h) ?_
  refine pzU ?_
  apply pl_q
  · exact q_call rfl rfl (fun l2 hl => Ar.rfr_any 5 0 l2)
  · rfl
  · rfl
  · rfl
  rw [hfr]
  refine pzU ?_
  apply pl_e
  · exact e_call0 rfl rfl (by rw [hf']; exact Fn.same (pmM ..) (m2zero_any p.m F f' fr M hmem (by omega) (by omega) _))
  · rfl
  · rfl
  · rfl
  · rintro _ _ ⟨_, rfl⟩ q hq; exact hq
  rintro _ _ ⟨rfl, rfl⟩
  refine pzU ?_
  refine gzU ?_
  refine k_ret [] rfl .refl (by exact zRes) ?_
  exact ⟨rfl, ⟨M, C0, lA, H, T, Q, E0, V⟩, ⟨hmem, hco, hA, hAn, hho, hinv.mono (by omega), gv, hfit, hth, hta, by simp only; omega, hqu, by omega, hen, by simp only; omega, hcu, hc1⟩, rfl⟩
set_option maxHeartbeats 2000000 in
theorem rmake6_any (F C n : Nat) (R : RT) (L : List (Int × Int)) (b : Nat) (p : RP) (s : RL) (hR : IsRR F C n R L p s) (hn : n ≤ 900) (f : Int) (G : List Chunk) : Fn Tryz.prog 33 [pV b, .int .i64 6, .int .i64 0, .int .i64 f] (allR b p s R.N G) fun v l' =>
    v = .tuple #[.int .i64 (makeR R 6 0 f).1.1, .int .i64 (makeR R 6 0 f).1.2] ∧ ∃ s', IsRR F C (n + 1) (makeR R 6 0 f).2 L p s' ∧ l' = allR b p s' R.N G := by
  obtain ⟨M, C0, A, H, T, Q, E0, V⟩ := s
  obtain ⟨hmem, hco, har, han, hho, hinv, hgiv, hfit, hth, hta, htl, hqu, hql, hen, hel, hcu, hc1⟩ := hR
  simp only at hmem hco har hho hth hqu hen hcu
  have hm0 : rrC b p ∈ allR b p ⟨M, C0, A, H, T, Q, E0, V⟩ R.N G := .head _
  refine fn_of_body Tryz.func33 rfl rfl fun E => ?_
  simp only [argF, Tryz.ntmps33]
  refine gzU ?_
  refine t_e (e_call0 rfl rfl (Fn.mvP (fun A => allR b p ⟨M, C0, A, H, T, Q, E0, V⟩ R.N G) (Ar.radd_any p.a R.A A har 6 0 f _) (fun A => pmA ..))) rfl rfl rfl ?_
  rintro _ _ ⟨rfl, lA, hA, rfl⟩
  have hm1 : rrC b p ∈ allR b p ⟨M, C0, lA, H, T, Q, E0, V⟩ R.N G := .head _
  clear hm0
  have hAn : (Ar.addD R.A 6 0 f).2.n = F := by rw [add_n]; exact han
  have gv : ∀ j, j < 32 → 0 ≤ R.N.given j ∧ R.N.given j ≤ ((n + 1 : Nat) : Int) := fun j hj => by have := hgiv j hj; omega
  by_cases he : (Ar.addD R.A 6 0 f).1.2 = 0
  case neg =>
    have hmk : makeR R 6 0 f = ((0, (Ar.addD R.A 6 0 f).1.2), { R with A := (Ar.addD R.A 6 0 f).2 }) := by unfold makeR; rw [if_neg he]
    rw [hmk]
    refine gzU ?_
    refine k_ret [] rfl .refl (by exact zRes) ?_
    exact ⟨rfl, ⟨M, C0, lA, H, T, Q, E0, V⟩, ⟨hmem, hco, hA, hAn, hho, hinv.mono (by omega), gv, hfit, hth, hta, by simp only; omega, hqu, by omega, hen, by simp only; omega, hcu, hc1⟩, rfl⟩
  have hsl : ¬ 0 < Ar.slotsD 6 0 := by decide
  have hmk : makeR R 6 0 f = (((Ar.addD R.A 6 0 f).1.1, 0), ⟨(Ar.addD R.A 6 0 f).2, R.H, R.N, R.T, R.Q, R.E⟩) := by unfold makeR; rw [if_pos he, if_neg hsl, if_neg (by decide), if_neg (by decide)]
  rw [hmk]
  obtain ⟨r1, r2, r3⟩ := add_rng he
  rw [han] at r2
  obtain ⟨f', hf'⟩ : ∃ f' : Nat, f = f' := ⟨f.toNat, by omega⟩
  obtain ⟨fr, hfr⟩ : ∃ fr : Nat, Ar.framesD 6 0 = fr := ⟨(Ar.framesD 6 0).toNat, by omega⟩
  obtain ⟨id, hid⟩ : ∃ x, x = (Ar.addD R.A 6 0 f).1.1 := ⟨_, rfl⟩
  rw [← hid]
  rw [he]
  refine gzU ?_
  refine c_draw [(0, true), (1, true), (2, true), (3, true), (4, true), (5, true), (6, true), (7, true), (8, false)] [[], [0], [0, 1], [0, 1, 2], [], [], [], [5, 6], [0, 1, 2, 3, 4, 5, 6, 7]] _ (by kernel_rfl) (by kernel_rfl) zAtt (fun _ h => h) ?_
  refine pzU ?_
  apply pl_q
  · exact q_call rfl rfl (fun l2 hl => Ar.rfr_any 6 0 l2)
  · rfl
  · rfl
  · rfl
  rw [hfr]
  refine pzU ?_
  apply pl_e
  · exact e_call0 rfl rfl (by rw [hf']; exact Fn.same (pmM ..) (m2zero_any p.m F f' fr M hmem (by omega) (by omega) _))
  · rfl
  · rfl
  · rfl
  · rintro _ _ ⟨_, rfl⟩ q hq; exact hq
  rintro _ _ ⟨rfl, rfl⟩
  refine pzU ?_
  refine gzU ?_
  refine k_ret [] rfl .refl (by exact zRes) ?_
  exact ⟨rfl, ⟨M, C0, lA, H, T, Q, E0, V⟩, ⟨hmem, hco, hA, hAn, hho, hinv.mono (by omega), gv, hfit, hth, hta, by simp only; omega, hqu, by omega, hen, by simp only; omega, hcu, hc1⟩, rfl⟩
set_option maxHeartbeats 2000000 in
theorem rmake8_any (F C n : Nat) (R : RT) (L : List (Int × Int)) (b : Nat) (p : RP) (s : RL) (hR : IsRR F C n R L p s) (hn : n ≤ 900) (f : Int) (G : List Chunk) : Fn Tryz.prog 33 [pV b, .int .i64 8, .int .i64 0, .int .i64 f] (allR b p s R.N G) fun v l' =>
    v = .tuple #[.int .i64 (makeR R 8 0 f).1.1, .int .i64 (makeR R 8 0 f).1.2] ∧ ∃ s', IsRR F C (n + 1) (makeR R 8 0 f).2 L p s' ∧ l' = allR b p s' R.N G := by
  obtain ⟨M, C0, A, H, T, Q, E0, V⟩ := s
  obtain ⟨hmem, hco, har, han, hho, hinv, hgiv, hfit, hth, hta, htl, hqu, hql, hen, hel, hcu, hc1⟩ := hR
  simp only at hmem hco har hho hth hqu hen hcu
  have hm0 : rrC b p ∈ allR b p ⟨M, C0, A, H, T, Q, E0, V⟩ R.N G := .head _
  refine fn_of_body Tryz.func33 rfl rfl fun E => ?_
  simp only [argF, Tryz.ntmps33]
  refine gzU ?_
  refine t_e (e_call0 rfl rfl (Fn.mvP (fun A => allR b p ⟨M, C0, A, H, T, Q, E0, V⟩ R.N G) (Ar.radd_any p.a R.A A har 8 0 f _) (fun A => pmA ..))) rfl rfl rfl ?_
  rintro _ _ ⟨rfl, lA, hA, rfl⟩
  have hm1 : rrC b p ∈ allR b p ⟨M, C0, lA, H, T, Q, E0, V⟩ R.N G := .head _
  clear hm0
  have hAn : (Ar.addD R.A 8 0 f).2.n = F := by rw [add_n]; exact han
  have gv : ∀ j, j < 32 → 0 ≤ R.N.given j ∧ R.N.given j ≤ ((n + 1 : Nat) : Int) := fun j hj => by have := hgiv j hj; omega
  by_cases he : (Ar.addD R.A 8 0 f).1.2 = 0
  case neg =>
    have hmk : makeR R 8 0 f = ((0, (Ar.addD R.A 8 0 f).1.2), { R with A := (Ar.addD R.A 8 0 f).2 }) := by unfold makeR; rw [if_neg he]
    rw [hmk]
    refine gzU ?_
    refine k_ret [] rfl .refl (by exact zRes) ?_
    exact ⟨rfl, ⟨M, C0, lA, H, T, Q, E0, V⟩, ⟨hmem, hco, hA, hAn, hho, hinv.mono (by omega), gv, hfit, hth, hta, by simp only; omega, hqu, by omega, hen, by simp only; omega, hcu, hc1⟩, rfl⟩
  have hsl : ¬ 0 < Ar.slotsD 8 0 := by decide
  have hmk : makeR R 8 0 f = (((Ar.addD R.A 8 0 f).1.1, 0), ⟨(Ar.addD R.A 8 0 f).2, R.H, R.N, R.T, R.Q, (En.addD R.E (Ar.addD R.A 8 0 f).1.1).2⟩) := by unfold makeR; rw [if_pos he, if_neg hsl, if_neg (by decide), if_pos (by decide)]
  rw [hmk]
  obtain ⟨r1, r2, r3⟩ := add_rng he
  rw [han] at r2
  obtain ⟨f', hf'⟩ : ∃ f' : Nat, f = f' := ⟨f.toNat, by omega⟩
  obtain ⟨fr, hfr⟩ : ∃ fr : Nat, Ar.framesD 8 0 = fr := ⟨(Ar.framesD 8 0).toNat, by omega⟩
  obtain ⟨id, hid⟩ : ∃ x, x = (Ar.addD R.A 8 0 f).1.1 := ⟨_, rfl⟩
  rw [← hid]
  rw [he]
  refine gzU ?_
  refine c_draw [(0, true), (1, true), (2, true), (3, true), (4, true), (5, true), (6, true), (7, true), (8, false)] [[], [0], [0, 1], [0, 1, 2], [], [], [], [5, 6], [0, 1, 2, 3, 4, 5, 6, 7]] _ (by kernel_rfl) (by kernel_rfl) zAtt (fun _ h => h) ?_
  refine pzU ?_
  apply pl_q
  · exact q_call rfl rfl (fun l2 hl => Ar.rfr_any 8 0 l2)
  · rfl
  · rfl
  · rfl
  rw [hfr]
  refine pzU ?_
  apply pl_e
  · exact e_call0 rfl rfl (by rw [hf']; exact Fn.same (pmM ..) (m2zero_any p.m F f' fr M hmem (by omega) (by omega) _))
  · rfl
  · rfl
  · rfl
  · rintro _ _ ⟨_, rfl⟩ q hq; exact hq
  rintro _ _ ⟨rfl, rfl⟩
  refine pzU ?_
  refine gzU ?_
  refine t_e (e_call0 rfl rfl (Fn.mvP (fun X => allR b p ⟨M, C0, lA, H, T, Q, X, V⟩ R.N G) (En.radd_any p.e R.E E0 id hen (by omega) _) (fun X => pmE ..))) rfl rfl rfl ?_
  rintro _ _ ⟨rfl, lE, hE, rfl⟩
  refine gzU ?_
  refine k_ret [] rfl .refl (by exact zRes) ?_
  exact ⟨rfl, ⟨M, C0, lA, H, T, Q, lE, V⟩, ⟨hmem, hco, hA, hAn, hho, hinv.mono (by omega), gv, hfit, hth, hta, by simp only; omega, hqu, by omega, hE, by have := en_len R.E id; simp only; omega, hcu, hc1⟩, rfl⟩
set_option maxHeartbeats 2000000 in
theorem rmake1_any (F C n : Nat) (R : RT) (L : List (Int × Int)) (b : Nat) (p : RP) (s : RL) (hR : IsRR F C n R L p s) (hn : n ≤ 900) (z : Int) (f : Int) (G : List Chunk) : Fn Tryz.prog 33 [pV b, .int .i64 1, .int .i64 z, .int .i64 f] (allR b p s R.N G) fun v l' =>
    v = .tuple #[.int .i64 (makeR R 1 z f).1.1, .int .i64 (makeR R 1 z f).1.2] ∧ ∃ s', IsRR F C (n + 1) (makeR R 1 z f).2 L p s' ∧ l' = allR b p s' R.N G := by
  obtain ⟨M, C0, A, H, T, Q, E0, V⟩ := s
  obtain ⟨hmem, hco, har, han, hho, hinv, hgiv, hfit, hth, hta, htl, hqu, hql, hen, hel, hcu, hc1⟩ := hR
  simp only at hmem hco har hho hth hqu hen hcu
  have hm0 : rrC b p ∈ allR b p ⟨M, C0, A, H, T, Q, E0, V⟩ R.N G := .head _
  refine fn_of_body Tryz.func33 rfl rfl fun E => ?_
  simp only [argF, Tryz.ntmps33]
  refine gzU ?_
  refine t_e (e_call0 rfl rfl (Fn.mvP (fun A => allR b p ⟨M, C0, A, H, T, Q, E0, V⟩ R.N G) (Ar.radd_any p.a R.A A har 1 z f _) (fun A => pmA ..))) rfl rfl rfl ?_
  rintro _ _ ⟨rfl, lA, hA, rfl⟩
  have hm1 : rrC b p ∈ allR b p ⟨M, C0, lA, H, T, Q, E0, V⟩ R.N G := .head _
  clear hm0
  have hAn : (Ar.addD R.A 1 z f).2.n = F := by rw [add_n]; exact han
  have gv : ∀ j, j < 32 → 0 ≤ R.N.given j ∧ R.N.given j ≤ ((n + 1 : Nat) : Int) := fun j hj => by have := hgiv j hj; omega
  by_cases he : (Ar.addD R.A 1 z f).1.2 = 0
  case neg =>
    have hmk : makeR R 1 z f = ((0, (Ar.addD R.A 1 z f).1.2), { R with A := (Ar.addD R.A 1 z f).2 }) := by unfold makeR; rw [if_neg he]
    rw [hmk]
    refine gzU ?_
    refine k_ret [] rfl .refl (by exact zRes) ?_
    exact ⟨rfl, ⟨M, C0, lA, H, T, Q, E0, V⟩, ⟨hmem, hco, hA, hAn, hho, hinv.mono (by omega), gv, hfit, hth, hta, by simp only; omega, hqu, by omega, hen, by simp only; omega, hcu, hc1⟩, rfl⟩
  have hsl : ¬ 0 < Ar.slotsD 1 z := by unfold Ar.slotsD; rw [if_neg (by omega), if_neg (by omega)]; omega
  have hmk : makeR R 1 z f = (((Ar.addD R.A 1 z f).1.1, 0), ⟨(Ar.addD R.A 1 z f).2, R.H, R.N, R.T, R.Q, R.E⟩) := by unfold makeR; rw [if_pos he, if_neg hsl, if_neg (by decide), if_neg (by decide)]
  rw [hmk]
  obtain ⟨r1, r2, r3⟩ := add_rng he
  rw [han] at r2
  obtain ⟨f', hf'⟩ : ∃ f' : Nat, f = f' := ⟨f.toNat, by omega⟩
  obtain ⟨fr, hfr⟩ : ∃ fr : Nat, Ar.framesD 1 z = fr := ⟨(Ar.framesD 1 z).toNat, by omega⟩
  obtain ⟨id, hid⟩ : ∃ x, x = (Ar.addD R.A 1 z f).1.1 := ⟨_, rfl⟩
  rw [← hid]
  rw [he]
  refine gzU ?_
  refine k_ret [] rfl .refl (by exact zRes) ?_
  exact ⟨rfl, ⟨M, C0, lA, H, T, Q, E0, V⟩, ⟨hmem, hco, hA, hAn, hho, hinv.mono (by omega), gv, hfit, hth, hta, by simp only; omega, hqu, by omega, hen, by simp only; omega, hcu, hc1⟩, rfl⟩
def readyL (L : List (Int × Int)) (id pr : Int) : List (Int × Int) := if id ∈ Qu.fsts L then L else (Qu.raddQ L id pr).2
theorem insF_len (id pr : Int) : ∀ (L : List (Int × Int)) (S : List (Int × Int) × Bool), (L.foldl (Qu.insF id pr) S).1.length + (if (L.foldl (Qu.insF id pr) S).2 = true then 0 else 1) = S.1.length + L.length + (if S.2 = true then 0 else 1)
  | [], (a, b) => by cases b <;> simp
  | x :: L, S => by
    rw [List.foldl_cons, insF_len id pr L]
    unfold Qu.insF
    split
    · simp_all; omega
    · simp only [List.length_append, List.length_cons, List.length_nil]; omega
theorem insL_len (L : List (Int × Int)) (id pr : Int) : (Qu.insL L id pr).length = L.length + 1 := by
  have h := insF_len id pr L ([], false)
  unfold Qu.insL
  split
  · rename_i h1; rw [if_pos h1] at h; simpa using h
  · rename_i h1; rw [if_neg h1] at h; simpa using h
theorem readyL_len (L : List (Int × Int)) (id pr : Int) : (readyL L id pr).length ≤ L.length + 1 := by
  unfold readyL
  split
  · omega
  · unfold Qu.raddQ
    split
    · simp
    · show (Qu.insL L id pr).length ≤ _
      rw [insL_len]; omega
set_option maxHeartbeats 2000000 in
theorem rstate_any (F C n : Nat) (R : RT) (L : List (Int × Int)) (b : Nat) (p : RP) (s : RL) (hR : IsRR F C n R L p s) (hn : n ≤ 900) (id : Int) (t : Th.ThT) (hf : Th.findH R.T id = some t) (G : List Chunk) : Fn Tryz.prog 41 [pV b, .int .i64 id, .int .i64 1] (allR b p s R.N G) fun v l' =>
    v = .int .i64 0 ∧ ∃ s', IsRR F C (n + 1) { R with T := (Th.setD R.T { t with st := 1 }).2 } (readyL L id t.pr) p s' ∧ l' = allR b p s' R.N G := by
  obtain ⟨M, C0, A, H, T, Q, E0, V⟩ := s
  obtain ⟨hmem, hco, har, han, hho, hinv, hgiv, hfit, hth, hta, htl, hqu, hql, hen, hel, hcu, hc1⟩ := hR
  simp only at hmem hco har hho hth hqu hen hcu
  have gv : ∀ j, j < 32 → 0 ≤ R.N.given j ∧ R.N.given j ≤ ((n + 1 : Nat) : Int) := fun j hj => by have := hgiv j hj; omega
  have hm0 : rrC b p ∈ allR b p ⟨M, C0, A, H, T, Q, E0, V⟩ R.N G := .head _
  have hsT : ∀ c, c ∈ T → c ∈ allR b p ⟨M, C0, A, H, T, Q, E0, V⟩ R.N G := fun c hc => by unfold allR; simp [hc]
  obtain ⟨hp1, hp2⟩ := th_put hta { t with st := 1 }
  refine fn_of_body Tryz.func41 rfl rfl fun E => ?_
  simp only [argF, Tryz.ntmps41]
  refine gzU ?_
  refine t_q (q_call rfl rfl (fun l2 hl => Th.rget_any p.t R.T T hth (by omega) id l2 fun c hc => hl _ (hsT c hc))) rfl rfl rfl ?_
  rw [hf]
  simp only [Option.getD_some, Option.isSome_some]
  refine gzU ?_
  refine t_e e_alloc rfl rfl rfl ?_; rintro _ _ ⟨b7, _, rfl, rfl⟩
  refine gzU ?_
  have hs1 : ∀ X c, c ∈ [rrC b p, Th.thC b7 { t with st := 1 }] → c ∈ Th.thC b7 { t with st := 1 } :: allR b p ⟨M, C0, A, H, X, Q, E0, V⟩ R.N G := fun X c hc => by
    rcases List.mem_cons.1 hc with rfl | hc
    · exact .tail _ (.head _)
    · rw [List.mem_singleton.1 hc]; exact .head _
  refine c_draw [(0, true), (1, true), (2, true), (3, true), (4, true), (5, false)] [[], [0], [0, 1], [0, 1, 2], [], [0, 1, 2, 3, 4]] ([rrC b p, Th.thC b7 { t with st := 1 }]) (by kernel_rfl) (by kernel_rfl) zAtt ((hs1 T)) ?_
  refine pzU ?_
  apply pl_e
  · exact e_call0 rfl rfl (Fn.mvP (fun X => Th.thC b7 { t with st := 1 } :: allR b p ⟨M, C0, A, H, X, Q, E0, V⟩ R.N G) (Th.rset_any p.t R.T T hth (by omega) hta { t with st := 1 } (Th.thC b7 { t with st := 1 } :: rrC b p :: As.rfA p.n R.N :: (M ++ (C0 ++ (A ++ (H ++ (Q ++ (E0 ++ (V ++ G))))))))) (fun X => by unfold allR; exact perm_ac))
  · rfl
  · rfl
  · rfl
  · rintro _ _ ⟨_, X, _, rfl⟩; exact hs1 X
  rintro _ _ ⟨rfl, lT, hT, rfl⟩
  refine pzU ?_
  have hm2 : rrC b p ∈ Th.thC b7 { t with st := 1 } :: allR b p ⟨M, C0, A, H, lT, Q, E0, V⟩ R.N G := hs1 lT _ (.head _)
  have hsQ : ∀ c, c ∈ Q → c ∈ Th.thC b7 { t with st := 1 } :: allR b p ⟨M, C0, A, H, lT, Q, E0, V⟩ R.N G := fun c hc => by unfold allR; simp [hc]
  have hk : ∀ X, Keep (Th.thC b7 { t with st := 1 } :: allR b p ⟨M, C0, A, H, lT, X, E0, V⟩ R.N G) (allR b p ⟨M, C0, A, H, lT, X, E0, V⟩ R.N G) := fun X => .drop .refl
  refine gzU ?_
  refine t_q (q_load (v := pV p.q) rfl hm2 rfl) rfl rfl rfl ?_
  refine gzU ?_
  refine t_q (q_call rfl rfl (fun l2 hl => Qu.rhas_any p.q L Q id hqu (by omega) l2 fun c hc => hl _ (hsQ c hc))) rfl rfl rfl ?_
  have hrl := readyL_len L id t.pr
  by_cases hid : id ∈ Qu.fsts L
  · rw [decide_eq_true hid]
    refine gzU ?_
    refine k_ret [] rfl (hk Q) (by exact zRes) ?_
    refine ⟨rfl, ⟨M, C0, A, H, lT, Q, E0, V⟩, ?_, rfl⟩
    unfold readyL at hrl ⊢
    rw [if_pos hid] at hrl ⊢
    exact ⟨hmem, hco, har, han, hho, hinv.mono (by omega), gv, hfit, hT, hp1, by simp only; omega, hqu, by omega, hen, by simp only; omega, hcu, hc1⟩
  rw [decide_eq_false hid]
  refine gzU ?_
  refine c_draw [(0, true), (1, true), (2, true), (3, true), (4, true), (5, true), (6, true), (7, false)] [[], [0], [0, 1], [0, 1, 2], [], [], [5], [0, 1, 2, 3, 4, 5, 6]] ([rrC b p, Th.thC b7 { t with st := 1 }]) (by kernel_rfl) (by kernel_rfl) zAtt ((hs1 lT)) ?_
  refine pzU ?_
  apply pl_e
  · exact e_call0 rfl rfl (Fn.mvP (fun X => Th.thC b7 { t with st := 1 } :: allR b p ⟨M, C0, A, H, lT, X, E0, V⟩ R.N G) (Qu.radd_any p.q L Q id t.pr hqu (by omega) (Th.thC b7 { t with st := 1 } :: rrC b p :: As.rfA p.n R.N :: (M ++ (C0 ++ (A ++ (H ++ (lT ++ (E0 ++ (V ++ G))))))))) (fun X => by unfold allR; exact perm_ac))
  · rfl
  · rfl
  · rfl
  · rintro _ _ ⟨_, X, _, rfl⟩ c hc
    unfold allR
    rcases List.mem_cons.1 hc with rfl | hc
    · exact .tail _ (.head _)
    · rw [List.mem_singleton.1 hc]; exact .head _
  rintro _ _ ⟨rfl, lQ, hQ, rfl⟩
  refine pzU ?_
  refine gzU ?_
  refine k_ret [] rfl (hk lQ) (by exact zRes) ?_
  refine ⟨rfl, ⟨M, C0, A, H, lT, lQ, E0, V⟩, ?_, rfl⟩
  unfold readyL at hrl ⊢
  rw [if_neg hid] at hrl ⊢
  exact ⟨hmem, hco, har, han, hho, hinv.mono (by omega), gv, hfit, hT, hp1, by simp only; omega, hQ, by omega, hen, by simp only; omega, hcu, hc1⟩
section
variable {F C n : Nat} {R : RT} {L : List (Int × Int)} {b : Nat} {p : RP} {s : RL} (hR : IsRR F C n R L p s) (hn : n ≤ 900) (h0 : Th.findH R.T 0 = none) (l : List Chunk) (hm : rrC b p ∈ l) (hT : ∀ c, c ∈ s.T → c ∈ l)
include hR hn h0 hm hT
theorem rown0_any : Fn Tryz.prog 169 [pV b, .int .i64 0, .int .i64 1] l fun v l' => v = .agg (List.toArray (encC capZ)) ∧ l' = l := by
  have htl := hR.tl
  refine fn_of_body Tryz.func169 rfl rfl fun E => ?_
  simp only [argF, Tryz.ntmps169]
  refine gzU ?_
  refine t_e e_alloc rfl rfl rfl ?_; rintro _ _ ⟨b6, _, rfl, rfl⟩
  refine gzU ?_
  refine t_q (q_call rfl rfl (fun l2 hl => Th.rget_any p.t R.T s.T hR.th (by omega) 0 l2 fun c hc => hl _ (.tail _ (hT c hc)))) rfl rfl rfl ?_
  rw [h0]
  simp only [Option.getD_none, Option.isSome_none]
  refine gzU ?_
  refine t_e e_alloc rfl rfl rfl ?_; rintro _ _ ⟨b7, _, rfl, rfl⟩
  refine gzU ?_
  exact k_ret2 [] _ rfl .refl (rs_cellA rfl (.tail _ (.head _)) (As.LSub.of_all (n := 8) (encC capZ) rfl) .nil) (.drop (.drop .refl)) ⟨rfl, rfl⟩
theorem rspace0_any : Fn Tryz.prog 121 [pV b, .int .i64 0] l fun v l' => v = .tuple #[.int .i64 0, .int .i64 0, .int .i64 0, .bool false] ∧ l' = l := by
  refine fn_of_body Tryz.func121 rfl rfl fun E => ?_
  simp only [argF, Tryz.ntmps121]
  refine gzU ?_
  refine t_q (q_call rfl rfl (fun l2 hl => rown0_any hR hn h0 l2 (hl _ hm) fun c hc => hl _ (hT c hc))) rfl rfl rfl ?_
  refine gzU ?_
  refine t_e e_alloc rfl rfl rfl ?_; rintro _ _ ⟨b8, _, rfl, rfl⟩
  refine gzU ?_
  exact k_ret [] rfl (l' := l) (.drop .refl) (by exact zRes) ⟨rfl, rfl⟩
end
theorem updKeep {b : Nat} {o : Obj} : ∀ {l : List Chunk}, (b, o) ∈ l → Upd l b o o l
  | [], h => by cases h
  | c :: l, h => by
    rcases List.mem_cons.1 h with rfl | h
    · exact .here
    · exact .there (updKeep h)
theorem get0 {xs : List Value} {v : Value} {C : Nat} {cs : List Chunk} (h : OwnSl 3 1 v C (List.replicate C (.int .i64 0)) cs) {i : Nat} (hi : i < C) : ∃ gb cap sp, v = .slice (some ⟨gb, 0, none⟩) C cap ∧ cs = [(gb, .cells (List.toArray (List.replicate C (.int .i64 0) ++ sp)) 3 (0, 0))] ∧ (List.toArray (List.replicate C (.int .i64 0) ++ sp))[i * 1]? = some (.int .i64 0) ∧ (List.toArray (List.replicate C (Value.int .i64 0) ++ sp)).setIfInBounds (i * 1) (.int .i64 0) = List.toArray (List.replicate C (.int .i64 0) ++ sp) ∧ i * 1 < (List.toArray (List.replicate C (Value.int .i64 0) ++ sp)).size := by
  rcases h.2 with ⟨_, e0, _⟩ | ⟨gb, cap, sp, rfl, rfl, _⟩
  · omega
  · have hg : (List.toArray (List.replicate C (Value.int .i64 0) ++ sp))[i * 1]? = some (.int .i64 0) := by
      rw [Nat.mul_one, List.getElem?_toArray, List.getElem?_append_left (by simpa using hi), List.getElem?_replicate, if_pos hi]
    refine ⟨gb, cap, sp, rfl, rfl, hg, ?_, by simp; omega⟩
    apply Array.ext_getElem?
    intro k
    rw [Array.getElem?_setIfInBounds]
    split
    · rename_i e
      rw [← e, hg, if_pos (by simp; omega)]
    · rfl
set_option maxHeartbeats 2000000 in
theorem rsettle_any (F C n : Nat) (R : RT) (L : List (Int × Int)) (b : Nat) (p : RP) (s : RL) (hR : IsRR F C n R L p s) (hn : n ≤ 900) (h0 : Th.findH R.T 0 = none) (G : List Chunk) : Fn Tryz.prog 42 [pV b] (allR b p s R.N G) fun v l' => v = .tuple #[] ∧ ∃ s', IsRR F C n R L p s' ∧ l' = allR b p s' R.N G := by
  have hc1 := hR.c1
  refine fn_of_body Tryz.func42 rfl rfl fun E => ?_
  simp only [argF, Tryz.ntmps42]
  refine gzU ?_
  refine k_loop (α := Nat × RL) (fun y => [(0, pV b), (2, .int .i64 y.1)]) (fun y => allR b p y.2 R.N G) (fun y => y.1 ≤ C ∧ IsRR F C n R L p y.2) (fun y => C - y.1) (0, s) ⟨Nat.zero_le _, hR⟩ ⟨rfl, rfl, trivial⟩ .refl ?_
  clear hR
  rintro ⟨i, s⟩ ⟨hi, hR⟩
  simp only at hi hR ⊢
  have hm0 : rrC b p ∈ allR b p s R.N G := .head _
  obtain ⟨M, C0, A, H, T, Q, E0, V⟩ := s
  have hcu := hR.cu
  simp only at hcu
  obtain ⟨pc, capc, hpv⟩ := hcu.shape
  by_cases hlt : i < C
  · obtain ⟨gb, cap, sp, hv, rfl, g1, g2, g3⟩ := get0 (xs := []) hcu hlt
    have hpe : rrC b p = (b, .cells (List.toArray [pV p.m, pV p.c, pV p.a, pV p.h, pV p.n, pV p.t, pV p.q, pV p.e, .slice (some ⟨gb, 0, none⟩) C cap]) 63 (0, 0)) := by rw [rrC, hv]
    have hm1 := hm0
    rw [hpe] at hm1
    have hmv : (gb, .cells (List.toArray (List.replicate C (.int .i64 0) ++ sp)) 3 (0, 0)) ∈ allR b p ⟨M, C0, A, H, T, Q, E0, [(gb, .cells (List.toArray (List.replicate C (.int .i64 0) ++ sp)) 3 (0, 0))]⟩ R.N G := by unfold allR; simp
    have hsT : ∀ c, c ∈ T → c ∈ allR b p ⟨M, C0, A, H, T, Q, E0, [(gb, .cells (List.toArray (List.replicate C (.int .i64 0) ++ sp)) 3 (0, 0))]⟩ R.N G := fun c hc => by unfold allR; simp [hc]
    have htl := hR.tl
    refine gzU ?_
    refine c_draw [(0, true), (1, true), (2, true), (3, true), (4, true), (5, true), (6, true), (7, true), (8, true), (9, true), (10, true), (11, true), (12, true), (13, true), (14, true), (15, false), (16, false), (17, true)] [[], [0], [0, 1], [0, 1, 2], [], [4], [4, 5], [4, 5, 6], [], [4, 5, 6, 7, 8], [4, 5, 6, 7, 8, 9], [0, 1, 2, 3, 4, 5, 6, 7, 8, 9, 10], [0, 1, 2, 3, 4, 5, 6, 7, 8, 9, 10, 11], [0, 1, 2, 3, 4, 5, 6, 7, 8, 9, 10, 11, 12], [0, 1, 2, 3, 4, 5, 6, 7, 8, 9, 10, 11, 12], [], [0, 1, 2, 3, 4, 5, 6, 7, 8, 9, 10, 11, 12, 13, 15], [0, 1, 2, 3, 4, 5, 6, 7, 8, 9, 10, 11, 12, 13, 14, 15, 16]] _ (by kernel_rfl) (by kernel_rfl) zAtt (fun _ h => h) ?_
    refine pzU ?_
    apply pl_q
    · exact q_call rfl rfl (fun l2 hl => Th.rget_any p.t R.T T hR.th (by omega) 0 l2 fun c hc => hl _ (hsT c hc))
    · rfl
    · rfl
    · rfl
    rw [h0]
    simp only [Option.getD_none, Option.isSome_none]
    refine pzU ?_
    apply pl_e
    · exact e_alloc
    · rfl
    · rfl
    · rfl
    · rintro _ _ ⟨_, _, _, rfl⟩ q hq; exact .tail _ hq
    rintro _ _ ⟨b3, _, rfl, rfl⟩
    refine pzU ?_
    refine gzU ?_
    refine t_n (e_store (cs := List.toArray (List.replicate C (.int .i64 0) ++ sp)) rfl rfl rfl (by rw [g2]; exact .there (updKeep hmv)) g3) rfl rfl ?_
    rintro _ _ ⟨rfl, rfl⟩
    refine gzU ?_
    refine t_q (q_call rfl rfl (fun l2 hl => rspace0_any hR hn h0 l2 (hl _ (.tail _ hm0)) fun c hc => hl _ (.tail _ (hsT c hc)))) rfl rfl rfl ?_
    refine gzU ?_
    have hsA : ∀ c, c ∈ A → c ∈ allR b p ⟨M, C0, A, H, T, Q, E0, [(gb, .cells (List.toArray (List.replicate C (.int .i64 0) ++ sp)) 3 (0, 0))]⟩ R.N G := fun c hc => by unfold allR; simp [hc]
    refine t_q (q_call rfl rfl (fun l2 hl => Ar.rget_any p.a R.A A hR.ar 0 l2 fun c hc => hl _ (.tail _ (hsA c hc)))) rfl rfl rfl ?_
    refine gzU ?_
    refine t_e e_alloc rfl rfl rfl ?_; rintro _ _ ⟨b9, _, rfl, rfl⟩
    refine gzU ?_
    obtain ⟨V, hV⟩ : ∃ V, V = [(gb, Obj.cells (List.toArray (List.replicate C (.int .i64 0) ++ sp)) 3 (0, 0))] := ⟨_, rfl⟩
    rw [← hV] at hR ⊢
    refine s_keep (l' := allR b p ⟨M, C0, A, H, T, Q, E0, V⟩ R.N G) (.drop (.drop .refl)) ?_
    refine t_e (e_call0 rfl rfl (Fn.mvP (fun X => allR b p ⟨M, X, A, H, T, Q, E0, V⟩ R.N G) (c7set_any p.c C i C0 hR.co hlt _) (fun X => pmC ..))) rfl rfl rfl ?_
    rintro _ _ ⟨rfl, lC, hlC, rfl⟩
    refine gzU ?_
    exact k_next (i + 1, ⟨M, lC, A, H, T, Q, E0, V⟩) ⟨by simp only; omega, ⟨hR.mem, hlC, hR.ar, hR.an, hR.ho, hR.inv, hR.giv, hR.fit, hR.th, hR.ta, hR.tl, hR.qu, hR.ql, hR.en, hR.el, hR.cu, hR.c1⟩⟩ (by simp only; omega) ⟨rfl, rfl, trivial⟩ .refl
  obtain rfl : i = C := by omega
  have hpe : rrC b p = (b, .cells (List.toArray [pV p.m, pV p.c, pV p.a, pV p.h, pV p.n, pV p.t, pV p.q, pV p.e, .slice pc i capc]) 63 (0, 0)) := by rw [rrC, hpv]
  have hm1 := hm0
  rw [hpe] at hm1
  refine gzU ?_
  refine k_ret [] rfl .refl (by exact zRes) ?_
  exact ⟨rfl, ⟨M, C0, A, H, T, Q, E0, V⟩, hR, rfl⟩
def mayB (F C T : Int) : Bool := decide (1 ≤ T) && decide (T ≤ 3) && decide (1 ≤ C) && decide (C ≤ 3) && decide (11 * T ≤ F) && decide (F ≤ 64)
set_option maxHeartbeats 1000000 in
theorem bmay_any (F C T : Int) (sh : Bool) (l : List Chunk) : Fn Tryz.prog 8 [.agg (List.toArray [.int .i64 F, .int .i64 C, .int .i64 T, .bool sh])] l fun v l' => v = .bool (mayB F C T) ∧ l' = l := by
  refine fn_of_body Tryz.func8 rfl rfl fun E => ?_
  simp only [argF, Tryz.ntmps8]
  refine gzU ?_
  refine t_e (e_boxA rfl) rfl rfl rfl ?_
  rintro _ _ ⟨b1, _, rfl, rfl⟩
  refine gzU ?_
  by_cases h0 : 1 ≤ T
  case neg =>
    refine gzU ?_
    exact k_ret [] rfl (l' := l) (.drop .refl) (by exact zRes) ⟨by simp [mayB, tup, h0], rfl⟩
  by_cases h1 : T ≤ 3
  case neg =>
    refine gzU ?_
    exact k_ret [] rfl (l' := l) (.drop .refl) (by exact zRes) ⟨by simp [mayB, tup, h0, h1], rfl⟩
  by_cases h2 : 1 ≤ C
  case neg =>
    refine gzU ?_
    exact k_ret [] rfl (l' := l) (.drop .refl) (by exact zRes) ⟨by simp [mayB, tup, h0, h1, h2], rfl⟩
  by_cases h3 : C ≤ 3
  case neg =>
    refine gzU ?_
    exact k_ret [] rfl (l' := l) (.drop .refl) (by exact zRes) ⟨by simp [mayB, tup, h0, h1, h2, h3], rfl⟩
  by_cases h4 : 11 * T ≤ F
  case neg =>
    refine gzU ?_
    exact k_ret [] rfl (l' := l) (.drop .refl) (by exact zRes) ⟨by simp [mayB, tup, h0, h1, h2, h3, h4], rfl⟩
  by_cases h5 : F ≤ 64
  case neg =>
    refine gzU ?_
    exact k_ret [] rfl (l' := l) (.drop .refl) (by exact zRes) ⟨by simp [mayB, tup, h0, h1, h2, h3, h4, h5], rfl⟩
  refine gzU ?_
  exact k_ret [] rfl (l' := l) (.drop .refl) (by exact zRes) ⟨by simp [mayB, tup, h0, h1, h2, h3, h4, h5], rfl⟩
def mkF (S : RT × List Int) (x : Int × Int × Int) : RT × List Int := ((makeR S.1 x.1 x.2.1 x.2.2).2, S.2 ++ [(makeR S.1 x.1 x.2.1 x.2.2).1.1])
def mkL (F : Nat) (xs : List (Int × Int × Int)) : RT × List Int := xs.foldl mkF (newR F, [])
theorem mkL_snoc (F : Nat) (xs : List (Int × Int × Int)) (x : Int × Int × Int) : mkL F (xs ++ [x]) = mkF (mkL F xs) x := by
  unfold mkL; rw [List.foldl_append]; rfl
theorem mkL_len (F : Nat) (xs : List (Int × Int × Int)) : (mkL F xs).2.length = xs.length := by
  have h : ∀ (xs : List (Int × Int × Int)) (S : RT × List Int), (xs.foldl mkF S).2.length = S.2.length + xs.length := by
    intro xs
    induction xs with
    | nil => intro S; rfl
    | cons x r ih => intro S; show (List.foldl mkF (mkF S x) r).2.length = _; rw [ih]; simp [mkF]; omega
  rw [mkL, h]; simp
abbrev ccC (B : Nat) (F C T : Int) (sh : Bool) : Chunk := (B, .cells (List.toArray [.int .i64 F, .int .i64 C, .int .i64 T, .bool sh]) 23 (0, 0))
theorem bnew_no (F C T : Int) (sh : Bool) (h : mayB F C T = false) (l : List Chunk) : Fn Tryz.prog 5 [.agg (List.toArray [.int .i64 F, .int .i64 C, .int .i64 T, .bool sh])] l fun v l' => v = .tuple #[.pointer none, .slice none 0 0, .int .i64 3] ∧ l' = l := by
  refine fn_of_body Tryz.func5 rfl rfl fun E => ?_
  simp only [argF, Tryz.ntmps5]
  refine gzU ?_
  refine t_e (e_boxA rfl) rfl rfl rfl ?_
  rintro _ _ ⟨b1, _, rfl, rfl⟩
  refine gzU ?_
  refine t_q (q_call rfl rfl (fun l hl => bmay_any F C T sh l)) rfl rfl rfl ?_
  rw [h]
  refine gzU ?_
  exact k_ret [] rfl (l' := l) (.drop .refl) (by exact zRes) ⟨rfl, rfl⟩
abbrev pcC (B b : Nat) : Chunk := (B, .cells (List.toArray [pV b]) 37 (0, 0))
abbrev idC (B : Nat) (v : Value) : Chunk := (B, .cells (List.toArray [v]) 25 (0, 0))
def InL (F C b : Nat) (p : RP) (b8 : Nat) (pre : List (Int × Int × Int)) (l : List Chunk) : Prop := ∃ s v cs X, IsRl F C pre.length (mkL F pre).1 p s ∧ OwnSl 3 1 v pre.length ((mkL F pre).2.map intQ) cs ∧ l = allL b p s (mkL F pre).1 (idC b8 v :: (cs ++ X))
def ownI (ids : List Int) (T i : Nat) : OwT := ⟨ids.getD (4 * i) 0, ids.getD (4 * i + 1) 0, ids.getD (4 * i + 2) 0, ids.getD (4 * i + 3) 0, ids.getD (ids.length - T + i) 0⟩
def ownF (ids : List Int) (T i : Nat) : List OwT := (List.range i).map (ownI ids T) ++ List.replicate (T - i) ow0
theorem own_rows (n : Nat) : owV (List.replicate n ow0) = (List.replicate n (owL ow0)).flatten := by
  induction n with
  | zero => rfl
  | succ n ih => rw [List.replicate_succ, List.replicate_succ, List.flatten_cons, ← ih]; rfl
def aft : Nat → Code → Code
  | 0, c => c
  | n + 1, .seq _ c => aft n c
  | _, c => c
def hed : Code → Code
  | .seq c _ => c
  | c => c
theorem p_weak {N : Nat} {E : World} {Q : Exit → Act → World → Prop} {e : Exit} {fr fr' : Fr} {ds : List Deferred} {l l' : List Chunk} (hs : FSub fr' fr) (p : Keep l l') (h : PostS N E Q e fr' ds l') : PostS N E Q e fr ds l := ⟨fun a W hf hds hw => h.run a W (hf.sub hs.spec) hds (p.sat hw)⟩
theorem owV_len : ∀ os : List OwT, (owV os).length = os.length * 5
  | [] => rfl
  | o :: os => by show (owL o ++ owV os).length = _; rw [List.length_append, owV_len os]; simp; omega
theorem owV_app (xs bs : List OwT) : owV (xs ++ bs) = owV xs ++ owV bs := by
  induction xs with
  | nil => rfl
  | cons a r ih => show owL a ++ owV (r ++ bs) = _; rw [ih]; rfl
theorem ownF_len (ids : List Int) (T i : Nat) (h : i ≤ T) : (ownF ids T i).length = T := by simp [ownF]; omega
theorem ownF_set (ids : List Int) (T i : Nat) (h : i < T) : setFrom (List.toArray (owV (ownF ids T i))) (i * 5) (owL (ownI ids T i)) = List.toArray (owV (ownF ids T (i + 1))) := by
  have e1 : ownF ids T i = (List.range i).map (ownI ids T) ++ (ow0 :: List.replicate (T - (i + 1)) ow0) := by
    unfold ownF; rw [show T - i = (T - (i + 1)) + 1 by omega, List.replicate_succ]
  have e2 : ownF ids T (i + 1) = (List.range i).map (ownI ids T) ++ (ownI ids T i :: List.replicate (T - (i + 1)) ow0) := by
    unfold ownF; rw [List.range_succ, List.map_append, List.append_assoc]; rfl
  rw [e1, e2, owV_app, owV_app]
  have := setFrom_mid (owL ow0) (owL (ownI ids T i)) (owV ((List.range i).map (ownI ids T))) (owV (List.replicate (T - (i + 1)) ow0)) rfl
  rw [owV_len, List.length_map, List.length_range] at this
  exact this
def laL (F C T : Nat) (sh : Bool) (ids : List Int) (sp : List Value) (b1 b5 b8 bo b gb cap i : Nat) : List Chunk := [idC b8 (.slice (some ⟨gb, 0, none⟩) (5 * T + sh.toNat) cap), (gb, Obj.cells (List.toArray (ids.map intQ ++ sp)) 3 (0, 0)), ccC b1 F C T sh, pcC b5 b, (bo, Obj.cells (List.toArray (owV (ownF ids T i))) 92 (0, 0))]
abbrev laF (T : Nat) (b1 b5 b8 bo : Nat) : Fr := [(1, pV b1), (5, pV b5), (7, .slice (some ⟨bo, 0, none⟩) T T), (8, pV b8), (9, .int .i64 0)]
set_option maxHeartbeats 4000000 in
theorem bn_A {E : World} {Q : Exit → Act → World → Prop} {ds : List Deferred} {fn : Func} {c : Code} (hf : Tryz.prog.funcs[5]? = some fn) (hc : fn.body = some c) (F C T : Nat) (sh : Bool) (hT1 : 1 ≤ T) (hT : T ≤ 3) (ids : List Int) (sp : List Value) (hil : ids.length = 5 * T + sh.toNat) (b1 b5 b8 bo b gb cap : Nat) (Z : List Chunk)
    (k : PostS fn.ntmps E Q .normal (laF T b1 b5 b8 bo) ds (laL F C T sh ids sp b1 b5 b8 bo b gb cap T ++ Z)) : CodeS Tryz.prog none fn.ntmps E (hed (aft 7 c)) Q (laF T b1 b5 b8 bo) ds (laL F C T sh ids sp b1 b5 b8 bo b gb cap 0 ++ Z) := by
  obtain rfl := Option.some.inj (hf.symm.trans Tryz.func5)
  obtain rfl := Option.some.inj hc
  simp only [Tryz.func5, Tryz.ntmps5, aft, hed] at k ⊢
  have hget : ∀ (x : Int) (m : Nat), x = m → m < ids.length → (List.toArray (ids.map intQ ++ sp))[0 + x.toNat * 1]? = some (intQ (ids.getD m 0)) := fun x m hx hm => by
    subst hx
    rw [Int.toNat_natCast, Nat.mul_one, Nat.zero_add, List.getElem?_toArray, List.getElem?_append_left (by rw [List.length_map]; exact hm), List.getElem?_map, List.getD, List.getElem?_eq_getElem hm]; rfl
  refine gzU ?_
  refine k_loop (α := Nat) (fun i => (56, .int .i64 T) :: (57, .int .i64 i) :: (55, .slice (some ⟨bo, 0, none⟩) T T) :: laF T b1 b5 b8 bo) (fun i => laL F C T sh ids sp b1 b5 b8 bo b gb cap i ++ Z)
      (fun i => i ≤ T) (fun i => T - i) 0 (Nat.zero_le _) ⟨rfl, rfl, rfl, rfl, rfl, rfl, rfl, rfl, trivial⟩ .refl ?_
  intro i hi
  have hsh : sh.toNat ≤ 1 := by cases sh <;> decide
  by_cases hlt : i < T
  · unfold laL
    refine gzU ?_
    have hsubA : ∀ c, c ∈ [idC b8 (.slice (some ⟨gb, 0, none⟩) (5 * T + sh.toNat) cap), (gb, Obj.cells (List.toArray (ids.map intQ ++ sp)) 3 (0, 0)), ccC b1 F C T sh] → c ∈ idC b8 (.slice (some ⟨gb, 0, none⟩) (5 * T + sh.toNat) cap) :: (gb, Obj.cells (List.toArray (ids.map intQ ++ sp)) 3 (0, 0)) :: ccC b1 F C T sh :: pcC b5 b :: (bo, Obj.cells (List.toArray (owV (ownF ids T i))) 92 (0, 0)) :: Z := fun c hc => (@List.mem_append_left _ c [_, _, _] _ hc)
    refine c_draw [(0, true), (1, true), (2, true), (3, true), (4, true), (5, true), (6, true), (7, true), (8, true), (9, true), (10, true), (11, true), (12, true), (13, true), (14, true), (15, true), (16, true), (17, true), (18, true), (19, true), (20, true), (21, true), (22, true), (23, true), (24, true), (25, true), (26, true), (27, true), (28, true), (29, true), (30, true), (31, true), (32, true), (33, true), (34, true), (35, true), (36, true), (37, false)] [[], [], [], [], [3], [2, 3, 4], [2, 3, 4, 5], [], [], [8], [8, 9], [7, 8, 9, 10], [7, 8, 9, 10, 11], [], [], [14], [14, 15], [13, 14, 15, 16], [13, 14, 15, 16, 17], [], [], [20], [20, 21], [19, 20, 21, 22], [19, 20, 21, 22, 23], [], [], [26], [], [28], [26, 27, 28, 29], [], [26, 27, 28, 29, 30, 31], [25, 26, 27, 28, 29, 30, 31, 32], [25, 26, 27, 28, 29, 30, 31, 32, 33], [2, 3, 4, 5, 6, 7, 8, 9, 10, 11, 12, 13, 14, 15, 16, 17, 18, 19, 20, 21, 22, 23, 24, 25, 26, 27, 28, 29, 30, 31, 32, 33, 34], [0, 1, 2, 3, 4, 5, 6, 7, 8, 9, 10, 11, 12, 13, 14, 15, 16, 17, 18, 19, 20, 21, 22, 23, 24, 25, 26, 27, 28, 29, 30, 31, 32, 33, 34, 35], [0, 1, 2, 3, 4, 5, 6, 7, 8, 9, 10, 11, 12, 13, 14, 15, 16, 17, 18, 19, 20, 21, 22, 23, 24, 25, 26, 27, 28, 29, 30, 31, 32, 33, 34, 35, 36]] ([idC b8 (.slice (some ⟨gb, 0, none⟩) (5 * T + sh.toNat) cap), (gb, Obj.cells (List.toArray (ids.map intQ ++ sp)) 3 (0, 0)), ccC b1 F C T sh]) (by kernel_rfl) (by kernel_rfl) zAtt (hsubA) ?_
    refine pzU ?_
    apply pl_q
    · exact q_load (v := intQ (ids.getD (4 * i) 0)) rfl (.tail _ (.head _)) (hget _ (4 * i) (by omega) (by omega))
    · rfl
    · rfl
    · rfl
    refine pzU ?_
    apply pl_q
    · exact q_load (v := intQ (ids.getD (4 * i + 1) 0)) rfl (.tail _ (.head _)) (hget _ (4 * i + 1) (by omega) (by omega))
    · rfl
    · rfl
    · rfl
    refine pzU ?_
    apply pl_q
    · exact q_load (v := intQ (ids.getD (4 * i + 2) 0)) rfl (.tail _ (.head _)) (hget _ (4 * i + 2) (by omega) (by omega))
    · rfl
    · rfl
    · rfl
    refine pzU ?_
    apply pl_q
    · exact q_load (v := intQ (ids.getD (4 * i + 3) 0)) rfl (.tail _ (.head _)) (hget _ (4 * i + 3) (by omega) (by omega))
    · rfl
    · rfl
    · rfl
    refine pzU ?_
    apply pl_q
    · exact q_load (v := intQ (ids.getD (ids.length - T + i) 0)) rfl (.tail _ (.head _)) (hget _ (ids.length - T + i) (by omega) (by omega))
    · rfl
    · rfl
    · rfl
    refine pzU ?_
    apply pl_n
    · exact e_storeA (cs := List.toArray (owV (ownF ids T i))) (T := 92) rfl rfl rfl (by simp [intQ, Value.oneCell']) (.there (.there (.there (.there .here)))) (by have := owV_len (ownF ids T i); rw [ownF_len _ _ _ hi] at this; simp only [List.size_toArray, List.length_cons, List.length_nil, this]; omega)
    · rfl
    · rfl
    · rintro _ _ ⟨_, rfl⟩; exact fun c hc => (@List.mem_append_left _ c [_, _, _] _ hc)
    rintro _ _ ⟨rfl, rfl⟩
    refine pzU ?_
    refine gzU ?_
    refine k_next (i + 1) (by omega) (by omega) ⟨rfl, rfl, rfl, rfl, rfl, rfl, rfl, rfl, trivial⟩ (.of_perm (.of_eq ?_))
    show _ = laL F C T sh ids sp b1 b5 b8 bo b gb cap (i + 1) ++ Z
    unfold laL
    rw [← ownF_set ids T i hlt]
    simp only [Int.toNat_natCast, Nat.zero_add]
    rfl
  · refine gzU ?_
    obtain rfl : i = T := by omega
    exact p_weak (fr' := laF i b1 b5 b8 bo) ⟨rfl, rfl, rfl, rfl, rfl, trivial⟩ .refl k
def layF (R : RT) (os : List OwT) : Nat → RT
  | 0 => R
  | k + 1 => layR (layF R os k) (os.getD k ow0) (decide ((k : Int) = 0))
abbrev boC (bo : Nat) (os : List OwT) : Chunk := (bo, Obj.cells (List.toArray (owV os)) 92 (0, 0))
abbrev lbF (T : Nat) (b1 b5 bo : Nat) (v9 v14 : Value) : Fr := [(1, pV b1), (5, pV b5), (7, .slice (some ⟨bo, 0, none⟩) T T), (9, v9), (14, v14)]
set_option maxHeartbeats 4000000 in
theorem bn_B {E : World} {Q : Exit → Act → World → Prop} {ds : List Deferred} {fn : Func} {c : Code} (hf : Tryz.prog.funcs[5]? = some fn) (hc : fn.body = some c) (F C n : Nat) (R : RT) (b : Nat) (p : RP) (s : RL) (hR : IsRl F C n R p s) (hn : n ≤ 800) (os : List OwT) (T : Nat) (hos : os.length = T) (hT : T ≤ 3) (b1 b5 bo : Nat) (v9 : Value) (Z : List Chunk)
    (k : ∀ s' X v cs, IsRl F C (n + 8 * T) (layF R os T) p s' → OwnSl 3 1 v T ((os.map OwT.th).map intQ) cs → PostS fn.ntmps E Q .normal (lbF T b1 b5 bo v9 v) ds (pcC b5 b :: boC bo os :: (cs ++ allL b p s' (layF R os T) (X ++ Z)))) :
    CodeS Tryz.prog none fn.ntmps E (hed (aft 10 c)) Q (lbF T b1 b5 bo v9 (.slice none 0 0)) ds (pcC b5 b :: boC bo os :: allL b p s R Z) := by
  subst hos
  obtain rfl := Option.some.inj (hf.symm.trans Tryz.func5)
  obtain rfl := Option.some.inj hc
  simp only [Tryz.func5, Tryz.ntmps5, aft, hed] at k ⊢
  refine gzU ?_
  refine k_loop (α := Nat × RL × List Chunk × Value × List Chunk) (fun x => (106, .slice (some ⟨bo, 0, none⟩) os.length os.length) :: (107, .int .i64 (os.length : Nat)) :: (108, .int .i64 x.1) :: lbF os.length b1 b5 bo v9 x.2.2.2.1) (fun x => pcC b5 b :: boC bo os :: (x.2.2.2.2 ++ allL b p x.2.1 (layF R os x.1) (x.2.2.1 ++ Z)))
      (fun x => x.1 ≤ os.length ∧ IsRl F C (n + 8 * x.1) (layF R os x.1) p x.2.1 ∧ OwnSl 3 1 x.2.2.2.1 x.1 (((os.take x.1).map OwT.th).map intQ) x.2.2.2.2) (fun x => os.length - x.1) (0, s, [], .slice none 0 0, []) ⟨Nat.zero_le _, hR, OwnSl.nil _ _⟩ ⟨rfl, rfl, rfl, rfl, rfl, rfl, rfl, rfl, trivial⟩ .refl ?_
  rintro ⟨i, s, X, v, cs⟩ ⟨hi, hR, ho⟩
  simp only at hi hR ho ⊢
  by_cases hlt : i < os.length
  · obtain ⟨o, hio⟩ : ∃ o, os[i]? = some o := ⟨_, List.getElem?_eq_getElem hlt⟩
    obtain ⟨x1, x2⟩ := owV_ext hio
    refine gzU ?_
    refine t_q (q_loadA rfl (.tail _ (.head _)) x1 x2) rfl rfl rfl ?_
    refine gzU ?_
    refine t_e e_alloc rfl rfl rfl ?_; rintro _ _ ⟨b16, _, rfl, rfl⟩
    refine gzU ?_
    refine s_keep (l' := allL b p s (layF R os i) (owC b16 o :: pcC b5 b :: boC bo os :: (cs ++ (X ++ Z)))) (by unfold allL; dsimp only [owC, owL]; exact keep_ac []) ?_
    refine t_e (e_call0 rfl rfl (blay_any F C (n + 8 * i) _ b p s hR (by omega) o (decide ((i : Int) = 0)) _)) rfl rfl rfl ?_
    rintro _ _ ⟨rfl, s1, X1, hR1, rfl⟩
    have e1 : layF R os (i + 1) = layR (layF R os i) o (decide ((i : Int) = 0)) := by
      show layR _ (os.getD i ow0) _ = _
      rw [List.getD, hio, Option.getD_some]
    have e2 : os.take (i + 1) = os.take i ++ [o] := by rw [List.take_add_one, hio]; rfl
    rw [← e1] at hR1 ⊢
    refine s_keep (l' := owC b16 o :: pcC b5 b :: boC bo os :: (cs ++ allL b p s1 (layF R os (i + 1)) (X1 ++ (X ++ Z)))) (by unfold allL; dsimp only [owC, owL]; exact keep_ac []) ?_
    refine gzU ?_
    refine t_e (e_lit1 (v := intQ o.th) rfl rfl) rfl rfl rfl ?_
    rintro _ _ ⟨bl, _, rfl, rfl⟩
    refine s_keep (l' := cs ++ ((bl, Obj.cells (List.toArray [intQ o.th]) 3 (0, 0)) :: owC b16 o :: pcC b5 b :: boC bo os :: allL b p s1 (layF R os (i + 1)) (X1 ++ (X ++ Z)))) (keep_ac []) ?_
    refine t_e (ce_append (k := 1) (yb := 8) (n := i) (xs := ((os.take i).map OwT.th).map intQ) (news := [intQ o.th]) (zs := [.int .i64 0]) (cs := cs) rfl rfl rfl ho (List.mem_append_right _ List.mem_cons_self) (fun j u hj => by simpa using hj) rfl (by simp [Value.oneCell', intQ]) (by unfold maxLen; omega) (by omega)) rfl rfl rfl ?_
    rintro v' _ ⟨cs', ho', rfl⟩
    refine gzU ?_
    refine k_next (i + 1, s1, (bl, Obj.cells (List.toArray [intQ o.th]) 3 (0, 0)) :: owC b16 o :: (X1 ++ X), v', cs') ⟨by omega, hR1, ?_⟩ (by simp only; omega) ⟨rfl, rfl, rfl, rfl, rfl, rfl, rfl, rfl, trivial⟩ (by unfold allL; exact keep_ac [])
    rw [e2, List.map_append, List.map_append]
    exact ho'
  · refine gzU ?_
    obtain rfl : i = os.length := by omega
    rw [List.take_length] at ho
    exact p_weak (fr' := lbF os.length b1 b5 bo v9 v) ⟨rfl, rfl, rfl, rfl, rfl, trivial⟩ .refl (k s X v cs hR ho)
def prioR (R : RT) (id : Int) : RT := { R with T := (Th.setD R.T { (Th.findH R.T id).getD Th.thZ with pr := 1 }).2 }
def goF (R : RT) (os : List OwT) : Nat → RT
  | 0 => R
  | k + 1 => readyR (prioR (goF R os k) (os.getD k ow0).th) (os.getD k ow0).th
set_option maxHeartbeats 4000000 in
theorem bn_C {E : World} {Q : Exit → Act → World → Prop} {ds : List Deferred} {fn : Func} {c : Code} (hf : Tryz.prog.funcs[5]? = some fn) (hc : fn.body = some c) (F C n : Nat) (R : RT) (b : Nat) (p : RP) (s : RL) (hR : IsRl F C n R p s) (hn : n ≤ 800) (os : List OwT) (T : Nat) (hos : os.length = T) (hT : T ≤ 3) (b1 b5 bo : Nat) (v9 v14 : Value) (Z : List Chunk)
    (k : ∀ s' X, IsRl F C (n + T) (goF R os T) p s' → PostS fn.ntmps E Q .normal (lbF T b1 b5 bo v9 v14) ds (pcC b5 b :: allL b p s' (goF R os T) (X ++ (boC bo os :: Z)))) :
    CodeS Tryz.prog none fn.ntmps E (hed (aft 12 c)) Q (lbF T b1 b5 bo v9 v14) ds (pcC b5 b :: allL b p s R (boC bo os :: Z)) := by
  subst hos
  obtain rfl := Option.some.inj (hf.symm.trans Tryz.func5)
  obtain rfl := Option.some.inj hc
  simp only [Tryz.func5, Tryz.ntmps5, aft, hed] at k ⊢
  refine gzU ?_
  refine k_loop (α := Nat × RL × List Chunk) (fun x => (130, .slice (some ⟨bo, 0, none⟩) os.length os.length) :: (131, .int .i64 (os.length : Nat)) :: (132, .int .i64 x.1) :: lbF os.length b1 b5 bo v9 v14) (fun x => pcC b5 b :: allL b p x.2.1 (goF R os x.1) (x.2.2 ++ (boC bo os :: Z)))
      (fun x => x.1 ≤ os.length ∧ IsRl F C (n + x.1) (goF R os x.1) p x.2.1) (fun x => os.length - x.1) (0, s, []) ⟨Nat.zero_le _, hR⟩ ⟨rfl, rfl, rfl, rfl, rfl, rfl, rfl, rfl, trivial⟩ .refl ?_
  rintro ⟨i, s, X⟩ ⟨hi, hR⟩
  simp only at hi hR ⊢
  by_cases hlt : i < os.length
  · obtain ⟨o, hio⟩ : ∃ o, os[i]? = some o := ⟨_, List.getElem?_eq_getElem hlt⟩
    obtain ⟨x1, x2⟩ := owV_ext hio
    have e1 : goF R os (i + 1) = readyR (prioR (goF R os i) o.th) o.th := by
      show readyR (prioR _ (os.getD i ow0).th) (os.getD i ow0).th = _
      rw [List.getD, hio, Option.getD_some]
    obtain ⟨R1, hR1⟩ : ∃ R1, R1 = goF R os i := ⟨_, rfl⟩
    rw [← hR1] at hR e1 ⊢
    refine c_keep (l' := boC bo os :: pcC b5 b :: rlC b p :: (s.T ++ (As.asA p.n R1.N :: (s.M ++ (s.C ++ (s.A ++ (s.H ++ (s.Q ++ (s.E ++ (s.V ++ (X ++ Z))))))))))) (by unfold allL; exact keep_ac []) ?_
    refine gzU ?_
    refine t_q (q_loadA rfl (.head _) x1 x2) rfl rfl rfl ?_
    refine gzU ?_
    refine t_e e_alloc rfl rfl rfl ?_; rintro _ _ ⟨b18, _, rfl, rfl⟩
    refine gzU ?_
    refine c_keep (l' := owC b18 o :: pcC b5 b :: rlC b p :: (s.T ++ (boC bo os :: (As.asA p.n R1.N :: (s.M ++ (s.C ++ (s.A ++ (s.H ++ (s.Q ++ (s.E ++ (s.V ++ (X ++ Z)))))))))))) (by dsimp only [owC, owL]; exact keep_ac []) ?_
    have hsub1 : ∀ c, c ∈ owC b18 o :: pcC b5 b :: rlC b p :: s.T → c ∈ owC b18 o :: pcC b5 b :: rlC b p :: (s.T ++ (boC bo os :: (As.asA p.n R1.N :: (s.M ++ (s.C ++ (s.A ++ (s.H ++ (s.Q ++ (s.E ++ (s.V ++ (X ++ Z)))))))))) ) := fun c hc => @List.mem_append_left _ c (owC b18 o :: pcC b5 b :: rlC b p :: s.T) _ hc
    refine c_draw [(0, true), (1, true), (2, true), (3, true), (4, true), (5, true), (6, true), (7, true), (8, false), (9, false), (10, true)] [[], [0], [], [2], [0, 1, 2, 3], [0, 1, 2, 3, 4], [0, 1, 2, 3, 4, 5], [0, 1, 2, 3, 4, 5], [], [0, 1, 2, 3, 4, 5, 6, 8], [0, 1, 2, 3, 4, 5, 6, 7, 8, 9]] (owC b18 o :: pcC b5 b :: rlC b p :: s.T) (by kernel_rfl) (by kernel_rfl) zAtt (hsub1) ?_
    refine pzU ?_
    apply pl_q
    · exact q_call rfl rfl (fun l hl => rthreads_any b p l (hl _ (.tail _ (.tail _ (.head _)))))
    · rfl
    · rfl
    · rfl
    refine pzU ?_
    apply pl_q
    · exact q_call rfl rfl (fun l hl => Th.get_any p.t R1.T s.T hR.th o.th l (fun c hc => hl _ (.tail _ (.tail _ (.tail _ hc)))))
    · rfl
    · rfl
    · rfl
    obtain ⟨t, ht⟩ : ∃ t, t = (Th.findH R1.T o.th).getD Th.thZ := ⟨_, rfl⟩
    rw [← ht]
    refine pzU ?_
    apply pl_e
    · exact e_alloc
    · rfl
    · rfl
    · rfl
    · rintro _ _ ⟨b5, _, _, rfl⟩ c hc; exact .tail _ (hsub1 c hc)
    rintro _ _ ⟨b19, _, rfl, rfl⟩
    apply pl_n
    · exact e_storeLA (cs' := Th.encH t) rfl rfl rfl (by simp [Value.oneCell']) (.head _) (by repeat (first | apply LSetA.done | apply LSetA.put)) .here
    · rfl
    · rfl
    · rintro _ _ ⟨_, rfl⟩ c hc; exact .tail _ (hsub1 c hc)
    rintro _ _ ⟨rfl, rfl⟩
    refine pzU ?_
    refine gzU ?_
    obtain ⟨t1, ht1⟩ : ∃ t1, t1 = { t with pr := 1 } := ⟨_, rfl⟩
    have hsub2 : ∀ (lq : List Chunk) (c : Chunk), c ∈ [Th.thC b19 t1, pcC b5 b, rlC b p] → c ∈ lq ++ (Th.thC b19 t1 :: pcC b5 b :: rlC b p :: (owC b18 o :: boC bo os :: As.asA p.n R1.N :: (s.M ++ (s.C ++ (s.A ++ (s.H ++ (s.Q ++ (s.E ++ (s.V ++ (X ++ Z)))))))))) := fun lq c hc => List.mem_append_right _ (@List.mem_append_left _ c [_, _, _] _ hc)
    refine c_keep (l' := s.T ++ (Th.thC b19 t1 :: pcC b5 b :: rlC b p :: (owC b18 o :: boC bo os :: As.asA p.n R1.N :: (s.M ++ (s.C ++ (s.A ++ (s.H ++ (s.Q ++ (s.E ++ (s.V ++ (X ++ Z)))))))))) ) (by rw [ht1]; dsimp only [Th.thC, Th.encH]; exact keep_ac []) ?_
    refine c_draw [(0, true), (1, true), (2, true), (3, false)] [[], [0], [], [0, 1, 2]] ([Th.thC b19 t1, pcC b5 b, rlC b p]) (by kernel_rfl) (by kernel_rfl) zAtt (hsub2 _) ?_
    refine pzU ?_
    apply pl_q
    · exact q_call rfl rfl (fun l hl => rthreads_any b p l (hl _ (.tail _ (.tail _ (.head _)))))
    · rfl
    · rfl
    · rfl
    refine pzU ?_
    apply pl_e
    · exact e_call0 rfl rfl (Th.set_any p.t R1.T s.T hR.th t1 _)
    · rfl
    · rfl
    · rfl
    · rintro _ _ ⟨_, _, _, rfl⟩; exact hsub2 _
    rintro _ _ ⟨rfl, lT, hT, rfl⟩
    refine pzU ?_
    rw [ht1, ht] at hT
    have hR2 : IsRl F C (n + i) (prioR R1 o.th) p ⟨s.M, s.C, s.A, s.H, lT, s.Q, s.E, s.V⟩ := ⟨hR.mem, hR.co, hR.ar, hR.an, hR.ho, hR.inv, hR.giv, hT, hR.qu, hR.ql, hR.en, hR.cu, hR.c1⟩
    refine p_keep (l' := owC b18 o :: pcC b5 b :: allL b p ⟨s.M, s.C, s.A, s.H, lT, s.Q, s.E, s.V⟩ (prioR R1 o.th) (boC bo os :: Th.thC b19 t1 :: (X ++ Z))) (by unfold allL; dsimp only [prioR]; exact keep_ac []) ?_
    refine gzU ?_
    refine s_keep (l' := allL b p ⟨s.M, s.C, s.A, s.H, lT, s.Q, s.E, s.V⟩ (prioR R1 o.th) (owC b18 o :: pcC b5 b :: boC bo os :: Th.thC b19 t1 :: (X ++ Z))) (by unfold allL; exact keep_ac []) ?_
    refine t_e (e_call0 rfl rfl (state_any F C (n + i) _ b p _ hR2 (by omega) o.th _)) rfl rfl rfl ?_
    rintro _ _ ⟨_, s1, X1, hR3, rfl⟩
    rw [← e1] at hR3 ⊢
    refine gzU ?_
    refine k_next (i + 1, s1, owC b18 o :: Th.thC b19 t1 :: (X1 ++ X)) ⟨by omega, hR3⟩ (by simp only; omega) ⟨rfl, rfl, rfl, rfl, rfl, rfl, rfl, rfl, trivial⟩ (by unfold allL; exact keep_ac [])
  · refine gzU ?_
    obtain rfl : i = os.length := by omega
    exact p_weak (fr' := lbF os.length b1 b5 bo v9 v14) ⟨rfl, rfl, rfl, rfl, rfl, trivial⟩ .refl (k s X hR)
def bootI (F T : Nat) (sh : Bool) : List Int := (mkL F (thingsL F T sh)).2
def bootO (F T : Nat) (sh : Bool) : List OwT := ownF (bootI F T sh) T T
def bootS (F T : Nat) (sh : Bool) : Int := if sh = true then (bootI F T sh).getD (4 * T) 0 else 0
def bootA (F T : Nat) (sh : Bool) : RT := layF (mkL F (thingsL F T sh)).1 (bootO F T sh) T
def bootB (F T : Nat) (sh : Bool) : RT := if sh = true then { bootA F T sh with H := shareH (bootA F T sh).H (bootO F T sh) (bootS F T sh) } else bootA F T sh
def bootR (F T : Nat) (sh : Bool) : RT := goF (bootB F T sh) (bootO F T sh) T
theorem kz1 (b : Nat) (p : RP) (s : RL) (R : RT) (c1 c2 c3 c4 c5 : Chunk) (X : List Chunk) : Keep (c1 :: c2 :: c3 :: c4 :: c5 :: allL b p s R X) (c4 :: c5 :: allL b p s R (c1 :: c2 :: c3 :: X)) := by unfold allL; exact keep_ac []
theorem kz2 (b : Nat) (p : RP) (s : RL) (R : RT) (c1 c2 c3 c4 c5 : Chunk) (A Y X : List Chunk) : Keep (c4 :: c5 :: (A ++ allL b p s R (Y ++ c1 :: c2 :: c3 :: X))) (c3 :: c4 :: c5 :: (A ++ allL b p s R (Y ++ (c1 :: c2 :: X)))) := by unfold allL; exact keep_ac []
theorem kz3 (b : Nat) (p : RP) (s : RL) (R : RT) (c1 c2 c3 c4 c5 : Chunk) (A Y X : List Chunk) : Keep (c3 :: c4 :: c5 :: (A ++ allL b p s R (Y ++ (c1 :: c2 :: X)))) (c4 :: c5 :: (A ++ allL b p s R (Y ++ c1 :: c2 :: c3 :: X))) := by unfold allL; exact keep_ac []
theorem kz4 (b : Nat) (p : RP) (s : RL) (R : RT) (c3 c4 c5 : Chunk) (A X : List Chunk) : Keep (c3 :: c4 :: c5 :: (A ++ allL b p s R X)) (allL b p s R (c5 :: c4 :: c3 :: (A ++ X))) := by unfold allL; exact keep_ac []
theorem kz4' (b : Nat) (p : RP) (s : RL) (R : RT) (c1 c2 c3 c4 c5 : Chunk) (A Y2 Y X : List Chunk) : Keep (allL b p s R (Y2 ++ (c5 :: c4 :: c3 :: (A ++ (Y ++ (c1 :: c2 :: X)))))) (c4 :: c5 :: (A ++ allL b p s R ((Y2 ++ Y) ++ c1 :: c2 :: c3 :: X))) := by unfold allL; exact keep_ac []
theorem kz5 (b : Nat) (p : RP) (s : RL) (R : RT) (c4 c5 : Chunk) (A X : List Chunk) : Keep (c4 :: c5 :: (A ++ allL b p s R X)) (c4 :: allL b p s R (c5 :: (A ++ X))) := by unfold allL; exact keep_ac []
set_option maxHeartbeats 4000000 in
theorem kz6 (b : Nat) (p : RP) (s : RL) (R : RT) (k m c1 c2 c3 c4 c5 : Chunk) (A W Y X G : List Chunk) : Keep (k :: c4 :: allL b p s R (W ++ c5 :: (A ++ (Y ++ (c1 :: c2 :: c3 :: (X ++ m :: G)))))) ([m] ++ (k :: (A ++ allL b p s R ((c4 :: c5 :: c1 :: c2 :: c3 :: (W ++ (Y ++ X))) ++ G)))) := by unfold allL; exact keep_ac []
set_option maxHeartbeats 4000000 in
theorem bnew_ok (F C T : Nat) (sh : Bool) (hT1 : 1 ≤ T) (hT : T ≤ 3) (hC1 : 1 ≤ C) (hC : C ≤ 3) (hF : 11 * T ≤ F) (hF2 : F ≤ 64) (G : List Chunk) : Fn Tryz.prog 5 [.agg (List.toArray [.int .i64 F, .int .i64 C, .int .i64 T, .bool sh])] G fun v l' => ∃ B b v14 p s X cs, v = .tuple #[pV B, v14, .int .i64 0] ∧ IsRl F C 60 (bootR F T sh) p s ∧ OwnSl 3 1 v14 T (((bootO F T sh).map OwT.th).map intQ) cs ∧ l' = knC B b :: (cs ++ allL b p s (bootR F T sh) (X ++ G)) := by
  have hmay : mayB F C T = true := by simp [mayB]; omega
  refine fn_of_body Tryz.func5 rfl rfl fun E => ?_
  simp only [argF, Tryz.ntmps5]
  refine gzU ?_
  refine t_e (e_boxA rfl) rfl rfl rfl ?_
  rintro _ _ ⟨b1, _, rfl, rfl⟩
  refine gzU ?_
  refine t_q (q_call rfl rfl (fun l hl => bmay_any F C T sh l)) rfl rfl rfl ?_
  rw [hmay]
  refine gzU ?_
  refine t_e (e_call0 rfl rfl (rnew_any F C ⟨by omega, by omega⟩ ⟨by omega, by omega⟩ _)) rfl rfl rfl ?_
  rintro _ _ ⟨b, p, s0, X0, rfl, hR0, rfl⟩
  refine gzU ?_
  refine t_e e_alloc rfl rfl rfl ?_; rintro _ _ ⟨b5, _, rfl, rfl⟩
  refine gzU ?_
  refine s_keep (l' := pcC b5 b :: ccC b1 F C T sh :: allL b p s0 (newR F) (X0 ++ G)) (by unfold allL; dsimp only [pcC, ccC, pV]; simp only [List.getElem_toArray, List.getElem_cons_zero]; exact keep_ac []) ?_
  refine gzU ?_
  refine t_e (e_makeSlice (n := T) (kk := 5) (yb := 40) (zs := owL ow0) (xs := owV (List.replicate T ow0)) rfl rfl (by omega) (by omega) (by decide) (own_rows T)) rfl rfl rfl ?_
  rintro _ _ ⟨bo, _, rfl, rfl⟩
  refine gzU ?_
  refine t_e e_alloc rfl rfl rfl ?_; rintro _ _ ⟨b8, _, rfl, rfl⟩
  refine gzU ?_
  refine t_e (e_call rfl rfl (things_any F C T sh _)) rfl rfl rfl ?_
  rintro _ _ ⟨B1, rfl, rfl⟩
  refine gzU ?_
  refine c_rangeM (α := Int × Int × Int) (ps := [39]) (lb := [pV B1]) rfl (things_iter B1 F C T sh hT1 hT hF hF2) (fun _ => rfl) rfl (InL F C b p b8) (fun _ _ _ => False)
    (allL b p s0 (newR F) (idC b8 (.slice none 0 0) :: ([] ++ X0))) ((bo, Obj.cells (List.toArray (owV (List.replicate T ow0))) 92 (0, 0)) :: pcC b5 b :: ccC b1 F C T sh :: G) (fun _ _ _ _ _ => trivial) (by unfold allL; dsimp only [idC, cfC]; simp only [List.nil_append, List.getElem_toArray, List.getElem_cons_zero]; exact keep_ac []) ⟨s0, _, [], X0, hR0, OwnSl.nil _ _, rfl⟩ ?_ ?_ ?_
  · rintro E r rec pre x l1 T' ⟨fn, tmps, D, rfl⟩ hTs ⟨s, v, cs, X, hR, ho, rfl⟩ hsp
    have hlen : (pre ++ [x]).length ≤ 25 := by
      have := hsp.length_le
      have h2 : (thingsL F T sh).length ≤ 25 := by unfold thingsL; rw [layT_len, kzF_len]; cases sh <;> simp <;> omega
      omega
    have hlen' : pre.length + 1 ≤ 25 := by simpa using hlen
    have hm5 : pcC b5 b ∈ T' := hTs _ (.tail _ (.head _))
    simp only [putPs]
    generalize hLO : Obj.loop _ = LO
    obtain ⟨R, hRe⟩ : ∃ R, R = (mkL F pre).1 := ⟨_, rfl⟩
    rw [← hRe] at hR
    rw [← hRe]
    refine c_keep (l' := (r, LO) :: (allL b p s R (idC b8 v :: (cs ++ X)) ++ T')) (by unfold allL; exact keep_ac []) ?_
    refine gzU ?_
    refine t_e e_alloc rfl rfl rfl ?_; rintro _ _ ⟨b10, _, rfl, rfl⟩
    refine gzU ?_
    subst hLO
    refine p_begin (by exact zUpd) ?_
    generalize hLO : Obj.loop _ = LO
    refine gzU ?_
    refine t_q (q_load (v := pV b) rfl (.tail _ (.tail _ (List.mem_append_right _ hm5))) rfl) rfl rfl rfl ?_
    refine gzU ?_
    refine s_keep (l' := allL b p s R ((b10, Obj.cells (List.toArray [.int .i64 x.1, .int .i64 x.2.1, .int .i64 x.2.2]) 88 (0, 0)) :: (r, LO) :: idC b8 v :: (cs ++ (X ++ T')))) (by unfold allL; exact keep_ac []) ?_
    refine t_e (e_call0 rfl rfl (make_any F C pre.length R b p s hR (by omega) x.1 x.2.1 x.2.2 _)) rfl rfl rfl ?_
    rintro _ _ ⟨rfl, s1, X1, hR1, rfl⟩
    refine s_keep (l' := idC b8 v :: (cs ++ (allL b p s1 (makeR R x.1 x.2.1 x.2.2).2 (X1 ++ ((b10, Obj.cells (List.toArray [.int .i64 x.1, .int .i64 x.2.1, .int .i64 x.2.2]) 88 (0, 0)) :: (r, LO) :: (X ++ T')))))) (by unfold allL; exact keep_ac []) ?_
    refine gzU ?_
    refine t_e (e_lit1 (v := intQ (makeR R x.1 x.2.1 x.2.2).1.1) rfl rfl) rfl rfl rfl ?_
    rintro _ _ ⟨bl, _, rfl, rfl⟩
    refine s_keep (l' := cs ++ ((bl, Obj.cells (List.toArray [intQ (makeR R x.1 x.2.1 x.2.2).1.1]) 3 (0, 0)) :: idC b8 v :: allL b p s1 (makeR R x.1 x.2.1 x.2.2).2 (X1 ++ ((b10, Obj.cells (List.toArray [.int .i64 x.1, .int .i64 x.2.1, .int .i64 x.2.2]) 88 (0, 0)) :: (r, LO) :: (X ++ T'))))) (keep_ac []) ?_
    have hnl : (mkL F pre).2.length = pre.length := mkL_len F pre
    refine t_e (ce_append (k := 1) (yb := 8) (n := pre.length) (xs := (mkL F pre).2.map intQ) (news := [intQ (makeR R x.1 x.2.1 x.2.2).1.1]) (zs := [.int .i64 0]) (cs := cs) rfl rfl rfl ho (List.mem_append_right _ List.mem_cons_self) (fun j u hj => by simpa using hj) rfl (by simp [Value.oneCell', intQ]) (by unfold maxLen; omega) (by omega)) rfl rfl rfl ?_
    rintro v' _ ⟨cs', ho', rfl⟩
    have hv1 : v'.oneCell' = true := ho'.one
    refine s_keep (l' := idC b8 v :: (cs' ++ ((bl, Obj.cells (List.toArray [intQ (makeR R x.1 x.2.1 x.2.2).1.1]) 3 (0, 0)) :: allL b p s1 (makeR R x.1 x.2.1 x.2.2).2 (X1 ++ ((b10, Obj.cells (List.toArray [.int .i64 x.1, .int .i64 x.2.1, .int .i64 x.2.2]) 88 (0, 0)) :: (r, LO) :: (X ++ T')))))) (keep_ac []) ?_
    apply t_n
    · exact e_storeL rfl rfl hv1 (by exact zMem) .zero (by exact zUpd)
    · rfl
    · rfl
    rintro _ _ ⟨rfl, rfl⟩
    refine gzU ?_
    subst hLO
    have e1 : mkL F (pre ++ [x]) = ((makeR R x.1 x.2.1 x.2.2).2, (mkL F pre).2 ++ [(makeR R x.1 x.2.1 x.2.2).1.1]) := by rw [mkL_snoc, hRe]; rfl
    refine p_round (allL b p s1 (mkL F (pre ++ [x])).1 (idC b8 v' :: (cs' ++ ((bl, Obj.cells (List.toArray [intQ (makeR R x.1 x.2.1 x.2.2).1.1]) 3 (0, 0)) :: (X1 ++ ((b10, Obj.cells (List.toArray [.int .i64 x.1, .int .i64 x.2.1, .int .i64 x.2.2]) 88 (0, 0)) :: X)))))) ?_ ⟨s1, v', cs', _, ?_, ?_, rfl⟩
    · rw [e1]; unfold allL; dsimp only [idC]; exact keep_ac []
    · rw [e1, List.length_append]; exact hR1
    · rw [e1, List.length_append]; simp only [List.map_append, List.map_cons, List.map_nil]; exact ho'
  · rintro D xs l hxs ⟨s, v, cs, X, hR, ho, rfl⟩
    subst hxs
    obtain ⟨ids, hids⟩ : ∃ ids, ids = bootI F T sh := ⟨_, rfl⟩
    have hids' : (mkL F (thingsL F T sh)).2 = ids := hids.symm
    rw [hids'] at ho
    have hlen : (thingsL F T sh).length = 5 * T + sh.toNat := by unfold thingsL; rw [layT_len, kzF_len]
    have hil : ids.length = 5 * T + sh.toNat := by rw [hids]; unfold bootI; rw [mkL_len, hlen]
    have hsh : sh.toNat ≤ 1 := by cases sh <;> decide
    rw [hlen] at ho hR
    rcases ho.2 with ⟨_, h0, _⟩ | ⟨gb, cap, sp, rfl, rfl, _⟩
    · omega
    obtain ⟨R0, hR0⟩ : ∃ R0, R0 = (mkL F (thingsL F T sh)).1 := ⟨_, rfl⟩
    rw [← hR0] at hR ⊢
    refine p_keep (l' := laL F C T sh ids sp b1 b5 b8 bo b gb cap 0 ++ (allL b p s R0 (X ++ (markC D :: G)))) (by unfold laL allL; simp only [ownF, List.range_zero, List.map_nil, List.nil_append, Nat.sub_zero]; exact keep_ac []) ?_
    iterate 3 refine gzSU ?_
    refine c_sub (fr' := laF T b1 b5 b8 bo) ⟨rfl, rfl, rfl, rfl, rfl, trivial⟩ (bn_A Tryz.func5 rfl F C T sh hT1 hT ids sp hil b1 b5 b8 bo b gb cap _ ?_)
    obtain ⟨os, hos⟩ : ∃ os, os = bootO F T sh := ⟨_, rfl⟩
    have hos1 : ownF ids T T = os := by rw [hos, hids]; rfl
    have hol : os.length = T := by rw [hos]; exact ownF_len _ _ _ (Nat.le_refl _)
    refine p_then ?_
    refine c_join (α := Unit) (fun _ => [(1, pV b1), (5, pV b5), (7, .slice (some ⟨bo, 0, none⟩) T T), (9, .int .i64 (bootS F T sh))]) (fun _ => idC b8 (.slice (some ⟨gb, 0, none⟩) (5 * T + sh.toNat) cap) :: (gb, Obj.cells (List.toArray (ids.map intQ ++ sp)) 3 (0, 0)) :: ccC b1 F C T sh :: pcC b5 b :: boC bo os :: allL b p s R0 (X ++ (markC D :: G))) (fun _ => True) ?_ ?_
    · unfold laL
      rw [hos1]
      simp only [List.cons_append, List.nil_append]
      have hget : ∀ (x : Int) (m : Nat), x = m → m < ids.length → (List.toArray (ids.map intQ ++ sp))[0 + x.toNat * 1]? = some (intQ (ids.getD m 0)) := fun x m hx hm => by
        subst hx
        rw [Int.toNat_natCast, Nat.mul_one, Nat.zero_add, List.getElem?_toArray, List.getElem?_append_left (by rw [List.length_map]; exact hm), List.getElem?_map, List.getD, List.getElem?_eq_getElem hm]; rfl
      cases sh with
      | false =>
        refine gzU ?_
        exact p_join () trivial ⟨rfl, rfl, rfl, rfl, trivial⟩ .refl
      | true =>
        refine gzU ?_
        refine t_q (q_load (v := intQ (ids.getD (4 * T) 0)) rfl (.tail _ (.head _)) (hget (4 * (T : Int)) (4 * T) (by omega) (by rw [hil]; simp only [Bool.toNat_true]; omega))) rfl rfl rfl ?_
        refine gzU ?_
        rw [hids]
        exact p_join () trivial ⟨rfl, rfl, rfl, rfl, trivial⟩ .refl
    · rintro _ _
      iterate 6 refine gzSU ?_
      refine c_sub (fr' := lbF T b1 b5 bo (.int .i64 (bootS F T sh)) (.slice none 0 0)) ⟨rfl, rfl, rfl, rfl, rfl, trivial⟩ ?_
      obtain ⟨Z, hZ⟩ : ∃ Z, Z = idC b8 (.slice (some ⟨gb, 0, none⟩) (5 * T + sh.toNat) cap) :: (gb, Obj.cells (List.toArray (ids.map intQ ++ sp)) 3 (0, 0)) :: ccC b1 F C T sh :: (X ++ (markC D :: G)) := ⟨_, rfl⟩
      refine c_keep (l' := pcC b5 b :: boC bo os :: allL b p s R0 Z) (by rw [hZ]; exact kz1 ..) ?_
      have hRT : layF R0 os T = bootA F T sh := by rw [hR0, hos]; rfl
      refine bn_B Tryz.func5 rfl F C _ R0 b p s hR (by omega) os T hol hT b1 b5 bo _ _ ?_
      intro s1 Y v14 ct hR ht
      rw [hRT] at hR ⊢
      refine p_then ?_
      refine c_join (α := RL × List Chunk) (fun _ => lbF T b1 b5 bo (.int .i64 (bootS F T sh)) v14) (fun x => pcC b5 b :: boC bo os :: (ct ++ (allL b p x.1 (bootB F T sh) (x.2 ++ Z)))) (fun x => IsRl F C 50 (bootB F T sh) p x.1) ?_ ?_
      · rw [hZ]
        refine c_keep (kz2 ..) ?_
        cases sh with
        | false =>
          have hB : bootB F T false = bootA F T false := by unfold bootB; rw [if_neg (by decide)]
          rw [hB]
          refine gzU ?_
          refine p_join (s1, Y) ?_ ⟨rfl, rfl, rfl, rfl, rfl, trivial⟩ (kz3 ..)
          exact hR.mono (by simp only [Bool.toNat_false]; omega)
        | true =>
          have hB : bootB F T true = { bootA F T true with H := shareH (bootA F T true).H os (bootS F T true) } := by unfold bootB; rw [if_pos rfl, hos]
          rw [hB]
          refine gzU ?_
          have hs := share_any F C _ _ b p s1 hR (by omega) os (by omega) (by omega) (bootS F T true) bo T 92 (0, 0) (boC bo os :: pcC b5 b :: ccC b1 F C T true :: (ct ++ (Y ++ (idC b8 (.slice (some ⟨gb, 0, none⟩) (5 * T + true.toNat) cap) :: (gb, Obj.cells (List.toArray (ids.map intQ ++ sp)) 3 (0, 0)) :: (X ++ (markC D :: G)))))) (.head _)
          rw [hol] at hs
          refine s_keep (kz4 ..) ?_
          refine t_e (e_call0 rfl rfl hs) rfl rfl rfl ?_
          rintro _ _ ⟨rfl, s2, Y2, hR2, rfl⟩
          refine gzU ?_
          refine p_join (s2, Y2 ++ Y) ?_ ⟨rfl, rfl, rfl, rfl, rfl, trivial⟩ (kz4' ..)
          exact hR2.mono (by simp only [Bool.toNat_true]; omega)
      · rintro ⟨s2, Y2⟩ hR2
        simp only at hR2 ⊢
        iterate 1 refine gzSU ?_
        have hBT : goF (bootB F T sh) os T = bootR F T sh := by rw [hos]; rfl
        refine c_keep (kz5 ..) ?_
        refine bn_C Tryz.func5 rfl F C _ _ b p s2 hR2 (by omega) os T hol hT b1 b5 bo _ _ _ ?_
        intro s3 W hR3
        rw [hBT] at hR3 ⊢
        rw [hZ]
        refine gzU ?_
        refine t_e (e_call0 rfl rfl (knew_any b _)) rfl rfl rfl ?_
        rintro _ _ ⟨B, rfl, rfl⟩
        refine gzU ?_
        refine k_ret [D] rfl (kz6 ..) (by exact zRes) ⟨B, b, v14, p, s3, _, ct, rfl, hR3.mono (by omega), ?_, rfl⟩
        rw [← hos]
        exact ht
  · intro D c pre l hsp hx
    exact hx.elim
end Go.Proofs.YtcjknmpogkofpaaGreat
