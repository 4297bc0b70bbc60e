/- boot.lay. boot.share. realm.State (Ready), kernel.New. boot.May. boot.New. boot.New's first loop: who has which objects. boot.New's second loop: each thread's capabilities are laid out. boot.New's third loop: each thread is made ready. boot.New: the first state. arena.All, asid.Pools. Laws that the statement's proof leans on. -/
import Derived.Test.YtgafamgacpglcaaGreatGs4
import Derived.Test.YtgafamgacpglcaaGreatGs5
import Derived.Test.YtgafamgacpglcaaGreatGs10
/- boot.lay. -/
-- GU
set_option linter.unusedVariables false
set_option linter.unusedSimpArgs false
namespace Go.Proofs.YtgafamgacpglcaaGreat
open Go.RowKit
set_option maxRecDepth 20000
set_option pp.deepTerms false
set_option pp.deepTerms.threshold 4

/-- a thread's first objects -/
structure OwT where
  th : Int
  nd : Int
  rt : Int
  pl : Int
  un : Int
abbrev owL (o : OwT) : List Value := [.int .i64 o.th, .int .i64 o.nd, .int .i64 o.rt, .int .i64 o.pl, .int .i64 o.un]
abbrev owC (B : Nat) (o : OwT) : Chunk := (B, .cells (List.toArray (owL o)) 67 (0, 0))
abbrev capX (k o b : Int) : CapT := ⟨k, o, 0, 0, 0, b, 0, 0⟩
theorem capX_w (k o b : Int) : CapW (capX k o b) := ⟨Int.le_refl 0, by show (0 : Int) ≤ 9223372036854775807; decide⟩
def layH (H : HS) (o : OwT) (first : Bool) : HS :=
  let H1 := (rootH H (o.nd, 1) (capX 2 o.nd 8)).2
  let H2 := (rootH H1 (o.nd, 2) (capX 9 o.th 0)).2
  let H3 := (rootH H2 (o.nd, 3) (capX 1 o.un 0)).2
  let H4 := (rootH H3 (o.nd, 4) (capX 5 o.rt 0)).2
  let H5 := if first then (rootH H4 (o.nd, 5) (capX 7 0 0)).2 else H4
  let H6 := (rootH H5 (o.nd, 6) (capX 6 o.pl 0)).2
  let H7 := (derH H6 (o.nd, 1) (o.th, 0) (copyC (atD H6.1 (o.nd, 1)) 7)).2
  (derH H7 (o.nd, 4) (o.th, 1) (copyC (atD H7.1 (o.nd, 4)) 7)).2
def layR (R : RT) (o : OwT) (first : Bool) : RT := { R with H := layH R.H o first, N := (As.assignP (As.addP R.N o.pl).2.2 o.pl o.rt).2.2.2 }
theorem bat_any (o : OwT) (B : Nat) (i : Int) (l : List Chunk) (hm : owC B o ∈ l) : Fn Tryz.prog 68 [.int .i64 i, pV B] l fun v l' => v = .agg (List.toArray (encT (o.nd, i))) ∧ l' = l := by
  refine fn_of_body Tryz.func68 rfl rfl fun E => ?_
  simp only [argF, Tryz.ntmps68]
  refine gzU ?_
  refine t_e e_alloc rfl rfl rfl ?_; rintro _ _ ⟨b3, _, rfl, rfl⟩
  refine gzU ?_
  exact k_ret2 [] ((b3, .cells (List.toArray (encT (o.nd, i))) 113 (0, 0)) :: l) rfl (l' := l) (by exact zKeep) (by exact zRes) (by exact zKeep) ⟨rfl, rfl⟩
theorem giv_add (s : As.ASt) (o : Int) (n : Nat) : (As.addP s o).2.2.given n = s.given n := by
  unfold As.addP
  repeat' split
  all_goals rfl
theorem giv_asg {s : As.ASt} {k : Nat} (h : ∀ n, n < 32 → 0 ≤ s.given n ∧ s.given n ≤ k) (o r : Int) : ∀ n, n < 32 → 0 ≤ (As.assignP s o r).2.2.2.given n ∧ (As.assignP s o r).2.2.2.given n ≤ (k + 1 : Nat) := by
  intro n hn
  have h0 := h n hn
  unfold As.assignP
  repeat' split
  all_goals first
    | (simp only; omega)
    | (simp only [As.ASt.give]
       unfold As.upd
       split <;> first | omega | (rename_i e; rw [← e]; omega))
set_option maxHeartbeats 4000000 in
theorem blay_any (F C n : Nat) (R : RT) (b : Nat) (p : RP) (s : RL) (hR : IsRl F C n R p s) (hn : n ≤ 900) (o : OwT) (first : Bool) (G : List Chunk) : Fn Tryz.prog 24 [pV b, .agg (List.toArray (owL o)), .bool first] (allL b p s R G) fun v l' =>
    v = .tuple #[] ∧ ∃ s' X, IsRl F C (n + 8) (layR R o first) p s' ∧ l' = allL b p s' (layR R o first) (X ++ G) := by
  refine fn_of_body Tryz.func24 rfl rfl fun E => ?_
  simp only [argF, Tryz.ntmps24]
  unfold allL
  refine gzU ?_
  refine t_e (e_boxA rfl) rfl rfl rfl ?_
  rintro _ _ ⟨b4, _, rfl, rfl⟩
  refine gzU ?_
  have hsubR : ∀ (lq : List Chunk) (c : Chunk), c ∈ [rlC b p, owC b4 o] → c ∈ lq ++ (owC b4 o :: rlC b p :: As.asA p.n R.N :: (s.M ++ (s.C ++ (s.A ++ (s.T ++ (s.Q ++ (s.E ++ (s.V ++ G)))))))) := fun lq c hc => by
    rcases List.mem_cons.1 hc with rfl | hc
    · exact List.mem_append_right _ (.tail _ (.head _))
    · rw [List.mem_singleton.1 hc]; exact List.mem_append_right _ (.head _)
  cases first with
  | true =>
    refine c_keep (l' := s.H ++ (owC b4 o :: rlC b p :: As.asA p.n R.N :: (s.M ++ (s.C ++ (s.A ++ (s.T ++ (s.Q ++ (s.E ++ (s.V ++ G))))))))) (by dsimp only [owC, owL]; exact keep_ac []) ?_
    refine c_draw [(0, true), (1, true), (2, true), (3, true), (4, true), (5, true), (6, true), (7, false)] [[], [0], [], [0, 1, 2], [], [4], [4, 5], [0, 1, 2, 3, 4, 5, 6]] ([rlC b p, owC b4 o]) (by kernel_rfl) (by kernel_rfl) zAtt (hsubR _) ?_
    refine pzU ?_
    apply pl_q
    · exact q_call rfl rfl (fun l hl => rhold_any b p l (hl _ (.head _)))
    · rfl
    · rfl
    · rfl
    refine pzU ?_
    apply pl_q
    · exact q_callC rfl rfl (fun l hl => bat_any o b4 1 l (hl _ (.tail _ (.head _))))
    · rfl
    · rfl
    · rfl
    refine pzU ?_
    apply pl_e
    · exact e_call0 rfl rfl (hroot_any p.h R.H (n) (hR.inv) s.H hR.ho (o.nd, 1) (capX 2 o.nd 8) _)
    · rfl
    · rfl
    · rfl
    · rintro _ _ ⟨_, _, _, rfl⟩; exact hsubR _
    rintro _ _ ⟨rfl, lH1, hq1, rfl⟩
    refine pzU ?_
    refine gzU ?_
    obtain ⟨H1, hH1⟩ : ∃ x, x = (rootH R.H (o.nd, 1) (capX 2 o.nd 8)).2 := ⟨_, rfl⟩
    have hI1 : InvH H1 (n + 1) := by rw [hH1]; exact InvH.root (hR.inv) _ _ (capX_w _ _ _)
    rw [← hH1] at hq1
    refine c_draw [(0, true), (1, true), (2, true), (3, true), (4, true), (5, true), (6, true), (7, false)] [[], [0], [], [0, 1, 2], [], [4], [4, 5], [0, 1, 2, 3, 4, 5, 6]] ([rlC b p, owC b4 o]) (by kernel_rfl) (by kernel_rfl) zAtt (hsubR _) ?_
    refine pzU ?_
    apply pl_q
    · exact q_call rfl rfl (fun l hl => rhold_any b p l (hl _ (.head _)))
    · rfl
    · rfl
    · rfl
    refine pzU ?_
    apply pl_q
    · exact q_callC rfl rfl (fun l hl => bat_any o b4 2 l (hl _ (.tail _ (.head _))))
    · rfl
    · rfl
    · rfl
    refine pzU ?_
    apply pl_e
    · exact e_call0 rfl rfl (hroot_any p.h H1 (n + 1) (hI1) lH1 hq1 (o.nd, 2) (capX 9 o.th 0) _)
    · rfl
    · rfl
    · rfl
    · rintro _ _ ⟨_, _, _, rfl⟩; exact hsubR _
    rintro _ _ ⟨rfl, lH2, hq2, rfl⟩
    refine pzU ?_
    refine gzU ?_
    obtain ⟨H2, hH2⟩ : ∃ x, x = (rootH H1 (o.nd, 2) (capX 9 o.th 0)).2 := ⟨_, rfl⟩
    have hI2 : InvH H2 (n + 1 + 1) := by rw [hH2]; exact InvH.root (hI1) _ _ (capX_w _ _ _)
    rw [← hH2] at hq2
    refine c_draw [(0, true), (1, true), (2, true), (3, true), (4, true), (5, true), (6, true), (7, false)] [[], [0], [], [0, 1, 2], [], [4], [4, 5], [0, 1, 2, 3, 4, 5, 6]] ([rlC b p, owC b4 o]) (by kernel_rfl) (by kernel_rfl) zAtt (hsubR _) ?_
    refine pzU ?_
    apply pl_q
    · exact q_call rfl rfl (fun l hl => rhold_any b p l (hl _ (.head _)))
    · rfl
    · rfl
    · rfl
    refine pzU ?_
    apply pl_q
    · exact q_callC rfl rfl (fun l hl => bat_any o b4 3 l (hl _ (.tail _ (.head _))))
    · rfl
    · rfl
    · rfl
    refine pzU ?_
    apply pl_e
    · exact e_call0 rfl rfl (hroot_any p.h H2 (n + 1 + 1) (hI2) lH2 hq2 (o.nd, 3) (capX 1 o.un 0) _)
    · rfl
    · rfl
    · rfl
    · rintro _ _ ⟨_, _, _, rfl⟩; exact hsubR _
    rintro _ _ ⟨rfl, lH3, hq3, rfl⟩
    refine pzU ?_
    refine gzU ?_
    obtain ⟨H3, hH3⟩ : ∃ x, x = (rootH H2 (o.nd, 3) (capX 1 o.un 0)).2 := ⟨_, rfl⟩
    have hI3 : InvH H3 (n + 1 + 1 + 1) := by rw [hH3]; exact InvH.root (hI2) _ _ (capX_w _ _ _)
    rw [← hH3] at hq3
    refine c_draw [(0, true), (1, true), (2, true), (3, true), (4, true), (5, true), (6, true), (7, false)] [[], [0], [], [0, 1, 2], [], [4], [4, 5], [0, 1, 2, 3, 4, 5, 6]] ([rlC b p, owC b4 o]) (by kernel_rfl) (by kernel_rfl) zAtt (hsubR _) ?_
    refine pzU ?_
    apply pl_q
    · exact q_call rfl rfl (fun l hl => rhold_any b p l (hl _ (.head _)))
    · rfl
    · rfl
    · rfl
    refine pzU ?_
    apply pl_q
    · exact q_callC rfl rfl (fun l hl => bat_any o b4 4 l (hl _ (.tail _ (.head _))))
    · rfl
    · rfl
    · rfl
    refine pzU ?_
    apply pl_e
    · exact e_call0 rfl rfl (hroot_any p.h H3 (n + 1 + 1 + 1) (hI3) lH3 hq3 (o.nd, 4) (capX 5 o.rt 0) _)
    · rfl
    · rfl
    · rfl
    · rintro _ _ ⟨_, _, _, rfl⟩; exact hsubR _
    rintro _ _ ⟨rfl, lH4, hq4, rfl⟩
    refine pzU ?_
    refine gzU ?_
    obtain ⟨H4, hH4⟩ : ∃ x, x = (rootH H3 (o.nd, 4) (capX 5 o.rt 0)).2 := ⟨_, rfl⟩
    have hI4 : InvH H4 (n + 1 + 1 + 1 + 1) := by rw [hH4]; exact InvH.root (hI3) _ _ (capX_w _ _ _)
    rw [← hH4] at hq4
    refine t_q (q_call rfl rfl (fun l hl => rhold_any b p l (hl _ (hsubR _ _ (.head _))))) rfl rfl rfl ?_
    refine gzU ?_
    refine t_q (q_callC rfl rfl (fun l hl => bat_any o b4 5 l (hl _ (hsubR _ _ (.tail _ (.head _)))))) rfl rfl rfl ?_
    refine gzU ?_
    refine t_e (e_call0 rfl rfl (hroot_any p.h H4 (n + 1 + 1 + 1 + 1) (hI4) lH4 hq4 (o.nd, 5) (capX 7 0 0) _)) rfl rfl rfl ?_
    rintro _ _ ⟨rfl, lH5, hq5, rfl⟩
    obtain ⟨H5, hH5⟩ : ∃ x, x = (rootH H4 (o.nd, 5) (capX 7 0 0)).2 := ⟨_, rfl⟩
    have hI5 : InvH H5 (n + 1 + 1 + 1 + 1 + 1) := by rw [hH5]; exact InvH.root (hI4) _ _ (capX_w _ _ _)
    rw [← hH5] at hq5
    refine gzU ?_
    refine c_draw [(0, true), (1, true), (2, true), (3, true), (4, true), (5, true), (6, true), (7, false)] [[], [0], [], [0, 1, 2], [], [4], [4, 5], [0, 1, 2, 3, 4, 5, 6]] ([rlC b p, owC b4 o]) (by kernel_rfl) (by kernel_rfl) zAtt (hsubR _) ?_
    refine pzU ?_
    apply pl_q
    · exact q_call rfl rfl (fun l hl => rhold_any b p l (hl _ (.head _)))
    · rfl
    · rfl
    · rfl
    refine pzU ?_
    apply pl_q
    · exact q_callC rfl rfl (fun l hl => bat_any o b4 6 l (hl _ (.tail _ (.head _))))
    · rfl
    · rfl
    · rfl
    refine pzU ?_
    apply pl_e
    · exact e_call0 rfl rfl (hroot_any p.h H5 (n + 1 + 1 + 1 + 1 + 1) (hI5) lH5 hq5 (o.nd, 6) (capX 6 o.pl 0) _)
    · rfl
    · rfl
    · rfl
    · rintro _ _ ⟨_, _, _, rfl⟩; exact hsubR _
    rintro _ _ ⟨rfl, lH6, hq6, rfl⟩
    refine pzU ?_
    refine gzU ?_
    obtain ⟨H6, hH6⟩ : ∃ x, x = (rootH H5 (o.nd, 6) (capX 6 o.pl 0)).2 := ⟨_, rfl⟩
    have hI6 : InvH H6 (n + 1 + 1 + 1 + 1 + 1 + 1) := by rw [hH6]; exact InvH.root (hI5) _ _ (capX_w _ _ _)
    rw [← hH6] at hq6
    refine c_draw [(0, true), (1, true), (2, true), (3, true), (4, true), (5, true), (6, true), (7, false)] [[], [0], [], [0, 1, 2], [], [4], [4, 5], [0, 1, 2, 3, 4, 5, 6]] ([rlC b p, owC b4 o]) (by kernel_rfl) (by kernel_rfl) zAtt (hsubR _) ?_
    refine pzU ?_
    apply pl_q
    · exact q_call rfl rfl (fun l hl => rhold_any b p l (hl _ (.head _)))
    · rfl
    · rfl
    · rfl
    refine pzU ?_
    apply pl_q
    · exact q_callC rfl rfl (fun l hl => bat_any o b4 1 l (hl _ (.tail _ (.head _))))
    · rfl
    · rfl
    · rfl
    refine pzU ?_
    apply pl_e
    · exact e_call0 rfl rfl (hcopy_any p.h H6 (n + 1 + 1 + 1 + 1 + 1 + 1) (hI6) (by omega) lH6 hq6 (o.nd, 1) (o.th, 0) 7 _)
    · rfl
    · rfl
    · rfl
    · rintro _ _ ⟨_, _, _, rfl⟩; exact hsubR _
    rintro _ _ ⟨rfl, lH7, hq7, rfl⟩
    refine pzU ?_
    refine gzU ?_
    obtain ⟨H7, hH7⟩ : ∃ x, x = (derH H6 (o.nd, 1) (o.th, 0) (copyC (atD H6.1 (o.nd, 1)) 7)).2 := ⟨_, rfl⟩
    have hI7 : InvH H7 (n + 1 + 1 + 1 + 1 + 1 + 1 + 1) := by rw [hH7]; exact InvH.der (hI6) _ _ _ (copy_w (hI6.at _).2 _)
    rw [← hH7] at hq7
    refine c_draw [(0, true), (1, true), (2, true), (3, true), (4, true), (5, true), (6, true), (7, false)] [[], [0], [], [0, 1, 2], [], [4], [4, 5], [0, 1, 2, 3, 4, 5, 6]] ([rlC b p, owC b4 o]) (by kernel_rfl) (by kernel_rfl) zAtt (hsubR _) ?_
    refine pzU ?_
    apply pl_q
    · exact q_call rfl rfl (fun l hl => rhold_any b p l (hl _ (.head _)))
    · rfl
    · rfl
    · rfl
    refine pzU ?_
    apply pl_q
    · exact q_callC rfl rfl (fun l hl => bat_any o b4 4 l (hl _ (.tail _ (.head _))))
    · rfl
    · rfl
    · rfl
    refine pzU ?_
    apply pl_e
    · exact e_call0 rfl rfl (hcopy_any p.h H7 (n + 1 + 1 + 1 + 1 + 1 + 1 + 1) (hI7) (by omega) lH7 hq7 (o.nd, 4) (o.th, 1) 7 _)
    · rfl
    · rfl
    · rfl
    · rintro _ _ ⟨_, _, _, rfl⟩; exact hsubR _
    rintro _ _ ⟨rfl, lH8, hq8, rfl⟩
    refine pzU ?_
    refine gzU ?_
    obtain ⟨H8, hH8⟩ : ∃ x, x = (derH H7 (o.nd, 4) (o.th, 1) (copyC (atD H7.1 (o.nd, 4)) 7)).2 := ⟨_, rfl⟩
    have hI8 : InvH H8 (n + 1 + 1 + 1 + 1 + 1 + 1 + 1 + 1) := by rw [hH8]; exact InvH.der (hI7) _ _ _ (copy_w (hI7.at _).2 _)
    rw [← hH8] at hq8
    have hsubA : ∀ (N : As.ASt) (c : Chunk), c ∈ [rlC b p, owC b4 o] → c ∈ As.asA p.n N :: (lH8 ++ (owC b4 o :: rlC b p :: (s.M ++ (s.C ++ (s.A ++ (s.T ++ (s.Q ++ (s.E ++ (s.V ++ G))))))))) := fun N c hc => by
      rcases List.mem_cons.1 hc with rfl | hc
      · exact .tail _ (List.mem_append_right _ (.tail _ (.head _)))
      · rw [List.mem_singleton.1 hc]; exact .tail _ (List.mem_append_right _ (.head _))
    refine c_keep (l' := As.asA p.n R.N :: (lH8 ++ (owC b4 o :: rlC b p :: (s.M ++ (s.C ++ (s.A ++ (s.T ++ (s.Q ++ (s.E ++ (s.V ++ G)))))))))) (keep_ac []) ?_
    refine c_draw [(0, true), (1, true), (2, true), (3, true), (4, false)] [[], [0], [], [2], [0, 1, 2, 3]] ([rlC b p, owC b4 o]) (by kernel_rfl) (by kernel_rfl) zAtt (hsubA _) ?_
    refine pzU ?_
    apply pl_q
    · exact q_call rfl rfl (fun l hl => rasids_any b p l (hl _ (.head _)))
    · rfl
    · rfl
    · rfl
    refine pzU ?_
    apply pl_e
    · exact e_call0 rfl rfl (As.addPool_any p.n R.N o.pl _)
    · rfl
    · rfl
    · rfl
    · rintro _ _ ⟨_, rfl⟩; exact hsubA _
    rintro _ _ ⟨rfl, rfl⟩
    refine pzU ?_
    refine gzU ?_
    refine c_draw [(0, true), (1, true), (2, true), (3, true), (4, true), (5, true), (6, false)] [[], [0], [], [2], [], [4], [0, 1, 2, 3, 4, 5]] ([rlC b p, owC b4 o]) (by kernel_rfl) (by kernel_rfl) zAtt (hsubA _) ?_
    refine pzU ?_
    apply pl_q
    · exact q_call rfl rfl (fun l hl => rasids_any b p l (hl _ (.head _)))
    · rfl
    · rfl
    · rfl
    refine pzU ?_
    apply pl_e
    · exact e_call0 rfl rfl (As.assign_any p.n (As.addP R.N o.pl).2.2 o.pl o.rt _ (fun n hn => by rw [giv_add]; have := hR.giv n hn; omega))
    · rfl
    · rfl
    · rfl
    · rintro _ _ ⟨_, rfl⟩; exact hsubA _
    rintro _ _ ⟨rfl, rfl⟩
    refine pzU ?_
    refine gzU ?_
    refine k_ret [] rfl (l' := allL b p ⟨s.M, s.C, s.A, lH8, s.T, s.Q, s.E, s.V⟩ (layR R o true) ([owC b4 o] ++ G)) (by unfold allL; dsimp only [layR]; exact keep_ac []) (by exact zRes) ⟨rfl, ⟨s.M, s.C, s.A, lH8, s.T, s.Q, s.E, s.V⟩, [owC b4 o], ?_, rfl⟩
    have hL : layH R.H o true = H8 := by
      simp only [layH, if_true]
      rw [← hH1, ← hH2, ← hH3, ← hH4, ← hH5, ← hH6, ← hH7, ← hH8]
    unfold layR
    rw [hL]
    clear hH1 hH2 hH3 hH4 hH5 hH6 hH7 hH8
    exact ⟨hR.mem, hR.co, hR.ar, hR.an, hq8, hI8.mono (by omega), fun i hi => by have := giv_asg (s := (As.addP R.N o.pl).2.2) (k := n) (fun n hn => by rw [giv_add]; exact hR.giv n hn) o.pl o.rt i hi; simp only; omega, hR.th, hR.qu, fun j hj => Nat.le_trans (hR.ql j hj) (by omega), hR.en, hR.cu, hR.c1⟩
  | false =>
    refine c_keep (l' := s.H ++ (owC b4 o :: rlC b p :: As.asA p.n R.N :: (s.M ++ (s.C ++ (s.A ++ (s.T ++ (s.Q ++ (s.E ++ (s.V ++ G))))))))) (by dsimp only [owC, owL]; exact keep_ac []) ?_
    refine c_draw [(0, true), (1, true), (2, true), (3, true), (4, true), (5, true), (6, true), (7, false)] [[], [0], [], [0, 1, 2], [], [4], [4, 5], [0, 1, 2, 3, 4, 5, 6]] ([rlC b p, owC b4 o]) (by kernel_rfl) (by kernel_rfl) zAtt (hsubR _) ?_
    refine pzU ?_
    apply pl_q
    · exact q_call rfl rfl (fun l hl => rhold_any b p l (hl _ (.head _)))
    · rfl
    · rfl
    · rfl
    refine pzU ?_
    apply pl_q
    · exact q_callC rfl rfl (fun l hl => bat_any o b4 1 l (hl _ (.tail _ (.head _))))
    · rfl
    · rfl
    · rfl
    refine pzU ?_
    apply pl_e
    · exact e_call0 rfl rfl (hroot_any p.h R.H (n) (hR.inv) s.H hR.ho (o.nd, 1) (capX 2 o.nd 8) _)
    · rfl
    · rfl
    · rfl
    · rintro _ _ ⟨_, _, _, rfl⟩; exact hsubR _
    rintro _ _ ⟨rfl, lH1, hq1, rfl⟩
    refine pzU ?_
    refine gzU ?_
    obtain ⟨H1, hH1⟩ : ∃ x, x = (rootH R.H (o.nd, 1) (capX 2 o.nd 8)).2 := ⟨_, rfl⟩
    have hI1 : InvH H1 (n + 1) := by rw [hH1]; exact InvH.root (hR.inv) _ _ (capX_w _ _ _)
    rw [← hH1] at hq1
    refine c_draw [(0, true), (1, true), (2, true), (3, true), (4, true), (5, true), (6, true), (7, false)] [[], [0], [], [0, 1, 2], [], [4], [4, 5], [0, 1, 2, 3, 4, 5, 6]] ([rlC b p, owC b4 o]) (by kernel_rfl) (by kernel_rfl) zAtt (hsubR _) ?_
    refine pzU ?_
    apply pl_q
    · exact q_call rfl rfl (fun l hl => rhold_any b p l (hl _ (.head _)))
    · rfl
    · rfl
    · rfl
    refine pzU ?_
    apply pl_q
    · exact q_callC rfl rfl (fun l hl => bat_any o b4 2 l (hl _ (.tail _ (.head _))))
    · rfl
    · rfl
    · rfl
    refine pzU ?_
    apply pl_e
    · exact e_call0 rfl rfl (hroot_any p.h H1 (n + 1) (hI1) lH1 hq1 (o.nd, 2) (capX 9 o.th 0) _)
    · rfl
    · rfl
    · rfl
    · rintro _ _ ⟨_, _, _, rfl⟩; exact hsubR _
    rintro _ _ ⟨rfl, lH2, hq2, rfl⟩
    refine pzU ?_
    refine gzU ?_
    obtain ⟨H2, hH2⟩ : ∃ x, x = (rootH H1 (o.nd, 2) (capX 9 o.th 0)).2 := ⟨_, rfl⟩
    have hI2 : InvH H2 (n + 1 + 1) := by rw [hH2]; exact InvH.root (hI1) _ _ (capX_w _ _ _)
    rw [← hH2] at hq2
    refine c_draw [(0, true), (1, true), (2, true), (3, true), (4, true), (5, true), (6, true), (7, false)] [[], [0], [], [0, 1, 2], [], [4], [4, 5], [0, 1, 2, 3, 4, 5, 6]] ([rlC b p, owC b4 o]) (by kernel_rfl) (by kernel_rfl) zAtt (hsubR _) ?_
    refine pzU ?_
    apply pl_q
    · exact q_call rfl rfl (fun l hl => rhold_any b p l (hl _ (.head _)))
    · rfl
    · rfl
    · rfl
    refine pzU ?_
    apply pl_q
    · exact q_callC rfl rfl (fun l hl => bat_any o b4 3 l (hl _ (.tail _ (.head _))))
    · rfl
    · rfl
    · rfl
    refine pzU ?_
    apply pl_e
    · exact e_call0 rfl rfl (hroot_any p.h H2 (n + 1 + 1) (hI2) lH2 hq2 (o.nd, 3) (capX 1 o.un 0) _)
    · rfl
    · rfl
    · rfl
    · rintro _ _ ⟨_, _, _, rfl⟩; exact hsubR _
    rintro _ _ ⟨rfl, lH3, hq3, rfl⟩
    refine pzU ?_
    refine gzU ?_
    obtain ⟨H3, hH3⟩ : ∃ x, x = (rootH H2 (o.nd, 3) (capX 1 o.un 0)).2 := ⟨_, rfl⟩
    have hI3 : InvH H3 (n + 1 + 1 + 1) := by rw [hH3]; exact InvH.root (hI2) _ _ (capX_w _ _ _)
    rw [← hH3] at hq3
    refine c_draw [(0, true), (1, true), (2, true), (3, true), (4, true), (5, true), (6, true), (7, false)] [[], [0], [], [0, 1, 2], [], [4], [4, 5], [0, 1, 2, 3, 4, 5, 6]] ([rlC b p, owC b4 o]) (by kernel_rfl) (by kernel_rfl) zAtt (hsubR _) ?_
    refine pzU ?_
    apply pl_q
    · exact q_call rfl rfl (fun l hl => rhold_any b p l (hl _ (.head _)))
    · rfl
    · rfl
    · rfl
    refine pzU ?_
    apply pl_q
    · exact q_callC rfl rfl (fun l hl => bat_any o b4 4 l (hl _ (.tail _ (.head _))))
    · rfl
    · rfl
    · rfl
    refine pzU ?_
    apply pl_e
    · exact e_call0 rfl rfl (hroot_any p.h H3 (n + 1 + 1 + 1) (hI3) lH3 hq3 (o.nd, 4) (capX 5 o.rt 0) _)
    · rfl
    · rfl
    · rfl
    · rintro _ _ ⟨_, _, _, rfl⟩; exact hsubR _
    rintro _ _ ⟨rfl, lH4, hq4, rfl⟩
    refine pzU ?_
    refine gzU ?_
    obtain ⟨H4, hH4⟩ : ∃ x, x = (rootH H3 (o.nd, 4) (capX 5 o.rt 0)).2 := ⟨_, rfl⟩
    have hI4 : InvH H4 (n + 1 + 1 + 1 + 1) := by rw [hH4]; exact InvH.root (hI3) _ _ (capX_w _ _ _)
    rw [← hH4] at hq4
    refine c_draw [(0, true), (1, true), (2, true), (3, true), (4, true), (5, true), (6, true), (7, false)] [[], [0], [], [0, 1, 2], [], [4], [4, 5], [0, 1, 2, 3, 4, 5, 6]] ([rlC b p, owC b4 o]) (by kernel_rfl) (by kernel_rfl) zAtt (hsubR _) ?_
    refine pzU ?_
    apply pl_q
    · exact q_call rfl rfl (fun l hl => rhold_any b p l (hl _ (.head _)))
    · rfl
    · rfl
    · rfl
    refine pzU ?_
    apply pl_q
    · exact q_callC rfl rfl (fun l hl => bat_any o b4 6 l (hl _ (.tail _ (.head _))))
    · rfl
    · rfl
    · rfl
    refine pzU ?_
    apply pl_e
    · exact e_call0 rfl rfl (hroot_any p.h H4 (n + 1 + 1 + 1 + 1) (hI4) lH4 hq4 (o.nd, 6) (capX 6 o.pl 0) _)
    · rfl
    · rfl
    · rfl
    · rintro _ _ ⟨_, _, _, rfl⟩; exact hsubR _
    rintro _ _ ⟨rfl, lH6, hq6, rfl⟩
    refine pzU ?_
    refine gzU ?_
    obtain ⟨H6, hH6⟩ : ∃ x, x = (rootH H4 (o.nd, 6) (capX 6 o.pl 0)).2 := ⟨_, rfl⟩
    have hI6 : InvH H6 (n + 1 + 1 + 1 + 1 + 1) := by rw [hH6]; exact InvH.root (hI4) _ _ (capX_w _ _ _)
    rw [← hH6] at hq6
    refine c_draw [(0, true), (1, true), (2, true), (3, true), (4, true), (5, true), (6, true), (7, false)] [[], [0], [], [0, 1, 2], [], [4], [4, 5], [0, 1, 2, 3, 4, 5, 6]] ([rlC b p, owC b4 o]) (by kernel_rfl) (by kernel_rfl) zAtt (hsubR _) ?_
    refine pzU ?_
    apply pl_q
    · exact q_call rfl rfl (fun l hl => rhold_any b p l (hl _ (.head _)))
    · rfl
    · rfl
    · rfl
    refine pzU ?_
    apply pl_q
    · exact q_callC rfl rfl (fun l hl => bat_any o b4 1 l (hl _ (.tail _ (.head _))))
    · rfl
    · rfl
    · rfl
    refine pzU ?_
    apply pl_e
    · exact e_call0 rfl rfl (hcopy_any p.h H6 (n + 1 + 1 + 1 + 1 + 1) (hI6) (by omega) lH6 hq6 (o.nd, 1) (o.th, 0) 7 _)
    · rfl
    · rfl
    · rfl
    · rintro _ _ ⟨_, _, _, rfl⟩; exact hsubR _
    rintro _ _ ⟨rfl, lH7, hq7, rfl⟩
    refine pzU ?_
    refine gzU ?_
    obtain ⟨H7, hH7⟩ : ∃ x, x = (derH H6 (o.nd, 1) (o.th, 0) (copyC (atD H6.1 (o.nd, 1)) 7)).2 := ⟨_, rfl⟩
    have hI7 : InvH H7 (n + 1 + 1 + 1 + 1 + 1 + 1) := by rw [hH7]; exact InvH.der (hI6) _ _ _ (copy_w (hI6.at _).2 _)
    rw [← hH7] at hq7
    refine c_draw [(0, true), (1, true), (2, true), (3, true), (4, true), (5, true), (6, true), (7, false)] [[], [0], [], [0, 1, 2], [], [4], [4, 5], [0, 1, 2, 3, 4, 5, 6]] ([rlC b p, owC b4 o]) (by kernel_rfl) (by kernel_rfl) zAtt (hsubR _) ?_
    refine pzU ?_
    apply pl_q
    · exact q_call rfl rfl (fun l hl => rhold_any b p l (hl _ (.head _)))
    · rfl
    · rfl
    · rfl
    refine pzU ?_
    apply pl_q
    · exact q_callC rfl rfl (fun l hl => bat_any o b4 4 l (hl _ (.tail _ (.head _))))
    · rfl
    · rfl
    · rfl
    refine pzU ?_
    apply pl_e
    · exact e_call0 rfl rfl (hcopy_any p.h H7 (n + 1 + 1 + 1 + 1 + 1 + 1) (hI7) (by omega) lH7 hq7 (o.nd, 4) (o.th, 1) 7 _)
    · rfl
    · rfl
    · rfl
    · rintro _ _ ⟨_, _, _, rfl⟩; exact hsubR _
    rintro _ _ ⟨rfl, lH8, hq8, rfl⟩
    refine pzU ?_
    refine gzU ?_
    obtain ⟨H8, hH8⟩ : ∃ x, x = (derH H7 (o.nd, 4) (o.th, 1) (copyC (atD H7.1 (o.nd, 4)) 7)).2 := ⟨_, rfl⟩
    have hI8 : InvH H8 (n + 1 + 1 + 1 + 1 + 1 + 1 + 1) := by rw [hH8]; exact InvH.der (hI7) _ _ _ (copy_w (hI7.at _).2 _)
    rw [← hH8] at hq8
    have hsubA : ∀ (N : As.ASt) (c : Chunk), c ∈ [rlC b p, owC b4 o] → c ∈ As.asA p.n N :: (lH8 ++ (owC b4 o :: rlC b p :: (s.M ++ (s.C ++ (s.A ++ (s.T ++ (s.Q ++ (s.E ++ (s.V ++ G))))))))) := fun N c hc => by
      rcases List.mem_cons.1 hc with rfl | hc
      · exact .tail _ (List.mem_append_right _ (.tail _ (.head _)))
      · rw [List.mem_singleton.1 hc]; exact .tail _ (List.mem_append_right _ (.head _))
    refine c_keep (l' := As.asA p.n R.N :: (lH8 ++ (owC b4 o :: rlC b p :: (s.M ++ (s.C ++ (s.A ++ (s.T ++ (s.Q ++ (s.E ++ (s.V ++ G)))))))))) (keep_ac []) ?_
    refine c_draw [(0, true), (1, true), (2, true), (3, true), (4, false)] [[], [0], [], [2], [0, 1, 2, 3]] ([rlC b p, owC b4 o]) (by kernel_rfl) (by kernel_rfl) zAtt (hsubA _) ?_
    refine pzU ?_
    apply pl_q
    · exact q_call rfl rfl (fun l hl => rasids_any b p l (hl _ (.head _)))
    · rfl
    · rfl
    · rfl
    refine pzU ?_
    apply pl_e
    · exact e_call0 rfl rfl (As.addPool_any p.n R.N o.pl _)
    · rfl
    · rfl
    · rfl
    · rintro _ _ ⟨_, rfl⟩; exact hsubA _
    rintro _ _ ⟨rfl, rfl⟩
    refine pzU ?_
    refine gzU ?_
    refine c_draw [(0, true), (1, true), (2, true), (3, true), (4, true), (5, true), (6, false)] [[], [0], [], [2], [], [4], [0, 1, 2, 3, 4, 5]] ([rlC b p, owC b4 o]) (by kernel_rfl) (by kernel_rfl) zAtt (hsubA _) ?_
    refine pzU ?_
    apply pl_q
    · exact q_call rfl rfl (fun l hl => rasids_any b p l (hl _ (.head _)))
    · rfl
    · rfl
    · rfl
    refine pzU ?_
    apply pl_e
    · exact e_call0 rfl rfl (As.assign_any p.n (As.addP R.N o.pl).2.2 o.pl o.rt _ (fun n hn => by rw [giv_add]; have := hR.giv n hn; omega))
    · rfl
    · rfl
    · rfl
    · rintro _ _ ⟨_, rfl⟩; exact hsubA _
    rintro _ _ ⟨rfl, rfl⟩
    refine pzU ?_
    refine gzU ?_
    refine k_ret [] rfl (l' := allL b p ⟨s.M, s.C, s.A, lH8, s.T, s.Q, s.E, s.V⟩ (layR R o false) ([owC b4 o] ++ G)) (by unfold allL; dsimp only [layR]; exact keep_ac []) (by exact zRes) ⟨rfl, ⟨s.M, s.C, s.A, lH8, s.T, s.Q, s.E, s.V⟩, [owC b4 o], ?_, rfl⟩
    have hL : layH R.H o false = H8 := by
      simp only [layH, Bool.false_eq_true, if_false]
      rw [← hH1, ← hH2, ← hH3, ← hH4, ← hH6, ← hH7, ← hH8]
    unfold layR
    rw [hL]
    clear hH1 hH2 hH3 hH4 hH6 hH7 hH8
    exact ⟨hR.mem, hR.co, hR.ar, hR.an, hq8, hI8.mono (by omega), fun i hi => by have := giv_asg (s := (As.addP R.N o.pl).2.2) (k := n) (fun n hn => by rw [giv_add]; exact hR.giv n hn) o.pl o.rt i hi; simp only; omega, hR.th, hR.qu, fun j hj => Nat.le_trans (hR.ql j hj) (by omega), hR.en, hR.cu, hR.c1⟩
end Go.Proofs.YtgafamgacpglcaaGreat


/- boot.share. -/
-- GU
set_option linter.unusedVariables false
set_option linter.unusedSimpArgs false
namespace Go.Proofs.YtgafamgacpglcaaGreat
open Go.RowKit
set_option maxRecDepth 20000
set_option pp.deepTerms false
set_option pp.deepTerms.threshold 4

def owV : List OwT → List Value
  | [] => []
  | o :: os => owL o ++ owV os
theorem owV_ext : ∀ {os : List OwT} {i : Nat} {o : OwT}, os[i]? = some o → i * 5 + 5 ≤ (List.toArray (owV os)).size ∧ (List.toArray (owV os)).extract (i * 5) (i * 5 + 5) = List.toArray (owL o)
  | [], i, o, h => by cases h
  | a :: os, 0, o, h => by
    obtain rfl : a = o := Option.some.inj h
    refine ⟨by show 0 * 5 + 5 ≤ (owL a ++ owV os).length; simp [owL], ?_⟩
    show (List.toArray (owL a ++ owV os)).extract (0 * 5) (0 * 5 + 5) = _
    simp [owL, List.extract_eq_take_drop]
  | a :: os, i + 1, o, h => by
    obtain ⟨h1, h2⟩ := owV_ext (os := os) (i := i) (o := o) h
    simp only [List.size_toArray] at h1
    refine ⟨by show (i + 1) * 5 + 5 ≤ (owL a ++ owV os).length; simp [owL]; omega, ?_⟩
    show (List.toArray (owL a ++ owV os)).extract ((i + 1) * 5) ((i + 1) * 5 + 5) = _
    rw [← h2]
    simp only [List.extract_toArray, List.extract_eq_take_drop]
    have e1 : (i + 1) * 5 = i * 5 + (owL a).length := by show _ = i * 5 + 5; omega
    have e2 : (i + 1) * 5 + 5 - (i + 1) * 5 = i * 5 + 5 - i * 5 := by omega
    rw [e2]
    congr 1
    rw [e1, Nat.add_comm, List.drop_append]
    simp
abbrev ow0 : OwT := ⟨0, 0, 0, 0, 0⟩
abbrev capE (o : Int) : CapT := ⟨8, o, 7, 0, 0, 0, 0, 0⟩
theorem capE_w (o : Int) : CapW (capE o) := ⟨Int.le_refl 0, by show (0 : Int) ≤ 9223372036854775807; decide⟩
def shH (H : HS) (nd : Int) (i : Nat) (o : OwT) : HS :=
  let H1 := (derH H (nd, 7) (o.nd, 7) (mintC (atD H.1 (nd, 7)) 7 (i + 1))).2
  (derH H1 (nd, 7) (o.th, 2) (mintC (atD H1.1 (nd, 7)) 7 (101 + i))).2
def shK (nd : Int) (os : List OwT) (H : HS) : Nat → HS
  | 0 => H
  | k + 1 => if k = 0 then shK nd os H k else shH (shK nd os H k) nd k (os.getD k ow0)
def shareH (H : HS) (os : List OwT) (sh : Int) : HS := shK (os.getD 0 ow0).nd os (rootH H ((os.getD 0 ow0).nd, 7) (capE sh)).2 os.length
theorem InvH.shH {H : HS} {n : Nat} (h : InvH H n) (nd : Int) (i : Nat) (o : OwT) : InvH (shH H nd i o) (n + 2) := by
  have h1 := h.der (nd, 7) (o.nd, 7) (mintC (atD H.1 (nd, 7)) 7 (i + 1)) (mint_w (h.at _).2 _ _)
  exact h1.der (nd, 7) (o.th, 2) _ (mint_w (h1.at _).2 _ _)
theorem InvH.shK {H : HS} {n : Nat} (h : InvH H n) (nd : Int) (os : List OwT) : ∀ k, InvH (shK nd os H k) (n + 2 * k)
  | 0 => h
  | k + 1 => by
    show InvH (if k = 0 then _ else _) _
    split
    · exact (InvH.shK h nd os k).mono (by omega)
    · exact ((InvH.shK h nd os k).shH nd k _).mono (by omega)
abbrev slX (B : Nat) (s : slT) : Chunk := (B, .cells (List.toArray (encT s)) 113 (0, 0))
set_option maxHeartbeats 4000000 in
theorem share_any (F C n : Nat) (R : RT) (b : Nat) (p : RP) (s : RL) (hR : IsRl F C n R p s) (hn : n ≤ 900) (os : List OwT) (h0 : 1 ≤ os.length) (h3 : os.length ≤ 3) (sh : Int) (bs cap : Nat) (T : TypeId) (fz : Nat × Nat) (G : List Chunk) (hm : (bs, Obj.cells (List.toArray (owV os)) T fz) ∈ G) :
    Fn Tryz.prog 25 [pV b, .slice (some ⟨bs, 0, none⟩) os.length cap, .int .i64 sh] (allL b p s R G) fun v l' =>
    v = .tuple #[] ∧ ∃ s' X, IsRl F C (n + 7) { R with H := shareH R.H os sh } p s' ∧ l' = allL b p s' { R with H := shareH R.H os sh } (X ++ G) := by
  obtain ⟨o0, ot, rfl⟩ : ∃ o ot, os = o :: ot := by
    cases os with
    | nil => exact absurd h0 (by decide)
    | cons o ot => exact ⟨o, ot, rfl⟩
  refine fn_of_body Tryz.func25 rfl rfl fun E => ?_
  simp only [argF, Tryz.ntmps25]
  unfold allL
  refine gzU ?_
  have hm1 : (bs, Obj.cells (List.toArray (owV (o0 :: ot))) T fz) ∈ rlC b p :: As.asA p.n R.N :: (s.M ++ (s.C ++ (s.A ++ (s.H ++ (s.T ++ (s.Q ++ (s.E ++ (s.V ++ G)))))))) := .tail _ (.tail _ (List.mem_append_right _ (List.mem_append_right _ (List.mem_append_right _ (List.mem_append_right _ (List.mem_append_right _ (List.mem_append_right _ (List.mem_append_right _ (List.mem_append_right _ hm)))))))))
  refine t_q (q_load (v := .int .i64 o0.nd) rfl hm1 rfl) rfl rfl rfl ?_
  refine gzU ?_
  refine t_e e_alloc rfl rfl rfl ?_; rintro _ _ ⟨b6, _, rfl, rfl⟩
  refine gzU ?_
  have hsub1 : ∀ (lq : List Chunk) (c : Chunk), c ∈ [rlC b p, slX b6 (o0.nd, 7)] → c ∈ lq ++ (slX b6 (o0.nd, 7) :: rlC b p :: As.asA p.n R.N :: (s.M ++ (s.C ++ (s.A ++ (s.T ++ (s.Q ++ (s.E ++ (s.V ++ G)))))))) := fun lq c hc => by
    rcases List.mem_cons.1 hc with rfl | hc
    · exact List.mem_append_right _ (.tail _ (.head _))
    · rw [List.mem_singleton.1 hc]; exact List.mem_append_right _ (.head _)
  refine c_keep (l' := s.H ++ (slX b6 (o0.nd, 7) :: rlC b p :: As.asA p.n R.N :: (s.M ++ (s.C ++ (s.A ++ (s.T ++ (s.Q ++ (s.E ++ (s.V ++ G))))))))) (by dsimp only [slX, encT]; exact keep_ac []) ?_
  refine c_draw [(0, true), (1, true), (2, true), (3, true), (4, true), (5, false)] [[], [0], [], [], [3], [0, 1, 2, 3, 4]] ([rlC b p, slX b6 (o0.nd, 7)]) (by kernel_rfl) (by kernel_rfl) zAtt (hsub1 _) ?_
  refine pzU ?_
  apply pl_q
  · exact q_call rfl rfl (fun l hl => rhold_any b p l (hl _ (.head _)))
  · rfl
  · rfl
  · rfl
  refine pzU ?_
  apply pl_e
  · exact e_call0 rfl rfl (hroot_any p.h R.H n hR.inv s.H hR.ho (o0.nd, 7) (capE sh) _)
  · rfl
  · rfl
  · rfl
  · rintro _ _ ⟨_, _, _, rfl⟩; exact hsub1 _
  rintro _ _ ⟨rfl, lH1, hq1, rfl⟩
  refine pzU ?_
  refine gzU ?_
  obtain ⟨H1, hH1⟩ : ∃ x, x = (rootH R.H (o0.nd, 7) (capE sh)).2 := ⟨_, rfl⟩
  have hI1 : InvH H1 (n + 1) := by rw [hH1]; exact InvH.root hR.inv _ _ (capE_w _)
  rw [← hH1] at hq1
  refine k_loop (α := Nat × List Chunk × List Chunk) (fun x => [(0, pV b), (6, pV b6), (20, .slice (some ⟨bs, 0, none⟩) (o0 :: ot).length cap), (21, .int .i64 ((o0 :: ot).length : Nat)), (22, .int .i64 x.1)]) (fun x => x.2.1 ++ (slX b6 (o0.nd, 7) :: rlC b p :: As.asA p.n R.N :: (s.M ++ (s.C ++ (s.A ++ (s.T ++ (s.Q ++ (s.E ++ (s.V ++ (x.2.2 ++ G))))))))))
    (fun x => x.1 ≤ (o0 :: ot).length ∧ IsH p.h (shK o0.nd (o0 :: ot) H1 x.1) x.2.1) (fun x => (o0 :: ot).length - x.1) (0, lH1, []) ⟨Nat.zero_le _, hq1⟩ ⟨rfl, rfl, rfl, rfl, rfl, trivial⟩ (by simp only [List.nil_append]; exact keep_ac []) ?_
  rintro ⟨k, lH, X⟩ ⟨hk, hq⟩
  simp only at hk hq ⊢
  by_cases hkl : k < (o0 :: ot).length
  · obtain ⟨o, ho⟩ : ∃ o, (o0 :: ot)[k]? = some o := ⟨_, List.getElem?_eq_getElem hkl⟩
    obtain ⟨x1, x2⟩ := owV_ext ho
    have hm2 : (bs, Obj.cells (List.toArray (owV (o0 :: ot))) T fz) ∈ lH ++ (slX b6 (o0.nd, 7) :: rlC b p :: As.asA p.n R.N :: (s.M ++ (s.C ++ (s.A ++ (s.T ++ (s.Q ++ (s.E ++ (s.V ++ (X ++ G))))))))) := List.mem_append_right _ (.tail _ (.tail _ (.tail _ (List.mem_append_right _ (List.mem_append_right _ (List.mem_append_right _ (List.mem_append_right _ (List.mem_append_right _ (List.mem_append_right _ (List.mem_append_right _ (List.mem_append_right _ hm)))))))))))
    refine gzU ?_
    refine t_q (q_loadA rfl hm2 x1 x2) rfl rfl rfl ?_
    refine gzU ?_
    refine t_e e_alloc rfl rfl rfl ?_; rintro _ _ ⟨b8, _, rfl, rfl⟩
    refine gzU ?_
    by_cases hk0 : k = 0
    · subst hk0
      refine gzU ?_
      refine k_next (0 + 1, lH, owC b8 o :: X) ⟨by omega, ?_⟩ (by simp only; omega) ⟨rfl, rfl, rfl, rfl, rfl, trivial⟩ (by dsimp only [owC, owL]; exact keep_ac [])
      exact hq
    refine gzU ?_
    have hI : InvH (shK o0.nd (o0 :: ot) H1 k) (n + 1 + 2 * k) := hI1.shK _ _ _
    have hsub2 : ∀ (lq : List Chunk) (c : Chunk), c ∈ [rlC b p, slX b6 (o0.nd, 7), owC b8 o] → c ∈ lq ++ (owC b8 o :: slX b6 (o0.nd, 7) :: rlC b p :: As.asA p.n R.N :: (s.M ++ (s.C ++ (s.A ++ (s.T ++ (s.Q ++ (s.E ++ (s.V ++ (X ++ G))))))))) := fun lq c hc => by
      rcases List.mem_cons.1 hc with rfl | hc
      · exact List.mem_append_right _ (.tail _ (.tail _ (.head _)))
      · rcases List.mem_cons.1 hc with rfl | hc
        · exact List.mem_append_right _ (.tail _ (.head _))
        · rw [List.mem_singleton.1 hc]; exact List.mem_append_right _ (.head _)
    refine c_keep (l' := lH ++ (owC b8 o :: slX b6 (o0.nd, 7) :: rlC b p :: As.asA p.n R.N :: (s.M ++ (s.C ++ (s.A ++ (s.T ++ (s.Q ++ (s.E ++ (s.V ++ (X ++ G)))))))))) (by dsimp only [owC, owL]; exact keep_ac []) ?_
    refine c_draw [(0, true), (1, true), (2, true), (3, true), (4, true), (5, true), (6, true), (7, true), (8, true), (9, false)] [[], [0], [], [], [3], [3, 4], [], [6], [6, 7], [0, 1, 2, 3, 4, 5, 6, 7, 8]] ([rlC b p, slX b6 (o0.nd, 7), owC b8 o]) (by kernel_rfl) (by kernel_rfl) zAtt (hsub2 _) ?_
    refine pzU ?_
    apply pl_q
    · exact q_call rfl rfl (fun l hl => rhold_any b p l (hl _ (.head _)))
    · rfl
    · rfl
    · rfl
    refine pzU ?_
    apply pl_e
    · exact e_call0 rfl rfl (hmint_any p.h (shK o0.nd (o0 :: ot) H1 k) _ (hI) (by omega) lH hq (o0.nd, 7) (o.nd, 7) 7 (k + 1) (by omega) _)
    · rfl
    · rfl
    · rfl
    · rintro _ _ ⟨_, _, _, rfl⟩; exact hsub2 _
    rintro _ _ ⟨rfl, lM1, hm1', rfl⟩
    refine pzU ?_
    refine gzU ?_
    have hI' := hI.der (o0.nd, 7) (o.nd, 7) (mintC (atD (shK o0.nd (o0 :: ot) H1 k).1 (o0.nd, 7)) 7 (k + 1)) (mint_w (hI.at _).2 _ _)
    refine c_draw [(0, true), (1, true), (2, true), (3, true), (4, true), (5, true), (6, true), (7, true), (8, true), (9, false)] [[], [0], [], [], [3], [3, 4], [], [6], [6, 7], [0, 1, 2, 3, 4, 5, 6, 7, 8]] ([rlC b p, slX b6 (o0.nd, 7), owC b8 o]) (by kernel_rfl) (by kernel_rfl) zAtt (hsub2 _) ?_
    refine pzU ?_
    apply pl_q
    · exact q_call rfl rfl (fun l hl => rhold_any b p l (hl _ (.head _)))
    · rfl
    · rfl
    · rfl
    refine pzU ?_
    apply pl_e
    · exact e_call0 rfl rfl (hmint_any p.h _ _ (hI') (by omega) lM1 hm1' (o0.nd, 7) (o.th, 2) 7 (101 + k) (by omega) _)
    · rfl
    · rfl
    · rfl
    · rintro _ _ ⟨_, _, _, rfl⟩; exact hsub2 _
    rintro _ _ ⟨rfl, lM2, hm2', rfl⟩
    refine pzU ?_
    refine gzU ?_
    refine k_next (k + 1, lM2, owC b8 o :: X) ⟨by omega, ?_⟩ (by simp only; omega) ⟨rfl, rfl, rfl, rfl, rfl, trivial⟩ (keep_ac [])
    have e1 : shK o0.nd (o0 :: ot) H1 (k + 1) = shH (shK o0.nd (o0 :: ot) H1 k) o0.nd k o := by
      show (if k = 0 then _ else _) = _
      rw [if_neg hk0, List.getD, ho, Option.getD_some]
    show IsH p.h (shK o0.nd (o0 :: ot) H1 (k + 1)) lM2
    rw [e1]
    exact hm2'
  · refine gzU ?_
    obtain rfl : k = (o0 :: ot).length := by omega
    have hL : shareH R.H (o0 :: ot) sh = shK o0.nd (o0 :: ot) H1 (o0 :: ot).length := by
      show shK o0.nd (o0 :: ot) (rootH R.H (o0.nd, 7) (capE sh)).2 _ = _
      rw [← hH1]
    have hI : InvH (shK o0.nd (o0 :: ot) H1 (o0 :: ot).length) (n + 1 + 2 * (o0 :: ot).length) := hI1.shK _ _ _
    refine k_ret [] rfl (l' := allL b p ⟨s.M, s.C, s.A, lH, s.T, s.Q, s.E, s.V⟩ { R with H := shareH R.H (o0 :: ot) sh } ((slX b6 (o0.nd, 7) :: X) ++ G)) (by unfold allL; dsimp only; exact keep_ac []) (by exact zRes) ⟨rfl, ⟨s.M, s.C, s.A, lH, s.T, s.Q, s.E, s.V⟩, slX b6 (o0.nd, 7) :: X, ?_, rfl⟩
    rw [hL]
    exact ⟨hR.mem, hR.co, hR.ar, hR.an, hq, hI.mono (by omega), fun i hi => by have := hR.giv i hi; simp only; omega, hR.th, hR.qu, fun j hj => Nat.le_trans (hR.ql j hj) (by omega), hR.en, hR.cu, hR.c1⟩
end Go.Proofs.YtgafamgacpglcaaGreat


/- realm.State (Ready), kernel.New. -/
-- GU
set_option linter.unusedVariables false
set_option linter.unusedSimpArgs false
namespace Go.Proofs.YtgafamgacpglcaaGreat
open Go.RowKit
set_option maxRecDepth 20000
set_option pp.deepTerms false
set_option pp.deepTerms.threshold 4

def readyR (R : RT) (id : Int) : RT := match Th.findH R.T id with
  | none => R
  | some t => { R with T := (Th.setD R.T { t with st := 1 }).2, Q := (Qu.addQ R.Q id t.pr).2 }
theorem addQ_len {X : Nat → List Int} {k : Nat} (h : ∀ n, n < 8 → (X n).length ≤ k) (id pr : Int) : ∀ n, n < 8 → ((Qu.addQ X id pr).2 n).length ≤ k + 1 := by
  intro n hn
  have h0 := h n hn
  unfold Qu.addQ
  split
  · exact Nat.le_succ_of_le h0
  split
  · exact Nat.le_succ_of_le h0
  · simp only [Qu.upd]
    split
    · rename_i e
      subst e
      simp only [List.length_append, List.length_cons, List.length_nil]
      omega
    · exact Nat.le_succ_of_le h0
set_option maxHeartbeats 2000000 in
theorem state_any (F C n : Nat) (R : RT) (b : Nat) (p : RP) (s : RL) (hR : IsRl F C n R p s) (hn : n ≤ 900) (id : Int) (G : List Chunk) : Fn Tryz.prog 29 [pV b, .int .i64 id, .int .i64 1] (allL b p s R G) fun v l' =>
    (∃ e, v = .int .i64 e) ∧ ∃ s' X, IsRl F C (n + 1) (readyR R id) p s' ∧ l' = allL b p s' (readyR R id) (X ++ G) := by
  refine fn_of_body Tryz.func29 rfl rfl fun E => ?_
  simp only [argF, Tryz.ntmps29]
  unfold allL
  refine gzU ?_
  refine t_q (q_call rfl rfl (fun l hl => Th.get_any p.t R.T s.T hR.th id l (fun c hc => hl _ (.tail _ (.tail _ (List.mem_append_right _ (List.mem_append_right _ (List.mem_append_right _ (List.mem_append_right _ (List.mem_append_left _ hc)))))))))) rfl rfl rfl ?_
  cases hf : Th.findH R.T id with
  | none =>
    have e : readyR R id = R := by unfold readyR; rw [hf]
    simp only [Option.getD_none, Option.isSome_none]
    refine gzU ?_
    refine t_e e_alloc rfl rfl rfl ?_; rintro _ _ ⟨b7, _, rfl, rfl⟩
    refine gzU ?_
    refine k_ret [] rfl (l' := allL b p s R ([Th.thC b7 Th.thZ] ++ G)) (by unfold allL; dsimp only [Th.thC, Th.encH, Th.thZ]; exact keep_ac []) (by exact zRes) ⟨⟨_, rfl⟩, s, [Th.thC b7 Th.thZ], ?_, by rw [e]; rfl⟩
    rw [e]
    exact hR.mono (by omega)
  | some t =>
    have e : readyR R id = { R with T := (Th.setD R.T { t with st := 1 }).2, Q := (Qu.addQ R.Q id t.pr).2 } := by unfold readyR; rw [hf]
    simp only [Option.getD_some, Option.isSome_some]
    refine gzU ?_
    refine t_e e_alloc rfl rfl rfl ?_; rintro _ _ ⟨b7, _, rfl, rfl⟩
    refine gzU ?_
    have hsub1 : ∀ (lq : List Chunk) (c : Chunk), c ∈ [rlC b p, Th.thC b7 { t with st := 1 }] → c ∈ lq ++ (Th.thC b7 { t with st := 1 } :: rlC b p :: As.asA p.n R.N :: (s.M ++ (s.C ++ (s.A ++ (s.H ++ (s.Q ++ (s.E ++ (s.V ++ G)))))))) := fun lq c hc => by
      rcases List.mem_cons.1 hc with rfl | hc
      · exact List.mem_append_right _ (.tail _ (.head _))
      · rw [List.mem_singleton.1 hc]; exact List.mem_append_right _ (.head _)
    refine c_keep (l' := s.T ++ (Th.thC b7 { t with st := 1 } :: rlC b p :: As.asA p.n R.N :: (s.M ++ (s.C ++ (s.A ++ (s.H ++ (s.Q ++ (s.E ++ (s.V ++ G))))))))) (by dsimp only [Th.thC, Th.encH]; exact keep_ac []) ?_
    refine c_draw [(0, true), (1, true), (2, true), (3, true), (4, true), (5, false)] [[], [0], [0, 1], [0, 1, 2], [], [0, 1, 2, 3, 4]] ([rlC b p, Th.thC b7 { t with st := 1 }]) (by kernel_rfl) (by kernel_rfl) zAtt (hsub1 _) ?_
    refine pzU ?_
    apply pl_e
    · exact e_call0 rfl rfl (Th.set_any p.t R.T s.T hR.th { t with st := 1 } _)
    · rfl
    · rfl
    · rfl
    · rintro _ _ ⟨_, _, _, rfl⟩; exact hsub1 _
    rintro _ _ ⟨rfl, lT, hT, rfl⟩
    refine pzU ?_
    refine gzU ?_
    have hsub2 : ∀ (lq : List Chunk) (c : Chunk), c ∈ [rlC b p, Th.thC b7 { t with st := 1 }] → c ∈ lq ++ (Th.thC b7 { t with st := 1 } :: rlC b p :: As.asA p.n R.N :: (s.M ++ (s.C ++ (s.A ++ (s.H ++ (lT ++ (s.E ++ (s.V ++ G)))))))) := fun lq c hc => by
      rcases List.mem_cons.1 hc with rfl | hc
      · exact List.mem_append_right _ (.tail _ (.head _))
      · rw [List.mem_singleton.1 hc]; exact List.mem_append_right _ (.head _)
    refine c_keep (l' := s.Q ++ (Th.thC b7 { t with st := 1 } :: rlC b p :: As.asA p.n R.N :: (s.M ++ (s.C ++ (s.A ++ (s.H ++ (lT ++ (s.E ++ (s.V ++ G))))))))) (keep_ac []) ?_
    refine c_draw [(0, true), (1, true), (2, true), (3, true), (4, true), (5, true), (6, true), (7, false)] [[], [0], [0, 1], [0, 1, 2], [], [], [5], [0, 1, 2, 3, 4, 5, 6]] ([rlC b p, Th.thC b7 { t with st := 1 }]) (by kernel_rfl) (by kernel_rfl) zAtt (hsub2 _) ?_
    refine pzU ?_
    apply pl_e
    · exact e_call0 rfl rfl (Qu.add_any p.q R.Q s.Q id t.pr hR.qu (fun j hj => by have := hR.ql j hj; omega) _)
    · rfl
    · rfl
    · rfl
    · rintro _ _ ⟨_, _, _, rfl⟩; exact hsub2 _
    rintro _ _ ⟨rfl, lQ, hQ, rfl⟩
    refine pzU ?_
    refine gzU ?_
    rw [e]
    refine k_ret [] rfl (l' := allL b p ⟨s.M, s.C, s.A, s.H, lT, lQ, s.E, s.V⟩ { R with T := (Th.setD R.T { t with st := 1 }).2, Q := (Qu.addQ R.Q id t.pr).2 } ([Th.thC b7 { t with st := 1 }] ++ G)) (by unfold allL; dsimp only; exact keep_ac []) (by exact zRes) ⟨⟨_, rfl⟩, ⟨s.M, s.C, s.A, s.H, lT, lQ, s.E, s.V⟩, [Th.thC b7 { t with st := 1 }], ?_, rfl⟩
    exact ⟨hR.mem, hR.co, hR.ar, hR.an, hR.ho, hR.inv.mono (by omega), fun i hi => by have := hR.giv i hi; simp only; omega, hT, hQ, addQ_len hR.ql id t.pr, hR.en, hR.cu, hR.c1⟩
abbrev knC (B b : Nat) : Chunk := (B, .cells (List.toArray [pV b]) 85 (0, 0))
theorem knew_any (b : Nat) (l : List Chunk) : Fn Tryz.prog 30 [pV b] l fun v l' => ∃ B, v = .tuple #[pV B, .int .i64 0] ∧ l' = knC B b :: l := by
  refine fn_of_body Tryz.func30 rfl rfl fun E => ?_
  simp only [argF, Tryz.ntmps30]
  refine gzU ?_
  refine t_e (e_boxA rfl) rfl rfl rfl ?_
  rintro _ _ ⟨B, _, rfl, rfl⟩
  refine gzU ?_
  exact k_ret [] rfl .refl (by exact zRes) ⟨B, rfl, rfl⟩
end Go.Proofs.YtgafamgacpglcaaGreat


/- boot.May. -/
-- GU
set_option linter.unusedVariables false
set_option linter.unusedSimpArgs false
namespace Go.Proofs.YtgafamgacpglcaaGreat
open Go.RowKit
set_option maxRecDepth 20000
set_option pp.deepTerms false
set_option pp.deepTerms.threshold 4

def mayB (F C T : Int) : Bool := decide (1 ≤ T) && decide (T ≤ 3) && decide (1 ≤ C) && decide (C ≤ 3) && decide (11 * T ≤ F) && decide (F ≤ 64)
set_option maxHeartbeats 1000000 in
theorem bmay_any (F C T : Int) (sh : Bool) (l : List Chunk) : Fn Tryz.prog 20 [.agg (List.toArray [.int .i64 F, .int .i64 C, .int .i64 T, .bool sh])] l fun v l' => v = .bool (mayB F C T) ∧ l' = l := by
  refine fn_of_body Tryz.func20 rfl rfl fun E => ?_
  simp only [argF, Tryz.ntmps20]
  refine gzU ?_
  refine t_e (e_boxA rfl) rfl rfl rfl ?_
  rintro _ _ ⟨b1, _, rfl, rfl⟩
  refine gzU ?_
  by_cases h0 : 1 ≤ T
  case neg =>
    refine gzU ?_
    exact k_ret [] rfl (l' := l) (.drop .refl) (by exact zRes) ⟨by simp [mayB, tup, h0], rfl⟩
  by_cases h1 : T ≤ 3
  case neg =>
    refine gzU ?_
    exact k_ret [] rfl (l' := l) (.drop .refl) (by exact zRes) ⟨by simp [mayB, tup, h0, h1], rfl⟩
  by_cases h2 : 1 ≤ C
  case neg =>
    refine gzU ?_
    exact k_ret [] rfl (l' := l) (.drop .refl) (by exact zRes) ⟨by simp [mayB, tup, h0, h1, h2], rfl⟩
  by_cases h3 : C ≤ 3
  case neg =>
    refine gzU ?_
    exact k_ret [] rfl (l' := l) (.drop .refl) (by exact zRes) ⟨by simp [mayB, tup, h0, h1, h2, h3], rfl⟩
  by_cases h4 : 11 * T ≤ F
  case neg =>
    refine gzU ?_
    exact k_ret [] rfl (l' := l) (.drop .refl) (by exact zRes) ⟨by simp [mayB, tup, h0, h1, h2, h3, h4], rfl⟩
  by_cases h5 : F ≤ 64
  case neg =>
    refine gzU ?_
    exact k_ret [] rfl (l' := l) (.drop .refl) (by exact zRes) ⟨by simp [mayB, tup, h0, h1, h2, h3, h4, h5], rfl⟩
  refine gzU ?_
  exact k_ret [] rfl (l' := l) (.drop .refl) (by exact zRes) ⟨by simp [mayB, tup, h0, h1, h2, h3, h4, h5], rfl⟩
end Go.Proofs.YtgafamgacpglcaaGreat


/- boot.New. -/
-- GU
set_option linter.unusedVariables false
set_option linter.unusedSimpArgs false
namespace Go.Proofs.YtgafamgacpglcaaGreat
open Go.RowKit
set_option maxRecDepth 20000
set_option pp.deepTerms false
set_option pp.deepTerms.threshold 4

def mkF (S : RT × List Int) (x : Int × Int × Int) : RT × List Int := ((makeR S.1 x.1 x.2.1 x.2.2).2, S.2 ++ [(makeR S.1 x.1 x.2.1 x.2.2).1.1])
def mkL (F : Nat) (xs : List (Int × Int × Int)) : RT × List Int := xs.foldl mkF (newR F, [])
theorem mkL_snoc (F : Nat) (xs : List (Int × Int × Int)) (x : Int × Int × Int) : mkL F (xs ++ [x]) = mkF (mkL F xs) x := by
  unfold mkL; rw [List.foldl_append]; rfl
theorem mkL_len (F : Nat) (xs : List (Int × Int × Int)) : (mkL F xs).2.length = xs.length := by
  have h : ∀ (xs : List (Int × Int × Int)) (S : RT × List Int), (xs.foldl mkF S).2.length = S.2.length + xs.length := by
    intro xs
    induction xs with
    | nil => intro S; rfl
    | cons x r ih => intro S; show (List.foldl mkF (mkF S x) r).2.length = _; rw [ih]; simp [mkF]; omega
  rw [mkL, h]; simp
abbrev ccC (B : Nat) (F C T : Int) (sh : Bool) : Chunk := (B, .cells (List.toArray [.int .i64 F, .int .i64 C, .int .i64 T, .bool sh]) 37 (0, 0))
theorem bnew_no (F C T : Int) (sh : Bool) (h : mayB F C T = false) (l : List Chunk) : Fn Tryz.prog 9 [.agg (List.toArray [.int .i64 F, .int .i64 C, .int .i64 T, .bool sh])] l fun v l' => v = .tuple #[.pointer none, .slice none 0 0, .int .i64 3] ∧ l' = l := by
  refine fn_of_body Tryz.func9 rfl rfl fun E => ?_
  simp only [argF, Tryz.ntmps9]
  refine gzU ?_
  refine t_e (e_boxA rfl) rfl rfl rfl ?_
  rintro _ _ ⟨b1, _, rfl, rfl⟩
  refine gzU ?_
  refine t_q (q_call rfl rfl (fun l hl => bmay_any F C T sh l)) rfl rfl rfl ?_
  rw [h]
  refine gzU ?_
  exact k_ret [] rfl (l' := l) (.drop .refl) (by exact zRes) ⟨rfl, rfl⟩
abbrev pcC (B b : Nat) : Chunk := (B, .cells (List.toArray [pV b]) 42 (0, 0))
abbrev idC (B : Nat) (v : Value) : Chunk := (B, .cells (List.toArray [v]) 30 (0, 0))
def InL (F C b : Nat) (p : RP) (b8 : Nat) (pre : List (Int × Int × Int)) (l : List Chunk) : Prop := ∃ s v cs X, IsRl F C pre.length (mkL F pre).1 p s ∧ OwnSl 3 1 v pre.length ((mkL F pre).2.map intQ) cs ∧ l = allL b p s (mkL F pre).1 (idC b8 v :: (cs ++ X))
def ownI (ids : List Int) (T i : Nat) : OwT := ⟨ids.getD (4 * i) 0, ids.getD (4 * i + 1) 0, ids.getD (4 * i + 2) 0, ids.getD (4 * i + 3) 0, ids.getD (ids.length - T + i) 0⟩
def ownF (ids : List Int) (T i : Nat) : List OwT := (List.range i).map (ownI ids T) ++ List.replicate (T - i) ow0
theorem own_rows (n : Nat) : owV (List.replicate n ow0) = (List.replicate n (owL ow0)).flatten := by
  induction n with
  | zero => rfl
  | succ n ih => rw [List.replicate_succ, List.replicate_succ, List.flatten_cons, ← ih]; rfl
/-- a code's pieces, one behind the other -/
def aft : Nat → Code → Code
  | 0, c => c
  | n + 1, .seq _ c => aft n c
  | _, c => c
def hed : Code → Code
  | .seq c _ => c
  | c => c
theorem p_weak {N : Nat} {E : World} {Q : Exit → Act → World → Prop} {e : Exit} {fr fr' : Fr} {ds : List Deferred} {l l' : List Chunk} (hs : FSub fr' fr) (p : Keep l l') (h : PostS N E Q e fr' ds l') : PostS N E Q e fr ds l := ⟨fun a W hf hds hw => h.run a W (hf.sub hs.spec) hds (p.sat hw)⟩
theorem owV_len : ∀ os : List OwT, (owV os).length = os.length * 5
  | [] => rfl
  | o :: os => by show (owL o ++ owV os).length = _; rw [List.length_append, owV_len os]; simp; omega
theorem owV_app (xs bs : List OwT) : owV (xs ++ bs) = owV xs ++ owV bs := by
  induction xs with
  | nil => rfl
  | cons a r ih => show owL a ++ owV (r ++ bs) = _; rw [ih]; rfl
theorem ownF_len (ids : List Int) (T i : Nat) (h : i ≤ T) : (ownF ids T i).length = T := by simp [ownF]; omega
theorem ownF_set (ids : List Int) (T i : Nat) (h : i < T) : setFrom (List.toArray (owV (ownF ids T i))) (i * 5) (owL (ownI ids T i)) = List.toArray (owV (ownF ids T (i + 1))) := by
  have e1 : ownF ids T i = (List.range i).map (ownI ids T) ++ (ow0 :: List.replicate (T - (i + 1)) ow0) := by
    unfold ownF; rw [show T - i = (T - (i + 1)) + 1 by omega, List.replicate_succ]
  have e2 : ownF ids T (i + 1) = (List.range i).map (ownI ids T) ++ (ownI ids T i :: List.replicate (T - (i + 1)) ow0) := by
    unfold ownF; rw [List.range_succ, List.map_append, List.append_assoc]; rfl
  rw [e1, e2, owV_app, owV_app]
  have := setFrom_mid (owL ow0) (owL (ownI ids T i)) (owV ((List.range i).map (ownI ids T))) (owV (List.replicate (T - (i + 1)) ow0)) rfl
  rw [owV_len, List.length_map, List.length_range] at this
  exact this
end Go.Proofs.YtgafamgacpglcaaGreat


/- boot.New's first loop: who has which objects. -/
-- GU
set_option linter.unusedVariables false
set_option linter.unusedSimpArgs false
namespace Go.Proofs.YtgafamgacpglcaaGreat
open Go.RowKit
set_option maxRecDepth 20000
set_option pp.deepTerms false
set_option pp.deepTerms.threshold 4

def laL (F C T : Nat) (sh : Bool) (ids : List Int) (sp : List Value) (b1 b5 b8 bo b gb cap i : Nat) : List Chunk := [idC b8 (.slice (some ⟨gb, 0, none⟩) (5 * T + sh.toNat) cap), (gb, Obj.cells (List.toArray (ids.map intQ ++ sp)) 3 (0, 0)), ccC b1 F C T sh, pcC b5 b, (bo, Obj.cells (List.toArray (owV (ownF ids T i))) 67 (0, 0))]
abbrev laF (T : Nat) (b1 b5 b8 bo : Nat) : Fr := [(1, pV b1), (5, pV b5), (7, .slice (some ⟨bo, 0, none⟩) T T), (8, pV b8), (9, .int .i64 0)]
set_option maxHeartbeats 4000000 in
theorem bn_A {E : World} {Q : Exit → Act → World → Prop} {ds : List Deferred} {fn : Func} {c : Code} (hf : Tryz.prog.funcs[9]? = some fn) (hc : fn.body = some c) (F C T : Nat) (sh : Bool) (hT1 : 1 ≤ T) (hT : T ≤ 3) (ids : List Int) (sp : List Value) (hil : ids.length = 5 * T + sh.toNat) (b1 b5 b8 bo b gb cap : Nat) (Z : List Chunk)
    (k : PostS fn.ntmps E Q .normal (laF T b1 b5 b8 bo) ds (laL F C T sh ids sp b1 b5 b8 bo b gb cap T ++ Z)) : CodeS Tryz.prog none fn.ntmps E (hed (aft 7 c)) Q (laF T b1 b5 b8 bo) ds (laL F C T sh ids sp b1 b5 b8 bo b gb cap 0 ++ Z) := by
  obtain rfl := Option.some.inj (hf.symm.trans Tryz.func9)
  obtain rfl := Option.some.inj hc
  simp only [Tryz.func9, Tryz.ntmps9, aft, hed] at k ⊢
  have hget : ∀ (x : Int) (m : Nat), x = m → m < ids.length → (List.toArray (ids.map intQ ++ sp))[0 + x.toNat * 1]? = some (intQ (ids.getD m 0)) := fun x m hx hm => by
    subst hx
    rw [Int.toNat_natCast, Nat.mul_one, Nat.zero_add, List.getElem?_toArray, List.getElem?_append_left (by rw [List.length_map]; exact hm), List.getElem?_map, List.getD, List.getElem?_eq_getElem hm]; rfl
  refine gzU ?_
  refine k_loop (α := Nat) (fun i => (56, .int .i64 T) :: (57, .int .i64 i) :: (55, .slice (some ⟨bo, 0, none⟩) T T) :: laF T b1 b5 b8 bo) (fun i => laL F C T sh ids sp b1 b5 b8 bo b gb cap i ++ Z)
      (fun i => i ≤ T) (fun i => T - i) 0 (Nat.zero_le _) ⟨rfl, rfl, rfl, rfl, rfl, rfl, rfl, rfl, trivial⟩ .refl ?_
  intro i hi
  have hsh : sh.toNat ≤ 1 := by cases sh <;> decide
  by_cases hlt : i < T
  · unfold laL
    refine gzU ?_
    have hsubA : ∀ c, c ∈ [idC b8 (.slice (some ⟨gb, 0, none⟩) (5 * T + sh.toNat) cap), (gb, Obj.cells (List.toArray (ids.map intQ ++ sp)) 3 (0, 0)), ccC b1 F C T sh] → c ∈ idC b8 (.slice (some ⟨gb, 0, none⟩) (5 * T + sh.toNat) cap) :: (gb, Obj.cells (List.toArray (ids.map intQ ++ sp)) 3 (0, 0)) :: ccC b1 F C T sh :: pcC b5 b :: (bo, Obj.cells (List.toArray (owV (ownF ids T i))) 67 (0, 0)) :: Z := fun c hc => (@List.mem_append_left _ c [_, _, _] _ hc)
    refine c_draw [(0, true), (1, true), (2, true), (3, true), (4, true), (5, true), (6, true), (7, true), (8, true), (9, true), (10, true), (11, true), (12, true), (13, true), (14, true), (15, true), (16, true), (17, true), (18, true), (19, true), (20, true), (21, true), (22, true), (23, true), (24, true), (25, true), (26, true), (27, true), (28, true), (29, true), (30, true), (31, true), (32, true), (33, true), (34, true), (35, true), (36, true), (37, false)] [[], [], [], [], [3], [2, 3, 4], [2, 3, 4, 5], [], [], [8], [8, 9], [7, 8, 9, 10], [7, 8, 9, 10, 11], [], [], [14], [14, 15], [13, 14, 15, 16], [13, 14, 15, 16, 17], [], [], [20], [20, 21], [19, 20, 21, 22], [19, 20, 21, 22, 23], [], [], [26], [], [28], [26, 27, 28, 29], [], [26, 27, 28, 29, 30, 31], [25, 26, 27, 28, 29, 30, 31, 32], [25, 26, 27, 28, 29, 30, 31, 32, 33], [2, 3, 4, 5, 6, 7, 8, 9, 10, 11, 12, 13, 14, 15, 16, 17, 18, 19, 20, 21, 22, 23, 24, 25, 26, 27, 28, 29, 30, 31, 32, 33, 34], [0, 1, 2, 3, 4, 5, 6, 7, 8, 9, 10, 11, 12, 13, 14, 15, 16, 17, 18, 19, 20, 21, 22, 23, 24, 25, 26, 27, 28, 29, 30, 31, 32, 33, 34, 35], [0, 1, 2, 3, 4, 5, 6, 7, 8, 9, 10, 11, 12, 13, 14, 15, 16, 17, 18, 19, 20, 21, 22, 23, 24, 25, 26, 27, 28, 29, 30, 31, 32, 33, 34, 35, 36]] ([idC b8 (.slice (some ⟨gb, 0, none⟩) (5 * T + sh.toNat) cap), (gb, Obj.cells (List.toArray (ids.map intQ ++ sp)) 3 (0, 0)), ccC b1 F C T sh]) (by kernel_rfl) (by kernel_rfl) zAtt (hsubA) ?_
    refine pzU ?_
    apply pl_q
    · exact q_load (v := intQ (ids.getD (4 * i) 0)) rfl (.tail _ (.head _)) (hget _ (4 * i) (by omega) (by omega))
    · rfl
    · rfl
    · rfl
    refine pzU ?_
    apply pl_q
    · exact q_load (v := intQ (ids.getD (4 * i + 1) 0)) rfl (.tail _ (.head _)) (hget _ (4 * i + 1) (by omega) (by omega))
    · rfl
    · rfl
    · rfl
    refine pzU ?_
    apply pl_q
    · exact q_load (v := intQ (ids.getD (4 * i + 2) 0)) rfl (.tail _ (.head _)) (hget _ (4 * i + 2) (by omega) (by omega))
    · rfl
    · rfl
    · rfl
    refine pzU ?_
    apply pl_q
    · exact q_load (v := intQ (ids.getD (4 * i + 3) 0)) rfl (.tail _ (.head _)) (hget _ (4 * i + 3) (by omega) (by omega))
    · rfl
    · rfl
    · rfl
    refine pzU ?_
    apply pl_q
    · exact q_load (v := intQ (ids.getD (ids.length - T + i) 0)) rfl (.tail _ (.head _)) (hget _ (ids.length - T + i) (by omega) (by omega))
    · rfl
    · rfl
    · rfl
    refine pzU ?_
    apply pl_n
    · exact e_storeA (cs := List.toArray (owV (ownF ids T i))) (T := 67) rfl rfl rfl (by simp [intQ, Value.oneCell']) (.there (.there (.there (.there .here)))) (by have := owV_len (ownF ids T i); rw [ownF_len _ _ _ hi] at this; simp only [List.size_toArray, List.length_cons, List.length_nil, this]; omega)
    · rfl
    · rfl
    · rintro _ _ ⟨_, rfl⟩; exact fun c hc => (@List.mem_append_left _ c [_, _, _] _ hc)
    rintro _ _ ⟨rfl, rfl⟩
    refine pzU ?_
    refine gzU ?_
    refine k_next (i + 1) (by omega) (by omega) ⟨rfl, rfl, rfl, rfl, rfl, rfl, rfl, rfl, trivial⟩ (.of_perm (.of_eq ?_))
    show _ = laL F C T sh ids sp b1 b5 b8 bo b gb cap (i + 1) ++ Z
    unfold laL
    rw [← ownF_set ids T i hlt]
    simp only [Int.toNat_natCast, Nat.zero_add]
    rfl
  · refine gzU ?_
    obtain rfl : i = T := by omega
    exact p_weak (fr' := laF i b1 b5 b8 bo) ⟨rfl, rfl, rfl, rfl, rfl, trivial⟩ .refl k
end Go.Proofs.YtgafamgacpglcaaGreat


/- boot.New's second loop: each thread's capabilities are laid out. -/
-- GU
set_option linter.unusedVariables false
set_option linter.unusedSimpArgs false
namespace Go.Proofs.YtgafamgacpglcaaGreat
open Go.RowKit
set_option maxRecDepth 20000
set_option pp.deepTerms false
set_option pp.deepTerms.threshold 4

def layF (R : RT) (os : List OwT) : Nat → RT
  | 0 => R
  | k + 1 => layR (layF R os k) (os.getD k ow0) (decide ((k : Int) = 0))
abbrev boC (bo : Nat) (os : List OwT) : Chunk := (bo, Obj.cells (List.toArray (owV os)) 67 (0, 0))
abbrev lbF (T : Nat) (b1 b5 bo : Nat) (v9 v14 : Value) : Fr := [(1, pV b1), (5, pV b5), (7, .slice (some ⟨bo, 0, none⟩) T T), (9, v9), (14, v14)]
set_option maxHeartbeats 4000000 in
theorem bn_B {E : World} {Q : Exit → Act → World → Prop} {ds : List Deferred} {fn : Func} {c : Code} (hf : Tryz.prog.funcs[9]? = some fn) (hc : fn.body = some c) (F C n : Nat) (R : RT) (b : Nat) (p : RP) (s : RL) (hR : IsRl F C n R p s) (hn : n ≤ 800) (os : List OwT) (T : Nat) (hos : os.length = T) (hT : T ≤ 3) (b1 b5 bo : Nat) (v9 : Value) (Z : List Chunk)
    (k : ∀ s' X v cs, IsRl F C (n + 8 * T) (layF R os T) p s' → OwnSl 3 1 v T ((os.map OwT.th).map intQ) cs → PostS fn.ntmps E Q .normal (lbF T b1 b5 bo v9 v) ds (pcC b5 b :: boC bo os :: (cs ++ allL b p s' (layF R os T) (X ++ Z)))) :
    CodeS Tryz.prog none fn.ntmps E (hed (aft 10 c)) Q (lbF T b1 b5 bo v9 (.slice none 0 0)) ds (pcC b5 b :: boC bo os :: allL b p s R Z) := by
  subst hos
  obtain rfl := Option.some.inj (hf.symm.trans Tryz.func9)
  obtain rfl := Option.some.inj hc
  simp only [Tryz.func9, Tryz.ntmps9, aft, hed] at k ⊢
  refine gzU ?_
  refine k_loop (α := Nat × RL × List Chunk × Value × List Chunk) (fun x => (106, .slice (some ⟨bo, 0, none⟩) os.length os.length) :: (107, .int .i64 (os.length : Nat)) :: (108, .int .i64 x.1) :: lbF os.length b1 b5 bo v9 x.2.2.2.1) (fun x => pcC b5 b :: boC bo os :: (x.2.2.2.2 ++ allL b p x.2.1 (layF R os x.1) (x.2.2.1 ++ Z)))
      (fun x => x.1 ≤ os.length ∧ IsRl F C (n + 8 * x.1) (layF R os x.1) p x.2.1 ∧ OwnSl 3 1 x.2.2.2.1 x.1 (((os.take x.1).map OwT.th).map intQ) x.2.2.2.2) (fun x => os.length - x.1) (0, s, [], .slice none 0 0, []) ⟨Nat.zero_le _, hR, OwnSl.nil _ _⟩ ⟨rfl, rfl, rfl, rfl, rfl, rfl, rfl, rfl, trivial⟩ .refl ?_
  rintro ⟨i, s, X, v, cs⟩ ⟨hi, hR, ho⟩
  simp only at hi hR ho ⊢
  by_cases hlt : i < os.length
  · obtain ⟨o, hio⟩ : ∃ o, os[i]? = some o := ⟨_, List.getElem?_eq_getElem hlt⟩
    obtain ⟨x1, x2⟩ := owV_ext hio
    refine gzU ?_
    refine t_q (q_loadA rfl (.tail _ (.head _)) x1 x2) rfl rfl rfl ?_
    refine gzU ?_
    refine t_e e_alloc rfl rfl rfl ?_; rintro _ _ ⟨b16, _, rfl, rfl⟩
    refine gzU ?_
    refine s_keep (l' := allL b p s (layF R os i) (owC b16 o :: pcC b5 b :: boC bo os :: (cs ++ (X ++ Z)))) (by unfold allL; dsimp only [owC, owL]; exact keep_ac []) ?_
    refine t_e (e_call0 rfl rfl (blay_any F C (n + 8 * i) _ b p s hR (by omega) o (decide ((i : Int) = 0)) _)) rfl rfl rfl ?_
    rintro _ _ ⟨rfl, s1, X1, hR1, rfl⟩
    have e1 : layF R os (i + 1) = layR (layF R os i) o (decide ((i : Int) = 0)) := by
      show layR _ (os.getD i ow0) _ = _
      rw [List.getD, hio, Option.getD_some]
    have e2 : os.take (i + 1) = os.take i ++ [o] := by rw [List.take_add_one, hio]; rfl
    rw [← e1] at hR1 ⊢
    refine s_keep (l' := owC b16 o :: pcC b5 b :: boC bo os :: (cs ++ allL b p s1 (layF R os (i + 1)) (X1 ++ (X ++ Z)))) (by unfold allL; dsimp only [owC, owL]; exact keep_ac []) ?_
    refine gzU ?_
    refine t_e (e_lit1 (v := intQ o.th) rfl rfl) rfl rfl rfl ?_
    rintro _ _ ⟨bl, _, rfl, rfl⟩
    refine s_keep (l' := cs ++ ((bl, Obj.cells (List.toArray [intQ o.th]) 3 (0, 0)) :: owC b16 o :: pcC b5 b :: boC bo os :: allL b p s1 (layF R os (i + 1)) (X1 ++ (X ++ Z)))) (keep_ac []) ?_
    refine t_e (ce_append (k := 1) (yb := 8) (n := i) (xs := ((os.take i).map OwT.th).map intQ) (news := [intQ o.th]) (zs := [.int .i64 0]) (cs := cs) rfl rfl rfl ho (List.mem_append_right _ List.mem_cons_self) (fun j u hj => by simpa using hj) rfl (by simp [Value.oneCell', intQ]) (by unfold maxLen; omega) (by omega)) rfl rfl rfl ?_
    rintro v' _ ⟨cs', ho', rfl⟩
    refine gzU ?_
    refine k_next (i + 1, s1, (bl, Obj.cells (List.toArray [intQ o.th]) 3 (0, 0)) :: owC b16 o :: (X1 ++ X), v', cs') ⟨by omega, hR1, ?_⟩ (by simp only; omega) ⟨rfl, rfl, rfl, rfl, rfl, rfl, rfl, rfl, trivial⟩ (by unfold allL; exact keep_ac [])
    rw [e2, List.map_append, List.map_append]
    exact ho'
  · refine gzU ?_
    obtain rfl : i = os.length := by omega
    rw [List.take_length] at ho
    exact p_weak (fr' := lbF os.length b1 b5 bo v9 v) ⟨rfl, rfl, rfl, rfl, rfl, trivial⟩ .refl (k s X v cs hR ho)
end Go.Proofs.YtgafamgacpglcaaGreat


/- boot.New's third loop: each thread is made ready. -/
-- GU
set_option linter.unusedVariables false
set_option linter.unusedSimpArgs false
namespace Go.Proofs.YtgafamgacpglcaaGreat
open Go.RowKit
set_option maxRecDepth 20000
set_option pp.deepTerms false
set_option pp.deepTerms.threshold 4

def prioR (R : RT) (id : Int) : RT := { R with T := (Th.setD R.T { (Th.findH R.T id).getD Th.thZ with pr := 1 }).2 }
def goF (R : RT) (os : List OwT) : Nat → RT
  | 0 => R
  | k + 1 => readyR (prioR (goF R os k) (os.getD k ow0).th) (os.getD k ow0).th
set_option maxHeartbeats 4000000 in
theorem bn_C {E : World} {Q : Exit → Act → World → Prop} {ds : List Deferred} {fn : Func} {c : Code} (hf : Tryz.prog.funcs[9]? = some fn) (hc : fn.body = some c) (F C n : Nat) (R : RT) (b : Nat) (p : RP) (s : RL) (hR : IsRl F C n R p s) (hn : n ≤ 800) (os : List OwT) (T : Nat) (hos : os.length = T) (hT : T ≤ 3) (b1 b5 bo : Nat) (v9 v14 : Value) (Z : List Chunk)
    (k : ∀ s' X, IsRl F C (n + T) (goF R os T) p s' → PostS fn.ntmps E Q .normal (lbF T b1 b5 bo v9 v14) ds (pcC b5 b :: allL b p s' (goF R os T) (X ++ (boC bo os :: Z)))) :
    CodeS Tryz.prog none fn.ntmps E (hed (aft 12 c)) Q (lbF T b1 b5 bo v9 v14) ds (pcC b5 b :: allL b p s R (boC bo os :: Z)) := by
  subst hos
  obtain rfl := Option.some.inj (hf.symm.trans Tryz.func9)
  obtain rfl := Option.some.inj hc
  simp only [Tryz.func9, Tryz.ntmps9, aft, hed] at k ⊢
  refine gzU ?_
  refine k_loop (α := Nat × RL × List Chunk) (fun x => (130, .slice (some ⟨bo, 0, none⟩) os.length os.length) :: (131, .int .i64 (os.length : Nat)) :: (132, .int .i64 x.1) :: lbF os.length b1 b5 bo v9 v14) (fun x => pcC b5 b :: allL b p x.2.1 (goF R os x.1) (x.2.2 ++ (boC bo os :: Z)))
      (fun x => x.1 ≤ os.length ∧ IsRl F C (n + x.1) (goF R os x.1) p x.2.1) (fun x => os.length - x.1) (0, s, []) ⟨Nat.zero_le _, hR⟩ ⟨rfl, rfl, rfl, rfl, rfl, rfl, rfl, rfl, trivial⟩ .refl ?_
  rintro ⟨i, s, X⟩ ⟨hi, hR⟩
  simp only at hi hR ⊢
  by_cases hlt : i < os.length
  · obtain ⟨o, hio⟩ : ∃ o, os[i]? = some o := ⟨_, List.getElem?_eq_getElem hlt⟩
    obtain ⟨x1, x2⟩ := owV_ext hio
    have e1 : goF R os (i + 1) = readyR (prioR (goF R os i) o.th) o.th := by
      show readyR (prioR _ (os.getD i ow0).th) (os.getD i ow0).th = _
      rw [List.getD, hio, Option.getD_some]
    obtain ⟨R1, hR1⟩ : ∃ R1, R1 = goF R os i := ⟨_, rfl⟩
    rw [← hR1] at hR e1 ⊢
    refine c_keep (l' := boC bo os :: pcC b5 b :: rlC b p :: (s.T ++ (As.asA p.n R1.N :: (s.M ++ (s.C ++ (s.A ++ (s.H ++ (s.Q ++ (s.E ++ (s.V ++ (X ++ Z))))))))))) (by unfold allL; exact keep_ac []) ?_
    refine gzU ?_
    refine t_q (q_loadA rfl (.head _) x1 x2) rfl rfl rfl ?_
    refine gzU ?_
    refine t_e e_alloc rfl rfl rfl ?_; rintro _ _ ⟨b18, _, rfl, rfl⟩
    refine gzU ?_
    refine c_keep (l' := owC b18 o :: pcC b5 b :: rlC b p :: (s.T ++ (boC bo os :: (As.asA p.n R1.N :: (s.M ++ (s.C ++ (s.A ++ (s.H ++ (s.Q ++ (s.E ++ (s.V ++ (X ++ Z)))))))))))) (by dsimp only [owC, owL]; exact keep_ac []) ?_
    have hsub1 : ∀ c, c ∈ owC b18 o :: pcC b5 b :: rlC b p :: s.T → c ∈ owC b18 o :: pcC b5 b :: rlC b p :: (s.T ++ (boC bo os :: (As.asA p.n R1.N :: (s.M ++ (s.C ++ (s.A ++ (s.H ++ (s.Q ++ (s.E ++ (s.V ++ (X ++ Z)))))))))) ) := fun c hc => @List.mem_append_left _ c (owC b18 o :: pcC b5 b :: rlC b p :: s.T) _ hc
    refine c_draw [(0, true), (1, true), (2, true), (3, true), (4, true), (5, true), (6, true), (7, true), (8, false), (9, false), (10, true)] [[], [0], [], [2], [0, 1, 2, 3], [0, 1, 2, 3, 4], [0, 1, 2, 3, 4, 5], [0, 1, 2, 3, 4, 5], [], [0, 1, 2, 3, 4, 5, 6, 8], [0, 1, 2, 3, 4, 5, 6, 7, 8, 9]] (owC b18 o :: pcC b5 b :: rlC b p :: s.T) (by kernel_rfl) (by kernel_rfl) zAtt (hsub1) ?_
    refine pzU ?_
    apply pl_q
    · exact q_call rfl rfl (fun l hl => rthreads_any b p l (hl _ (.tail _ (.tail _ (.head _)))))
    · rfl
    · rfl
    · rfl
    refine pzU ?_
    apply pl_q
    · exact q_call rfl rfl (fun l hl => Th.get_any p.t R1.T s.T hR.th o.th l (fun c hc => hl _ (.tail _ (.tail _ (.tail _ hc)))))
    · rfl
    · rfl
    · rfl
    obtain ⟨t, ht⟩ : ∃ t, t = (Th.findH R1.T o.th).getD Th.thZ := ⟨_, rfl⟩
    rw [← ht]
    refine pzU ?_
    apply pl_e
    · exact e_alloc
    · rfl
    · rfl
    · rfl
    · rintro _ _ ⟨b5, _, _, rfl⟩ c hc; exact .tail _ (hsub1 c hc)
    rintro _ _ ⟨b19, _, rfl, rfl⟩
    apply pl_n
    · exact e_storeLA (cs' := Th.encH t) rfl rfl rfl (by simp [Value.oneCell']) (.head _) (by repeat (first | apply LSetA.done | apply LSetA.put)) .here
    · rfl
    · rfl
    · rintro _ _ ⟨_, rfl⟩ c hc; exact .tail _ (hsub1 c hc)
    rintro _ _ ⟨rfl, rfl⟩
    refine pzU ?_
    refine gzU ?_
    obtain ⟨t1, ht1⟩ : ∃ t1, t1 = { t with pr := 1 } := ⟨_, rfl⟩
    have hsub2 : ∀ (lq : List Chunk) (c : Chunk), c ∈ [Th.thC b19 t1, pcC b5 b, rlC b p] → c ∈ lq ++ (Th.thC b19 t1 :: pcC b5 b :: rlC b p :: (owC b18 o :: boC bo os :: As.asA p.n R1.N :: (s.M ++ (s.C ++ (s.A ++ (s.H ++ (s.Q ++ (s.E ++ (s.V ++ (X ++ Z)))))))))) := fun lq c hc => List.mem_append_right _ (@List.mem_append_left _ c [_, _, _] _ hc)
    refine c_keep (l' := s.T ++ (Th.thC b19 t1 :: pcC b5 b :: rlC b p :: (owC b18 o :: boC bo os :: As.asA p.n R1.N :: (s.M ++ (s.C ++ (s.A ++ (s.H ++ (s.Q ++ (s.E ++ (s.V ++ (X ++ Z)))))))))) ) (by rw [ht1]; dsimp only [Th.thC, Th.encH]; exact keep_ac []) ?_
    refine c_draw [(0, true), (1, true), (2, true), (3, false)] [[], [0], [], [0, 1, 2]] ([Th.thC b19 t1, pcC b5 b, rlC b p]) (by kernel_rfl) (by kernel_rfl) zAtt (hsub2 _) ?_
    refine pzU ?_
    apply pl_q
    · exact q_call rfl rfl (fun l hl => rthreads_any b p l (hl _ (.tail _ (.tail _ (.head _)))))
    · rfl
    · rfl
    · rfl
    refine pzU ?_
    apply pl_e
    · exact e_call0 rfl rfl (Th.set_any p.t R1.T s.T hR.th t1 _)
    · rfl
    · rfl
    · rfl
    · rintro _ _ ⟨_, _, _, rfl⟩; exact hsub2 _
    rintro _ _ ⟨rfl, lT, hT, rfl⟩
    refine pzU ?_
    rw [ht1, ht] at hT
    have hR2 : IsRl F C (n + i) (prioR R1 o.th) p ⟨s.M, s.C, s.A, s.H, lT, s.Q, s.E, s.V⟩ := ⟨hR.mem, hR.co, hR.ar, hR.an, hR.ho, hR.inv, hR.giv, hT, hR.qu, hR.ql, hR.en, hR.cu, hR.c1⟩
    refine p_keep (l' := owC b18 o :: pcC b5 b :: allL b p ⟨s.M, s.C, s.A, s.H, lT, s.Q, s.E, s.V⟩ (prioR R1 o.th) (boC bo os :: Th.thC b19 t1 :: (X ++ Z))) (by unfold allL; dsimp only [prioR]; exact keep_ac []) ?_
    refine gzU ?_
    refine s_keep (l' := allL b p ⟨s.M, s.C, s.A, s.H, lT, s.Q, s.E, s.V⟩ (prioR R1 o.th) (owC b18 o :: pcC b5 b :: boC bo os :: Th.thC b19 t1 :: (X ++ Z))) (by unfold allL; exact keep_ac []) ?_
    refine t_e (e_call0 rfl rfl (state_any F C (n + i) _ b p _ hR2 (by omega) o.th _)) rfl rfl rfl ?_
    rintro _ _ ⟨_, s1, X1, hR3, rfl⟩
    rw [← e1] at hR3 ⊢
    refine gzU ?_
    refine k_next (i + 1, s1, owC b18 o :: Th.thC b19 t1 :: (X1 ++ X)) ⟨by omega, hR3⟩ (by simp only; omega) ⟨rfl, rfl, rfl, rfl, rfl, rfl, rfl, rfl, trivial⟩ (by unfold allL; exact keep_ac [])
  · refine gzU ?_
    obtain rfl : i = os.length := by omega
    exact p_weak (fr' := lbF os.length b1 b5 bo v9 v14) ⟨rfl, rfl, rfl, rfl, rfl, trivial⟩ .refl (k s X hR)
end Go.Proofs.YtgafamgacpglcaaGreat


/- boot.New: the first state. -/
-- GU
set_option linter.unusedVariables false
set_option linter.unusedSimpArgs false
namespace Go.Proofs.YtgafamgacpglcaaGreat
open Go.RowKit
set_option maxRecDepth 20000
set_option pp.deepTerms false
set_option pp.deepTerms.threshold 4

def bootI (F T : Nat) (sh : Bool) : List Int := (mkL F (thingsL F T sh)).2
def bootO (F T : Nat) (sh : Bool) : List OwT := ownF (bootI F T sh) T T
def bootS (F T : Nat) (sh : Bool) : Int := if sh = true then (bootI F T sh).getD (4 * T) 0 else 0
def bootA (F T : Nat) (sh : Bool) : RT := layF (mkL F (thingsL F T sh)).1 (bootO F T sh) T
def bootB (F T : Nat) (sh : Bool) : RT := if sh = true then { bootA F T sh with H := shareH (bootA F T sh).H (bootO F T sh) (bootS F T sh) } else bootA F T sh
def bootR (F T : Nat) (sh : Bool) : RT := goF (bootB F T sh) (bootO F T sh) T
theorem kz1 (b : Nat) (p : RP) (s : RL) (R : RT) (c1 c2 c3 c4 c5 : Chunk) (X : List Chunk) : Keep (c1 :: c2 :: c3 :: c4 :: c5 :: allL b p s R X) (c4 :: c5 :: allL b p s R (c1 :: c2 :: c3 :: X)) := by unfold allL; exact keep_ac []
theorem kz2 (b : Nat) (p : RP) (s : RL) (R : RT) (c1 c2 c3 c4 c5 : Chunk) (A Y X : List Chunk) : Keep (c4 :: c5 :: (A ++ allL b p s R (Y ++ c1 :: c2 :: c3 :: X))) (c3 :: c4 :: c5 :: (A ++ allL b p s R (Y ++ (c1 :: c2 :: X)))) := by unfold allL; exact keep_ac []
theorem kz3 (b : Nat) (p : RP) (s : RL) (R : RT) (c1 c2 c3 c4 c5 : Chunk) (A Y X : List Chunk) : Keep (c3 :: c4 :: c5 :: (A ++ allL b p s R (Y ++ (c1 :: c2 :: X)))) (c4 :: c5 :: (A ++ allL b p s R (Y ++ c1 :: c2 :: c3 :: X))) := by unfold allL; exact keep_ac []
theorem kz4 (b : Nat) (p : RP) (s : RL) (R : RT) (c3 c4 c5 : Chunk) (A X : List Chunk) : Keep (c3 :: c4 :: c5 :: (A ++ allL b p s R X)) (allL b p s R (c5 :: c4 :: c3 :: (A ++ X))) := by unfold allL; exact keep_ac []
theorem kz4' (b : Nat) (p : RP) (s : RL) (R : RT) (c1 c2 c3 c4 c5 : Chunk) (A Y2 Y X : List Chunk) : Keep (allL b p s R (Y2 ++ (c5 :: c4 :: c3 :: (A ++ (Y ++ (c1 :: c2 :: X)))))) (c4 :: c5 :: (A ++ allL b p s R ((Y2 ++ Y) ++ c1 :: c2 :: c3 :: X))) := by unfold allL; exact keep_ac []
theorem kz5 (b : Nat) (p : RP) (s : RL) (R : RT) (c4 c5 : Chunk) (A X : List Chunk) : Keep (c4 :: c5 :: (A ++ allL b p s R X)) (c4 :: allL b p s R (c5 :: (A ++ X))) := by unfold allL; exact keep_ac []
set_option maxHeartbeats 4000000 in
theorem kz6 (b : Nat) (p : RP) (s : RL) (R : RT) (k m c1 c2 c3 c4 c5 : Chunk) (A W Y X G : List Chunk) : Keep (k :: c4 :: allL b p s R (W ++ c5 :: (A ++ (Y ++ (c1 :: c2 :: c3 :: (X ++ m :: G)))))) ([m] ++ (k :: (A ++ allL b p s R ((c4 :: c5 :: c1 :: c2 :: c3 :: (W ++ (Y ++ X))) ++ G)))) := by unfold allL; exact keep_ac []
set_option maxHeartbeats 4000000 in
theorem bnew_ok (F C T : Nat) (sh : Bool) (hT1 : 1 ≤ T) (hT : T ≤ 3) (hC1 : 1 ≤ C) (hC : C ≤ 3) (hF : 11 * T ≤ F) (hF2 : F ≤ 64) (G : List Chunk) : Fn Tryz.prog 9 [.agg (List.toArray [.int .i64 F, .int .i64 C, .int .i64 T, .bool sh])] G fun v l' => ∃ B b v14 p s X cs, v = .tuple #[pV B, v14, .int .i64 0] ∧ IsRl F C 60 (bootR F T sh) p s ∧ OwnSl 3 1 v14 T (((bootO F T sh).map OwT.th).map intQ) cs ∧ l' = knC B b :: (cs ++ allL b p s (bootR F T sh) (X ++ G)) := by
  have hmay : mayB F C T = true := by simp [mayB]; omega
  refine fn_of_body Tryz.func9 rfl rfl fun E => ?_
  simp only [argF, Tryz.ntmps9]
  refine gzU ?_
  refine t_e (e_boxA rfl) rfl rfl rfl ?_
  rintro _ _ ⟨b1, _, rfl, rfl⟩
  refine gzU ?_
  refine t_q (q_call rfl rfl (fun l hl => bmay_any F C T sh l)) rfl rfl rfl ?_
  rw [hmay]
  refine gzU ?_
  refine t_e (e_call0 rfl rfl (rnew_any F C ⟨by omega, by omega⟩ ⟨by omega, by omega⟩ _)) rfl rfl rfl ?_
  rintro _ _ ⟨b, p, s0, X0, rfl, hR0, rfl⟩
  refine gzU ?_
  refine t_e e_alloc rfl rfl rfl ?_; rintro _ _ ⟨b5, _, rfl, rfl⟩
  refine gzU ?_
  refine s_keep (l' := pcC b5 b :: ccC b1 F C T sh :: allL b p s0 (newR F) (X0 ++ G)) (by unfold allL; dsimp only [pcC, ccC, pV]; simp only [List.getElem_toArray, List.getElem_cons_zero]; exact keep_ac []) ?_
  refine gzU ?_
  refine t_e (e_makeSlice (n := T) (kk := 5) (yb := 40) (zs := owL ow0) (xs := owV (List.replicate T ow0)) rfl rfl (by omega) (by omega) (by decide) (own_rows T)) rfl rfl rfl ?_
  rintro _ _ ⟨bo, _, rfl, rfl⟩
  refine gzU ?_
  refine t_e e_alloc rfl rfl rfl ?_; rintro _ _ ⟨b8, _, rfl, rfl⟩
  refine gzU ?_
  refine t_e (e_call rfl rfl (things_any F C T sh _)) rfl rfl rfl ?_
  rintro _ _ ⟨B1, rfl, rfl⟩
  refine gzU ?_
  refine c_rangeM (α := Int × Int × Int) (ps := [39]) (lb := [pV B1]) rfl (things_iter B1 F C T sh hT1 hT hF hF2) (fun _ => rfl) rfl (InL F C b p b8) (fun _ _ _ => False)
    (allL b p s0 (newR F) (idC b8 (.slice none 0 0) :: ([] ++ X0))) ((bo, Obj.cells (List.toArray (owV (List.replicate T ow0))) 67 (0, 0)) :: pcC b5 b :: ccC b1 F C T sh :: G) (fun _ _ _ _ _ => trivial) (by unfold allL; dsimp only [idC, cfC]; simp only [List.nil_append, List.getElem_toArray, List.getElem_cons_zero]; exact keep_ac []) ⟨s0, _, [], X0, hR0, OwnSl.nil _ _, rfl⟩ ?_ ?_ ?_
  · rintro E r rec pre x l1 T' ⟨fn, tmps, D, rfl⟩ hTs ⟨s, v, cs, X, hR, ho, rfl⟩ hsp
    have hlen : (pre ++ [x]).length ≤ 25 := by
      have := hsp.length_le
      have h2 : (thingsL F T sh).length ≤ 25 := by unfold thingsL; rw [layT_len, kzF_len]; cases sh <;> simp <;> omega
      omega
    have hlen' : pre.length + 1 ≤ 25 := by simpa using hlen
    have hm5 : pcC b5 b ∈ T' := hTs _ (.tail _ (.head _))
    simp only [putPs]
    generalize hLO : Obj.loop _ = LO
    obtain ⟨R, hRe⟩ : ∃ R, R = (mkL F pre).1 := ⟨_, rfl⟩
    rw [← hRe] at hR
    rw [← hRe]
    refine c_keep (l' := (r, LO) :: (allL b p s R (idC b8 v :: (cs ++ X)) ++ T')) (by unfold allL; exact keep_ac []) ?_
    refine gzU ?_
    refine t_e e_alloc rfl rfl rfl ?_; rintro _ _ ⟨b10, _, rfl, rfl⟩
    refine gzU ?_
    subst hLO
    refine p_begin (by exact zUpd) ?_
    generalize hLO : Obj.loop _ = LO
    refine gzU ?_
    refine t_q (q_load (v := pV b) rfl (.tail _ (.tail _ (List.mem_append_right _ hm5))) rfl) rfl rfl rfl ?_
    refine gzU ?_
    refine s_keep (l' := allL b p s R ((b10, Obj.cells (List.toArray [.int .i64 x.1, .int .i64 x.2.1, .int .i64 x.2.2]) 63 (0, 0)) :: (r, LO) :: idC b8 v :: (cs ++ (X ++ T')))) (by unfold allL; exact keep_ac []) ?_
    refine t_e (e_call0 rfl rfl (make_any F C pre.length R b p s hR (by omega) x.1 x.2.1 x.2.2 _)) rfl rfl rfl ?_
    rintro _ _ ⟨rfl, s1, X1, hR1, rfl⟩
    refine s_keep (l' := idC b8 v :: (cs ++ (allL b p s1 (makeR R x.1 x.2.1 x.2.2).2 (X1 ++ ((b10, Obj.cells (List.toArray [.int .i64 x.1, .int .i64 x.2.1, .int .i64 x.2.2]) 63 (0, 0)) :: (r, LO) :: (X ++ T')))))) (by unfold allL; exact keep_ac []) ?_
    refine gzU ?_
    refine t_e (e_lit1 (v := intQ (makeR R x.1 x.2.1 x.2.2).1.1) rfl rfl) rfl rfl rfl ?_
    rintro _ _ ⟨bl, _, rfl, rfl⟩
    refine s_keep (l' := cs ++ ((bl, Obj.cells (List.toArray [intQ (makeR R x.1 x.2.1 x.2.2).1.1]) 3 (0, 0)) :: idC b8 v :: allL b p s1 (makeR R x.1 x.2.1 x.2.2).2 (X1 ++ ((b10, Obj.cells (List.toArray [.int .i64 x.1, .int .i64 x.2.1, .int .i64 x.2.2]) 63 (0, 0)) :: (r, LO) :: (X ++ T'))))) (keep_ac []) ?_
    have hnl : (mkL F pre).2.length = pre.length := mkL_len F pre
    refine t_e (ce_append (k := 1) (yb := 8) (n := pre.length) (xs := (mkL F pre).2.map intQ) (news := [intQ (makeR R x.1 x.2.1 x.2.2).1.1]) (zs := [.int .i64 0]) (cs := cs) rfl rfl rfl ho (List.mem_append_right _ List.mem_cons_self) (fun j u hj => by simpa using hj) rfl (by simp [Value.oneCell', intQ]) (by unfold maxLen; omega) (by omega)) rfl rfl rfl ?_
    rintro v' _ ⟨cs', ho', rfl⟩
    have hv1 : v'.oneCell' = true := ho'.one
    refine s_keep (l' := idC b8 v :: (cs' ++ ((bl, Obj.cells (List.toArray [intQ (makeR R x.1 x.2.1 x.2.2).1.1]) 3 (0, 0)) :: allL b p s1 (makeR R x.1 x.2.1 x.2.2).2 (X1 ++ ((b10, Obj.cells (List.toArray [.int .i64 x.1, .int .i64 x.2.1, .int .i64 x.2.2]) 63 (0, 0)) :: (r, LO) :: (X ++ T')))))) (keep_ac []) ?_
    apply t_n
    · exact e_storeL rfl rfl hv1 (by exact zMem) .zero (by exact zUpd)
    · rfl
    · rfl
    rintro _ _ ⟨rfl, rfl⟩
    refine gzU ?_
    subst hLO
    have e1 : mkL F (pre ++ [x]) = ((makeR R x.1 x.2.1 x.2.2).2, (mkL F pre).2 ++ [(makeR R x.1 x.2.1 x.2.2).1.1]) := by rw [mkL_snoc, hRe]; rfl
    refine p_round (allL b p s1 (mkL F (pre ++ [x])).1 (idC b8 v' :: (cs' ++ ((bl, Obj.cells (List.toArray [intQ (makeR R x.1 x.2.1 x.2.2).1.1]) 3 (0, 0)) :: (X1 ++ ((b10, Obj.cells (List.toArray [.int .i64 x.1, .int .i64 x.2.1, .int .i64 x.2.2]) 63 (0, 0)) :: X)))))) ?_ ⟨s1, v', cs', _, ?_, ?_, rfl⟩
    · rw [e1]; unfold allL; dsimp only [idC]; exact keep_ac []
    · rw [e1, List.length_append]; exact hR1
    · rw [e1, List.length_append]; simp only [List.map_append, List.map_cons, List.map_nil]; exact ho'
  · rintro D xs l hxs ⟨s, v, cs, X, hR, ho, rfl⟩
    subst hxs
    obtain ⟨ids, hids⟩ : ∃ ids, ids = bootI F T sh := ⟨_, rfl⟩
    have hids' : (mkL F (thingsL F T sh)).2 = ids := hids.symm
    rw [hids'] at ho
    have hlen : (thingsL F T sh).length = 5 * T + sh.toNat := by unfold thingsL; rw [layT_len, kzF_len]
    have hil : ids.length = 5 * T + sh.toNat := by rw [hids]; unfold bootI; rw [mkL_len, hlen]
    have hsh : sh.toNat ≤ 1 := by cases sh <;> decide
    rw [hlen] at ho hR
    rcases ho.2 with ⟨_, h0, _⟩ | ⟨gb, cap, sp, rfl, rfl, _⟩
    · omega
    obtain ⟨R0, hR0⟩ : ∃ R0, R0 = (mkL F (thingsL F T sh)).1 := ⟨_, rfl⟩
    rw [← hR0] at hR ⊢
    refine p_keep (l' := laL F C T sh ids sp b1 b5 b8 bo b gb cap 0 ++ (allL b p s R0 (X ++ (markC D :: G)))) (by unfold laL allL; simp only [ownF, List.range_zero, List.map_nil, List.nil_append, Nat.sub_zero]; exact keep_ac []) ?_
    iterate 3 refine gzSU ?_
    refine c_sub (fr' := laF T b1 b5 b8 bo) ⟨rfl, rfl, rfl, rfl, rfl, trivial⟩ (bn_A Tryz.func9 rfl F C T sh hT1 hT ids sp hil b1 b5 b8 bo b gb cap _ ?_)
    obtain ⟨os, hos⟩ : ∃ os, os = bootO F T sh := ⟨_, rfl⟩
    have hos1 : ownF ids T T = os := by rw [hos, hids]; rfl
    have hol : os.length = T := by rw [hos]; exact ownF_len _ _ _ (Nat.le_refl _)
    refine p_then ?_
    refine c_join (α := Unit) (fun _ => [(1, pV b1), (5, pV b5), (7, .slice (some ⟨bo, 0, none⟩) T T), (9, .int .i64 (bootS F T sh))]) (fun _ => idC b8 (.slice (some ⟨gb, 0, none⟩) (5 * T + sh.toNat) cap) :: (gb, Obj.cells (List.toArray (ids.map intQ ++ sp)) 3 (0, 0)) :: ccC b1 F C T sh :: pcC b5 b :: boC bo os :: allL b p s R0 (X ++ (markC D :: G))) (fun _ => True) ?_ ?_
    · unfold laL
      rw [hos1]
      simp only [List.cons_append, List.nil_append]
      have hget : ∀ (x : Int) (m : Nat), x = m → m < ids.length → (List.toArray (ids.map intQ ++ sp))[0 + x.toNat * 1]? = some (intQ (ids.getD m 0)) := fun x m hx hm => by
        subst hx
        rw [Int.toNat_natCast, Nat.mul_one, Nat.zero_add, List.getElem?_toArray, List.getElem?_append_left (by rw [List.length_map]; exact hm), List.getElem?_map, List.getD, List.getElem?_eq_getElem hm]; rfl
      cases sh with
      | false =>
        refine gzU ?_
        exact p_join () trivial ⟨rfl, rfl, rfl, rfl, trivial⟩ .refl
      | true =>
        refine gzU ?_
        refine t_q (q_load (v := intQ (ids.getD (4 * T) 0)) rfl (.tail _ (.head _)) (hget (4 * (T : Int)) (4 * T) (by omega) (by rw [hil]; simp only [Bool.toNat_true]; omega))) rfl rfl rfl ?_
        refine gzU ?_
        rw [hids]
        exact p_join () trivial ⟨rfl, rfl, rfl, rfl, trivial⟩ .refl
    · rintro _ _
      iterate 6 refine gzSU ?_
      refine c_sub (fr' := lbF T b1 b5 bo (.int .i64 (bootS F T sh)) (.slice none 0 0)) ⟨rfl, rfl, rfl, rfl, rfl, trivial⟩ ?_
      obtain ⟨Z, hZ⟩ : ∃ Z, Z = idC b8 (.slice (some ⟨gb, 0, none⟩) (5 * T + sh.toNat) cap) :: (gb, Obj.cells (List.toArray (ids.map intQ ++ sp)) 3 (0, 0)) :: ccC b1 F C T sh :: (X ++ (markC D :: G)) := ⟨_, rfl⟩
      refine c_keep (l' := pcC b5 b :: boC bo os :: allL b p s R0 Z) (by rw [hZ]; exact kz1 ..) ?_
      have hRT : layF R0 os T = bootA F T sh := by rw [hR0, hos]; rfl
      refine bn_B Tryz.func9 rfl F C _ R0 b p s hR (by omega) os T hol hT b1 b5 bo _ _ ?_
      intro s1 Y v14 ct hR ht
      rw [hRT] at hR ⊢
      refine p_then ?_
      refine c_join (α := RL × List Chunk) (fun _ => lbF T b1 b5 bo (.int .i64 (bootS F T sh)) v14) (fun x => pcC b5 b :: boC bo os :: (ct ++ (allL b p x.1 (bootB F T sh) (x.2 ++ Z)))) (fun x => IsRl F C 50 (bootB F T sh) p x.1) ?_ ?_
      · rw [hZ]
        refine c_keep (kz2 ..) ?_
        cases sh with
        | false =>
          have hB : bootB F T false = bootA F T false := by unfold bootB; rw [if_neg (by decide)]
          rw [hB]
          refine gzU ?_
          refine p_join (s1, Y) ?_ ⟨rfl, rfl, rfl, rfl, rfl, trivial⟩ (kz3 ..)
          exact hR.mono (by simp only [Bool.toNat_false]; omega)
        | true =>
          have hB : bootB F T true = { bootA F T true with H := shareH (bootA F T true).H os (bootS F T true) } := by unfold bootB; rw [if_pos rfl, hos]
          rw [hB]
          refine gzU ?_
          have hs := share_any F C _ _ b p s1 hR (by omega) os (by omega) (by omega) (bootS F T true) bo T 67 (0, 0) (boC bo os :: pcC b5 b :: ccC b1 F C T true :: (ct ++ (Y ++ (idC b8 (.slice (some ⟨gb, 0, none⟩) (5 * T + true.toNat) cap) :: (gb, Obj.cells (List.toArray (ids.map intQ ++ sp)) 3 (0, 0)) :: (X ++ (markC D :: G)))))) (.head _)
          rw [hol] at hs
          refine s_keep (kz4 ..) ?_
          refine t_e (e_call0 rfl rfl hs) rfl rfl rfl ?_
          rintro _ _ ⟨rfl, s2, Y2, hR2, rfl⟩
          refine gzU ?_
          refine p_join (s2, Y2 ++ Y) ?_ ⟨rfl, rfl, rfl, rfl, rfl, trivial⟩ (kz4' ..)
          exact hR2.mono (by simp only [Bool.toNat_true]; omega)
      · rintro ⟨s2, Y2⟩ hR2
        simp only at hR2 ⊢
        iterate 1 refine gzSU ?_
        have hBT : goF (bootB F T sh) os T = bootR F T sh := by rw [hos]; rfl
        refine c_keep (kz5 ..) ?_
        refine bn_C Tryz.func9 rfl F C _ _ b p s2 hR2 (by omega) os T hol hT b1 b5 bo _ _ _ ?_
        intro s3 W hR3
        rw [hBT] at hR3 ⊢
        rw [hZ]
        refine gzU ?_
        refine t_e (e_call0 rfl rfl (knew_any b _)) rfl rfl rfl ?_
        rintro _ _ ⟨B, rfl, rfl⟩
        refine gzU ?_
        refine k_ret [D] rfl (kz6 ..) (by exact zRes) ⟨B, b, v14, p, s3, _, ct, rfl, hR3.mono (by omega), ?_, rfl⟩
        rw [← hos]
        exact ht
  · intro D c pre l hsp hx
    exact hx.elim
end Go.Proofs.YtgafamgacpglcaaGreat


/- arena.All, asid.Pools. -/
set_option linter.unusedVariables false
set_option linter.unusedSimpArgs false
namespace Go.Proofs.YtgafamgacpglcaaGreat
open Go.RowKit
set_option maxRecDepth 20000
set_option pp.deepTerms false
set_option pp.deepTerms.threshold 4
set_option maxHeartbeats 400000

namespace Ar
theorem all_any (b : Nat) (S : ArT) (lq : List Chunk) (hA : IsA b S lq) (l : List Chunk) (hsub : ∀ c, c ∈ lq → c ∈ l) :
    Fn Tryz.prog 31 [.pointer (some ⟨b, 0, none⟩)] l fun v l' => ∃ cs, OwnSl 156 9 v S.os.length (ocs S.os) cs ∧ l' = cs ++ l := by
  have hlen := hA.ok.len
  obtain ⟨hok, v, cs, rfl, ho⟩ := hA
  obtain ⟨gb, hrow, hcs⟩ := rowV_of ho
  refine fn_of_body Tryz.func31 rfl rfl fun E => ?_
  simp only [argF, Tryz.ntmps31]
  refine gz ?_
  refine t_e e_alloc rfl rfl rfl ?_; rintro _ _ ⟨b3, _, rfl, rfl⟩
  refine gz ?_
  refine t_e (e_call0 rfl rfl (each_any _ rfl _)) rfl rfl rfl ?_
  rintro _ _ ⟨B, rfl, rfl⟩
  refine gz ?_
  refine c_range (α := ObT × Nat) (ps := [8, 9]) (lb := [.pointer (some ⟨B, 0, none⟩)]) rfl (each_iter B b S.n S.g v S.os gb hrow (by omega)) (fun _ => rfl) rfl
    (fun pre l => ∃ u cs2, OwnSl 156 9 u pre.length (ocs (pre.map Prod.fst)) cs2 ∧ l = [xB B (some ⟨b, 0, none⟩), (b3, .cells #[u] 22 (0, 0))] ++ cs2)
    (fun c pre l => False)
    _ l (fun pre l2 X2 hX h => by obtain ⟨u, cs2, _, rfl⟩ := h; exact ⟨List.Mem.head _, List.mem_append_right _ (hX _ (hsub _ (.head _)))⟩) (by exact zKeep) ⟨_, [], OwnSl.nil _ _, rfl⟩ ?_ ?_ ?_
  · rintro E r0 rec pre ⟨o, k⟩ l' T ⟨fn, tmps, D, rfl⟩ hT ⟨u, cs2, hown, rfl⟩ hsp
    obtain ⟨ho1, hk, _⟩ := itm_pre hsp
    simp only at ho1 hk
    have hkl := (List.getElem?_eq_some_iff.1 ho1).1
    obtain ⟨sp, rfl⟩ := hcs _ _ ho1
    have hmT := hT _ (hsub _ (.tail _ (.head _)))
    obtain ⟨x1, x2⟩ := ocs_ext ho1 sp
    have hu1 : u.oneCell' = true := hown.one
    simp only [putPs, List.cons_append, List.nil_append]
    refine gz ?_
    refine p_begin (.there (.there (upd_mid _ _ _ _ _))) ?_
    generalize hX1 : (r0, Obj.loop (recOf fn tmps _ _ _ D .busy none)) :: T = X1
    have hmX : (gb, Obj.cells (List.toArray (ocs S.os ++ sp)) 156 (0, 0)) ∈ X1 := by rw [← hX1]; exact .tail _ hmT
    refine gz ?_
    refine c_draw [(0, true), (1, true), (2, true), (3, true), (4, false), (5, false), (6, false)] [[], [], [1], [1, 2], [1, 2, 3], [0, 1, 2, 3, 4], [0, 1, 2, 3, 4, 5]] ([]) (by kernel_rfl) (by kernel_rfl) zAtt zHR ?_
    refine pz ?_
    apply pl_s (S := [(b3, .cells #[u] 22 (0, 0))])
    · exact q_load rfl (.head _) rfl
    · intro c hc; cases hc with
      | head => exact .tail _ (.head _)
      | tail _ h => cases h
    · rfl
    · rfl
    · rfl
    refine pz ?_
    apply pl_s (S := [(gb, Obj.cells (List.toArray (ocs S.os ++ sp)) 156 (0, 0))])
    · exact q_loadA rfl (.head _) x1 x2
    · intro c hc; cases hc with
      | head => exact .tail _ (.tail _ (List.mem_append_right _ hmX))
      | tail _ h => cases h
    · rfl
    · rfl
    · rfl
    refine pz ?_
    apply pl_eS
    · apply e_litA (ws := obC o) (k := 9)
      · rfl
      · rfl
      · rfl
      · decide
      · decide
    · rfl
    · rfl
    · rfl
    · intro _ _ _ c hc; cases hc
    · rintro _ _ ⟨bl, _, rfl, rfl⟩ x hx _ c hc
      have h3 : ∀ q : Obj, (b3, q) ∈ (bl, Obj.cells (List.toArray (obC o)) 156 (0, 0)) :: xB B (some ⟨b, 0, none⟩) :: (b3, q) :: (cs2 ++ X1) := fun q => .tail _ (.tail _ (.head _))
      simp only [List.mem_cons, List.not_mem_nil, or_false] at hx
      rcases hx with rfl | rfl <;> simp only [List.mem_cons, List.not_mem_nil, or_false] at hc <;> subst hc
      · exact .tail _ (.tail _ (.tail _ (List.mem_append_right _ hmX)))
      · exact h3 _
    rintro _ _ ⟨bl, _, rfl, rfl⟩
    refine pz ?_
    apply pl_eS
    · apply e_appX (k := 9) (X := [xB B (some ⟨b, 0, none⟩), (b3, .cells #[u] 22 (0, 0))]) (cs := cs2) (xs := ocs (pre.map Prod.fst)) (n := pre.length) (zs := obZ) (ws := obC o)
      · rfl
      · rfl
      · rfl
      · exact hown
      · rfl
      · simp [Value.oneCell']
      · omega
      · decide
    · rfl
    · rfl
    · rfl
    · intro _ _ _ c hc; cases hc
    · exact fun _ _ _ x hx ha => anc_all (by kernel_rfl) hx ha
    rintro v' _ ⟨c2, ho2, rfl⟩
    have hv1 : v'.oneCell' = true := ho2.one
    simp only [List.cons_append, List.nil_append]
    apply pl_nS
    · apply e_storeL (cs := [u])
      · rfl
      · rfl
      · exact hv1
      · exact zMem
      · exact .zero
      · exact zUpd
    · rfl
    · rfl
    · intro _ _ _ c hc; cases hc
    · exact fun _ _ _ x hx ha => anc_all (by kernel_rfl) hx ha
    rintro _ _ ⟨rfl, rfl⟩
    refine pz ?_
    refine gz ?_
    rw [← hX1]
    refine p_round _ (.refl) ⟨v', c2, ?_, rfl⟩
    rw [List.map_append, show [(o, k)].map Prod.fst = [o] from rfl, ocs_snoc, List.length_append]; exact ho2
  · rintro D xs l' rfl ⟨u, cs2, hown, rfl⟩
    have hu1 : u.oneCell' = true := hown.one
    simp only [List.cons_append, List.nil_append]
    refine gz ?_
    refine k_ret2 [D] (cs2 ++ l) rfl (l' := cs2 ++ l) (by exact zKeep) (by exact zRes) .refl ?_
    rw [itm_len, show (itm S.os).map Prod.fst = S.os from List.zipIdx_map_fst ..] at hown
    exact ⟨cs2, hown, rfl⟩
  · rintro D c pre l' hsp h
    exact h.elim
end Ar
namespace As
theorem setFrom_all (cs vs : List Value) (h : vs.length = cs.length) : setFrom (List.toArray cs) 0 vs = List.toArray vs := by
  apply Array.ext_getElem?
  intro j
  rw [setFrom_get _ _ _ _ (by simp [h])]
  by_cases hj : j < vs.length
  · rw [if_pos (by omega)]; simp
  · rw [if_neg (by omega)]; simp; rw [List.getElem?_eq_none (by omega), List.getElem?_eq_none (by omega)]
theorem LSub.of_all {n : Nat} (ws : List Value) (h : ws.length = n) : LSub ws 0 n ws := by
  subst h
  induction ws with
  | nil => exact .done
  | cons w ws ih => exact .take ih
theorem pools_any (b : Nat) (s : ASt) (ws : List Value) (hw : s.cells.extract 0 80 = List.toArray ws) (hl : ws.length = 80) (h1 : ∀ v, v ∈ ws → v.oneCell' = true) (l : List Chunk) (hm : asA b s ∈ l) : Fn Tryz.prog 35 [.pointer (some ⟨b, 0, none⟩)] l fun v l' => v = .agg (List.toArray ws) ∧ l' = l := by
  refine fn_of_body Tryz.func35 rfl rfl fun E => ?_
  simp only [argF, Tryz.ntmps35]
  refine gz ?_
  refine t_e e_alloc rfl rfl rfl ?_; rintro _ _ ⟨b2, _, rfl, rfl⟩
  refine gz ?_
  refine t_q (q_loadA (cs := s.cells) (n := 80) rfl (by exact zMem) (by rw [s.cells_size]; omega) hw) rfl rfl rfl ?_
  refine gz ?_
  apply t_n
  · apply e_storeA (n := 80)
    · rfl
    · rfl
    · simpa using hl
    · exact h1
    · exact .here
    · simp
  · rfl
  · rfl
  rintro _ _ ⟨rfl, rfl⟩
  rw [List.toList_toArray, setFrom_all _ _ (by rw [hl]; rfl)]
  refine gz ?_
  refine k_ret2 [] ((b2, .cells (List.toArray ws) 29 (0, 0)) :: l) rfl (l' := l) (by exact zKeep) (rs_cellA rfl (by exact zMem) (LSub.of_all (n := 80) _ hl) .nil) (by exact zKeep) ⟨rfl, rfl⟩
end As
end Go.Proofs.YtgafamgacpglcaaGreat

