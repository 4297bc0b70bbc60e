/- A boot's view, as one that can be read; awake. The walk of PartGrows. PartGrows's walk, as the last step wants it. Laws that the statement's proof leans on. -/
import Derived.Test.YtgafamgacpglcaaGreatGg4
import Derived.Test.YtgafamgacpglcaaGreatGg5
import Derived.Test.YtgafamgacpglcaaGreatGg14
import Derived.Test.YtgafamgacpglcaaGreatGg12
/- A boot's view, as one that can be read; awake. -/
-- GU
set_option linter.unusedVariables false
set_option linter.unusedSimpArgs false
namespace Go.Proofs.YtgafamgacpglcaaGreat
open Go.RowKit
set_option maxRecDepth 20000
set_option pp.deepTerms false
set_option pp.deepTerms.threshold 4

theorem krealm_any (B b : Nat) (l : List Chunk) (hm : knC B b ∈ l) : Fn Tryz.prog 10 [pV B] l fun v l' => v = pV b ∧ l' = l := by
  refine fn_of_body Tryz.func10 rfl rfl fun E => ?_
  simp only [argF, Tryz.ntmps10]
  refine gzU ?_
  exact k_ret [] rfl .refl (by exact zRes) ⟨rfl, rfl⟩
def VwL.all (x : VwL) : List Chunk := x.co ++ (x.cc ++ (x.ct ++ (x.ch ++ (x.cr ++ x.cq))))
theorem view_at (F C n : Nat) (R : RT) (b : Nat) (p : RP) (s : RL) (hR : IsRl F C n R p s) (hn : n ≤ 900) (hT : R.T.length ≤ 900000) (L G : List Chunk) (hL : L.Perm (allL b p s R G)) : Fn Tryz.prog 11 [pV b] L fun v l' =>
    ∃ cs, (∃ x : VwL, v = .agg (List.toArray (vwV x.vo x.vc x.vt x.vh R.N x.vr x.vq)) ∧ IsVw C R x ∧ cs = x.all) ∧ l' = cs ++ L :=
  Fn.re (.of_perm hL) (view_any F C n R b p s hR hn hT G) fun v l' ⟨x, h1, h2, h3⟩ => ⟨x.all ++ L, by
    rw [h3]
    refine .of_perm ?_
    simp only [VwL.all, List.append_assoc]
    exact (((((hL.symm.append_left _).append_left _).append_left _).append_left _).append_left _).append_left _, _, ⟨x, h1, h2, rfl⟩, rfl⟩
theorem boot_vw {F T C : Nat} {sh : Bool} {x : VwL} (h : IsVw C (bootR F T sh) x) (hF : BootF F T sh) (L : List Chunk) (hL : ∀ c, c ∈ x.all → c ∈ L) : VwIn L (bootV F T sh) (vwV x.vo x.vc x.vt x.vh (bootR F T sh).N x.vr x.vq) := by
  have m : ∀ c, (c ∈ x.co ∨ c ∈ x.cc ∨ c ∈ x.ct ∨ c ∈ x.ch) → c ∈ L := fun c hc => hL c (by unfold VwL.all; simp only [List.mem_append]; rcases hc with h | h | h | h <;> simp [h])
  obtain ⟨h1, h2, h3, h4, h5, h6⟩ := h
  have o := hF.o
  have hh := hF.h
  have t := hF.t
  have ss := hF.s
  refine ⟨⟨_, _, _, _, _, _, rfl, ?_, ?_, ?_, ?_, h5.one, h6.one⟩, by omega, by omega, by omega, by omega, ?_⟩
  · refine OwnSl.rd (cs := x.co) (e := 156) ?_ (fun r hr => by obtain ⟨q, _, rfl⟩ := List.mem_map.1 hr; rfl) fun c hc => m c (.inl hc)
    rw [List.length_map, ← List.flatMap_def]; exact h1
  · refine OwnSl.rd (cs := x.cc) (e := 119) ?_ (fun r hr => by obtain ⟨q, _, rfl⟩ := List.mem_map.1 hr; rfl) fun c hc => m c (.inr (.inl hc))
    rw [List.length_map, ← List.flatMap_def]; exact h2
  · refine OwnSl.rd (cs := x.ct) (e := 192) ?_ (fun r hr => by obtain ⟨q, _, rfl⟩ := List.mem_map.1 hr; rfl) fun c hc => m c (.inr (.inr (.inl hc)))
    rw [List.length_map, ← List.flatMap_def]; exact h3
  · refine OwnSl.rd (cs := x.ch) (e := 75) ?_ (fun r hr => by obtain ⟨q, _, rfl⟩ := List.mem_map.1 hr; rfl) fun c hc => m c (.inr (.inr (.inr hc)))
    rw [List.length_map, ← List.flatMap_def]; exact h4
  · intro a n cap e
    have e2 : x.vt = .slice a n cap := Option.some.inj e
    rcases h3.2 with ⟨e1, _, _⟩ | ⟨b, cp, sp, e1, _, h, _⟩
    · rw [e1] at e2; cases e2; exact Nat.le_refl _
    · rw [e1] at e2; cases e2; exact h
theorem boot_two (sh : Bool) : ∃ a b, bootT 33 2 sh = [a, b] ∧ cB (Pt.Apt (bootV 33 2 sh).vd wrP [a] [b]) = !sh := by
  have hF := boot_facts (F := 33) (T := 2) sh (by decide) (by decide) (by decide) (by decide)
  have hl := hF.th
  obtain ⟨a, b, hab⟩ : ∃ a b, bootT 33 2 sh = [a, b] := by
    match h : bootT 33 2 sh, hl with
    | [a, b], _ => exact ⟨a, b, rfl⟩
  refine ⟨a, b, hab, ?_⟩
  have ha := hF.apart fun i => decide (i = 0)
  rw [hab] at ha
  have e : Pt.spl (fun i => decide (i = 0)) 0 [a, b] = ([a], [b]) := rfl
  rw [e] at ha
  apply Bool.eq_iff_iff.2
  rw [cB_iff, ha]
  cases sh <;> simp
theorem allL_ex (b : Nat) (p : RP) (s : RL) (R : RT) : ∃ A, ∀ G, allL b p s R G = A ++ G := ⟨allL b p s R [], fun G => by unfold allL; simp⟩
theorem kw2 (b b2 : Nat) (p p2 : RP) (s s2 : RL) (R R2 : RT) (k c k2 c2 : Chunk) (X X2 l : List Chunk) : (k2 :: ([c2] ++ allL b2 p2 s2 R2 (X2 ++ (k :: ([c] ++ allL b p s R (X ++ l)))))).Perm (allL b p s R (k2 :: c2 :: k :: c :: allL b2 p2 s2 R2 (X2 ++ (X ++ l)))) := by
  obtain ⟨A1, hA⟩ := allL_ex b p s R
  obtain ⟨A2, hA2⟩ := allL_ex b2 p2 s2 R2
  simp only [hA, hA2]
  exact perm_ac
theorem kw3 (b2 : Nat) (p2 : RP) (s2 : RL) (R2 : RT) (k2 c2 : Chunk) (A Y : List Chunk) : (A ++ (k2 :: ([c2] ++ allL b2 p2 s2 R2 Y))).Perm (allL b2 p2 s2 R2 (A ++ k2 :: c2 :: Y)) := by
  obtain ⟨A2, hA2⟩ := allL_ex b2 p2 s2 R2
  simp only [hA2]
  exact perm_ac
theorem kw4 (b b2 : Nat) (p p2 : RP) (s s2 : RL) (R R2 : RT) (k c k2 c2 : Chunk) (A X X2 l : List Chunk) : Keep (A ++ (k2 :: ([c2] ++ allL b2 p2 s2 R2 (X2 ++ (k :: ([c] ++ allL b p s R (X ++ l))))))) ((A ++ k2 :: c2 :: k :: c :: allL b p s R (allL b2 p2 s2 R2 (X2 ++ X))) ++ l) := by
  obtain ⟨A1, hA⟩ := allL_ex b p s R
  obtain ⟨A2, hA2⟩ := allL_ex b2 p2 s2 R2
  simp only [hA, hA2]
  exact keep_ac []
theorem mem_allL {b : Nat} {p : RP} {s : RL} {R : RT} {G : List Chunk} {c : Chunk} (h : c ∈ G) : c ∈ allL b p s R G := by unfold allL; simp [h]
theorem half1 {l : List Chunk} {a b : Int} {sp : List Value} {gb cap : Nat} (hm : (gb, Obj.cells (List.toArray ([a, b].map intQ ++ sp)) 3 (0, 0)) ∈ l) : IntSl l (.slice (some ⟨gb, 0, none⟩) 1 cap) [a] := ⟨_, cap, rfl, fun _ => ⟨gb, 0, _, _, _, rfl, hm, fun i x hx => by cases i with | zero => simp at hx; subst hx; rfl | succ i => simp at hx⟩⟩
theorem half2 {l : List Chunk} {a b : Int} {sp : List Value} {gb cap : Nat} (hm : (gb, Obj.cells (List.toArray ([a, b].map intQ ++ sp)) 3 (0, 0)) ∈ l) : IntSl l (.slice (some ⟨gb, 1, none⟩) 1 cap) [b] := ⟨_, cap, rfl, fun _ => ⟨gb, 1, _, _, _, rfl, hm, fun i x hx => by cases i with | zero => simp at hx; subst hx; rfl | succ i => simp at hx⟩⟩
set_option maxHeartbeats 4000000 in
theorem awake_any (l : List Chunk) : Fn Tryz.prog 7 [] l fun v l' => v = .bool true ∧ ∃ X, l' = X ++ l := by
  obtain ⟨t1, t2, hth, hap⟩ := boot_two false
  obtain ⟨u1, u2, hu, hap2⟩ := boot_two true
  have hF1 := boot_facts (F := 33) (T := 2) false (by decide) (by decide) (by decide) (by decide)
  have hF2 := boot_facts (F := 33) (T := 2) true (by decide) (by decide) (by decide) (by decide)
  refine fn_of_body Tryz.func7 rfl rfl fun E => ?_
  simp only [argF, Tryz.ntmps7]
  refine gzU ?_
  refine t_e (e_call0 rfl rfl (bnew_ok 33 1 2 false (by decide) (by decide) (by decide) (by decide) (by decide) (by decide) l)) rfl rfl rfl ?_
  rintro _ _ ⟨B, b, v14, p, s, X, cs, rfl, hR, ho, rfl⟩
  rw [show (bootO 33 2 false).map OwT.th = [t1, t2] from hth] at ho
  rcases ho.2 with ⟨_, h0, _⟩ | ⟨gb, cap, sp, rfl, rfl, hc1, _⟩
  · omega
  obtain ⟨L1, hL1⟩ : ∃ L1, L1 = knC B b :: ([(gb, Obj.cells (List.toArray ([t1, t2].map intQ ++ sp)) 3 (0, 0))] ++ allL b p s (bootR 33 2 false) (X ++ l)) := ⟨_, rfl⟩
  rw [← hL1]
  refine gzU ?_
  refine t_e (e_call0 rfl rfl (bnew_ok 33 1 2 true (by decide) (by decide) (by decide) (by decide) (by decide) (by decide) L1)) rfl rfl rfl ?_
  rintro _ _ ⟨B2, b2, v24, p2, s2, X2, cs2, rfl, hR2, ho2, rfl⟩
  rw [show (bootO 33 2 true).map OwT.th = [u1, u2] from hu] at ho2
  rcases ho2.2 with ⟨_, h0, _⟩ | ⟨gb2, cap2, sp2, rfl, rfl, hc2, _⟩
  · omega
  refine gzU ?_
  obtain ⟨L, hL⟩ : ∃ L, L = knC B2 b2 :: ([(gb2, Obj.cells (List.toArray ([u1, u2].map intQ ++ sp2)) 3 (0, 0))] ++ allL b2 p2 s2 (bootR 33 2 true) (X2 ++ L1)) := ⟨_, rfl⟩
  rw [← hL]
  have mk2 : knC B2 b2 ∈ L := by rw [hL]; exact .head _
  have mt2 : (gb2, Obj.cells (List.toArray ([u1, u2].map intQ ++ sp2)) 3 (0, 0)) ∈ L := by rw [hL]; exact .tail _ (.head _)
  have mL1 : ∀ c, c ∈ L1 → c ∈ L := fun c hc => by rw [hL]; exact .tail _ (List.mem_append_right _ (mem_allL (List.mem_append_right _ hc)))
  have mk1 : knC B b ∈ L := mL1 _ (by rw [hL1]; exact .head _)
  have mt1 : (gb, Obj.cells (List.toArray ([t1, t2].map intQ ++ sp)) 3 (0, 0)) ∈ L := mL1 _ (by rw [hL1]; exact .tail _ (.head _))
  have hP1 : L.Perm (allL b p s (bootR 33 2 false) (knC B2 b2 :: (gb2, Obj.cells (List.toArray ([u1, u2].map intQ ++ sp2)) 3 (0, 0)) :: knC B b :: (gb, Obj.cells (List.toArray ([t1, t2].map intQ ++ sp)) 3 (0, 0)) :: allL b2 p2 s2 (bootR 33 2 true) (X2 ++ (X ++ l)))) := by rw [hL, hL1]; exact kw2 ..
  have hP2 : ∀ A, (A ++ L).Perm (allL b2 p2 s2 (bootR 33 2 true) (A ++ knC B2 b2 :: (gb2, Obj.cells (List.toArray ([u1, u2].map intQ ++ sp2)) 3 (0, 0)) :: (X2 ++ L1))) := fun A => by rw [hL]; exact kw3 ..
  have hK : ∀ A, ∃ Y, Keep (A ++ L) (Y ++ l) := fun A => ⟨A ++ knC B2 b2 :: (gb2, Obj.cells (List.toArray ([u1, u2].map intQ ++ sp2)) 3 (0, 0)) :: knC B b :: (gb, Obj.cells (List.toArray ([t1, t2].map intQ ++ sp)) 3 (0, 0)) :: allL b p s (bootR 33 2 false) (allL b2 p2 s2 (bootR 33 2 true) (X2 ++ X)), by rw [hL, hL1]; exact kw4 ..⟩
  clear hL hL1
  refine c_draw [(0, true), (1, true), (3, true), (4, true), (5, true), (6, true), (2, false), (7, false), (8, true), (9, true), (10, true), (12, true), (13, true), (14, true), (15, true), (11, false), (16, false), (17, true), (18, true), (19, true)] [[], [0], [0, 1], [], [3], [], [5], [0, 1, 2, 3, 4, 5, 6], [0, 1, 2, 3, 4, 5, 6, 7], [0, 1, 2, 3, 4, 5, 6, 7, 8], [0, 1, 2, 3, 4, 5, 6, 7, 8, 9], [0, 1, 2, 3, 4, 5, 6, 7, 8, 9, 10], [0, 1, 2, 3, 4, 5, 6, 7, 8], [0, 1, 2, 3, 4, 5, 6, 7, 8, 12], [0, 1, 2, 3, 4, 5, 6, 7, 8], [0, 1, 2, 3, 4, 5, 6, 7, 8, 14], [0, 1, 2, 3, 4, 5, 6, 7, 8, 9, 10, 11, 12, 13, 14, 15], [0, 1, 2, 3, 4, 5, 6, 7, 8, 9, 10, 11, 12, 13, 14, 15, 16], [0, 1, 2, 3, 4, 5, 6, 7, 8, 9, 10, 11, 12, 13, 14, 15, 16, 17], [0, 1, 2, 3, 4, 5, 6, 7, 8, 9, 10, 11, 12, 13, 14, 15, 16, 17, 18]] _ (by kernel_rfl) (by kernel_rfl) zAtt (fun _ h => h) ?_
  refine pzU ?_
  apply pl_q
  · exact q_call rfl rfl (fun l2 hl => krealm_any B b l2 (hl _ mk1))
  · rfl
  · rfl
  · rfl
  refine pzU ?_
  apply pl_q
  · exact q_slice (l0 := 0) (h0 := 1) (m0 := cap) (off' := 0) (n' := 1) (c' := cap) rfl .none (.some rfl (by omega) rfl) .none (by simp) (by omega) (by omega) (by omega) (by simp) (by omega) (by omega)
  · rfl
  · rfl
  · rfl
  refine pzU ?_
  apply pl_q
  · exact q_slice (l0 := 1) (h0 := 2) (m0 := cap) (off' := 1) (n' := 1) (c' := cap - 1) rfl (.some rfl (by omega) rfl) .none .none (by simp) (by omega) (by omega) (by omega) (by rw [if_neg (by omega)]) (by omega) (by omega)
  · rfl
  · rfl
  · rfl
  refine pzU ?_
  apply pl_e
  · exact e_call0 rfl rfl (view_at 33 1 60 _ b p s hR (by omega) (by have := hF1.s; exact Nat.le_trans this (by omega)) L _ hP1)
  · rfl
  · rfl
  · rfl
  · rintro _ _ ⟨_, _, rfl⟩ q hq; exact List.mem_append_right _ hq
  rintro _ _ ⟨_, ⟨x1, rfl, hx1, rfl⟩, rfl⟩
  refine pzU ?_
  apply pl_e
  · exact e_call0 rfl rfl (Apart_any (bootV 33 2 false) _ _ _ [t1] [t2] _ (boot_vw hx1 hF1 _ fun c hc => List.mem_append_left _ hc) (half1 (List.mem_append_right _ mt1)) (half2 (List.mem_append_right _ mt1)) (by simp) (by simp))
  · rfl
  · rfl
  · rfl
  · rintro _ _ ⟨_, rfl⟩ q hq; exact List.mem_append_right _ hq
  rintro _ _ ⟨rfl, rfl⟩
  rw [hap]
  refine pzU ?_
  apply pl_gq
  · exact q_call rfl rfl (fun l2 hl => krealm_any B2 b2 l2 (hl _ mk2))
  all_goals try rfl
  refine pzU ?_
  apply pl_gq
  · exact q_slice (l0 := 0) (h0 := 1) (m0 := cap2) (off' := 0) (n' := 1) (c' := cap2) rfl .none (.some rfl (by omega) rfl) .none (by simp) (by omega) (by omega) (by omega) (by simp) (by omega) (by omega)
  all_goals try rfl
  refine pzU ?_
  apply pl_gq
  · exact q_slice (l0 := 1) (h0 := 2) (m0 := cap2) (off' := 1) (n' := 1) (c' := cap2 - 1) rfl (.some rfl (by omega) rfl) .none .none (by simp) (by omega) (by omega) (by omega) (by rw [if_neg (by omega)]) (by omega) (by omega)
  all_goals try rfl
  refine pzU ?_
  apply pl_geS
  · exact e_call0 rfl rfl (view_at 33 1 60 _ b2 p2 s2 hR2 (by omega) (by have := hF2.s; exact Nat.le_trans this (by omega)) _ _ (hP2 _))
  · rfl
  · rfl
  · rfl
  · rintro _ _ ⟨_, _, rfl⟩ q hq; exact List.mem_append_right _ (List.mem_append_right _ hq)
  · exact fun _ _ _ x hx => by cases hx
  rintro _ _ ⟨_, ⟨x2, rfl, hx2, rfl⟩, rfl⟩
  refine pzU ?_
  apply pl_geS
  · exact e_call0 rfl rfl (Apart_any (bootV 33 2 true) _ _ _ [u1] [u2] _ (boot_vw hx2 hF2 _ fun c hc => List.mem_append_left _ hc) (half1 (List.mem_append_right _ (List.mem_append_right _ mt2))) (half2 (List.mem_append_right _ (List.mem_append_right _ mt2))) (by simp) (by simp))
  · rfl
  · rfl
  · rfl
  · rintro _ _ ⟨_, rfl⟩ q hq; exact List.mem_append_right _ (List.mem_append_right _ hq)
  · exact fun _ _ _ x hx => by cases hx
  rintro _ _ ⟨rfl, rfl⟩
  rw [hap2]
  refine pzU ?_
  refine gzU ?_
  obtain ⟨Y, hY⟩ := hK (x2.all ++ x1.all)
  exact k_ret [] rfl (l' := Y ++ l) (by rw [List.append_assoc] at hY; exact hY) (by exact zRes) ⟨rfl, _, rfl⟩
end Go.Proofs.YtgafamgacpglcaaGreat


/- The walk of PartGrows. -/
-- GU
set_option linter.unusedVariables false
set_option linter.unusedSimpArgs false
namespace Go.Proofs.YtgafamgacpglcaaGreat
open Go.RowKit
set_option maxRecDepth 20000
set_option pp.deepTerms false
set_option pp.deepTerms.threshold 4

set_option maxHeartbeats 4000000 in
theorem grows_any (x : VwT) (nr nq : Nat) (c : List Value) (v1 v2 : Value) (xs ys : List Int) (l : List Chunk) (hV : VwRaw l x nr nq c) (h1 : IntSl l v1 xs) (h2 : IntSl l v2 ys) :
    Fn Tryz.prog 5 [.agg (List.toArray c), v1, v2] l fun v l' => v = .bool true ∧ ∃ X, l' = X ++ l := by
  have h1' := h1
  have h2' := h2
  obtain ⟨a1, ca1, rfl, q1⟩ := h1'
  obtain ⟨a2, ca2, rfl, q2⟩ := h2'
  have hlen : c.length = 86 := by
    obtain ⟨⟨vo, vc, vt, vh, vr, vq, rfl, _⟩, _⟩ := hV
    simp [plc_len]
  refine fn_of_body Tryz.func5 rfl rfl fun E => ?_
  simp only [argF, Tryz.ntmps5]
  refine gzU ?_
  refine t_e (e_boxA rfl) rfl rfl rfl ?_
  rintro _ _ ⟨b3, _, rfl, rfl⟩
  refine gzU ?_
  refine t_q (q_loadL rfl (.head _) (As.LSub.of_all (n := 86) _ hlen)) rfl rfl rfl ?_
  refine gzU ?_
  refine t_q (q_call rfl rfl (fun l2 hl => great_any x nr nq c l2 (hV.mono fun q hq => hl _ (.tail _ hq)))) rfl rfl rfl ?_
  by_cases hS : SmallV x nr nq
  case neg =>
    rw [decide_eq_false hS]
    refine gzU ?_
    refine t_e (e_call0 rfl rfl (awake_any _)) rfl rfl rfl ?_
    rintro _ _ ⟨rfl, X, rfl⟩
    refine gzU ?_
    exact k_ret [] rfl (l' := X ++ l) (keep_app X (.drop .refl)) (by exact zRes) ⟨rfl, X, rfl⟩
  rw [decide_eq_true hS]
  by_cases hx : 20 < xs.length
  · refine gzU ?_
    refine t_e (e_call0 rfl rfl (awake_any _)) rfl rfl rfl ?_
    rintro _ _ ⟨rfl, X, rfl⟩
    refine gzU ?_
    exact k_ret [] rfl (l' := X ++ l) (keep_app X (.drop .refl)) (by exact zRes) ⟨rfl, X, rfl⟩
  by_cases hy : 20 < ys.length
  · refine gzU ?_
    refine t_e (e_call0 rfl rfl (awake_any _)) rfl rfl rfl ?_
    rintro _ _ ⟨rfl, X, rfl⟩
    refine gzU ?_
    exact k_ret [] rfl (l' := X ++ l) (keep_app X (.drop .refl)) (by exact zRes) ⟨rfl, X, rfl⟩
  have hW := hV.vw hS.1 hS.2.1 hS.2.2.1 hS.2.2.2.1
  have hos := hS.1
  have hts := hS.2.2.2.1
  refine gzU ?_
  refine t_e (e_appendIs (xs := []) (cs := []) (F := vwB b3 c :: l) rfl rfl (OwnSl.nil _ _) (h1.mono fun q hq => .tail _ hq) (by simp) (by omega)) rfl rfl rfl ?_
  rintro w1 _ ⟨k1, o1, rfl⟩
  rw [List.nil_append] at o1
  have ow1 := o1.one
  refine gzU ?_
  refine t_e (e_appendIs (xs := xs) (cs := k1) (F := vwB b3 c :: l) rfl rfl o1 (h2.mono fun q hq => .tail _ hq) (by omega) (by omega)) rfl rfl rfl ?_
  rintro w2 _ ⟨k2, o2, rfl⟩
  have ow2 := o2.one
  obtain ⟨bs, hbs⟩ : ∃ bs, bs = xs ++ ys := ⟨_, rfl⟩
  have hbl : bs.length ≤ 40 := by rw [hbs, List.length_append]; omega
  have hsx : ∀ z, z ∈ xs → z ∈ bs := fun z hz => by rw [hbs]; exact List.mem_append_left _ hz
  rw [← hbs] at o2
  clear hbs
  obtain ⟨L, hL⟩ : ∃ L, L = k2 ++ vwB b3 c :: l := ⟨_, rfl⟩
  rw [← hL]
  have mv : vwB b3 c ∈ L := by rw [hL]; simp
  have hsub : ∀ q, q ∈ l → q ∈ L := fun q hq => by rw [hL]; simp [hq]
  have hk2 : ∀ q, q ∈ k2 → q ∈ L := fun q hq => by rw [hL]; simp [hq]
  have hK : Keep L l := by rw [hL]; exact .dropL _ (.drop .refl)
  clear hL
  refine gzU ?_
  refine c_draw [(0, true), (1, true), (3, true), (4, true), (2, false), (5, false), (6, true), (7, true)] [[], [], [0, 1], [], [], [0, 1, 2, 3, 4], [0, 1, 2, 3, 4, 5], [0, 1, 2, 3, 4, 5, 6]] _ (by kernel_rfl) (by kernel_rfl) zAtt (fun _ h => h) ?_
  refine pzU ?_
  apply pl_q
  · exact q_loadL rfl mv (As.LSub.of_all (n := 86) _ hlen)
  · rfl
  · rfl
  · rfl
  refine pzU ?_
  apply pl_q
  · exact q_loadL rfl mv (As.LSub.of_all (n := 86) _ hlen)
  · rfl
  · rfl
  · rfl
  refine pzU ?_
  apply pl_e
  · exact e_call0 rfl rfl (Reach_any x c _ xs _ (hW.mono hsub) (h1.mono hsub) (by omega))
  · rfl
  · rfl
  · rfl
  · rintro _ _ ⟨_, _, _, _, _, rfl⟩ q hq; exact List.mem_append_right _ hq
  rintro ra _ ⟨az, ka, hra, hla, oa, rfl⟩
  have ora := oa.one
  refine pzU ?_
  apply pl_e
  · exact e_call0 rfl rfl (Reach_any x c _ bs _ (hW.mono fun q hq => List.mem_append_right _ (hsub q hq)) (o2.intsQ fun q hq => List.mem_append_right _ (hk2 q hq)) (by omega))
  · rfl
  · rfl
  · rfl
  · rintro _ _ ⟨_, _, _, _, _, rfl⟩ q hq; exact List.mem_append_right _ (List.mem_append_right _ hq)
  rintro rb _ ⟨bt, kb, hrb, hlb, ob, rfl⟩
  have orb := ob.one
  refine pzU ?_
  obtain ⟨L2, hL2⟩ : ∃ L2, L2 = kb ++ (ka ++ L) := ⟨_, rfl⟩
  rw [← hL2]
  have mv2 : vwB b3 c ∈ L2 := by rw [hL2]; simp [mv]
  have hs2 : ∀ q, q ∈ L → q ∈ L2 := fun q hq => by rw [hL2]; simp [hq]
  have hka : ∀ q, q ∈ ka → q ∈ L2 := fun q hq => by rw [hL2]; simp [hq]
  have hkb : ∀ q, q ∈ kb → q ∈ L2 := fun q hq => by rw [hL2]; simp [hq]
  have hK2 : Keep L2 l := by rw [hL2]; exact .dropL _ (.dropL _ hK)
  clear hL2
  refine gzU ?_
  refine c_draw [(0, true), (1, true), (3, true), (4, true), (2, false), (5, false), (6, true), (7, true)] [[], [], [0, 1], [], [], [0, 1, 2, 3, 4], [0, 1, 2, 3, 4, 5], [0, 1, 2, 3, 4, 5, 6]] _ (by kernel_rfl) (by kernel_rfl) zAtt (fun _ h => h) ?_
  refine pzU ?_
  apply pl_q
  · exact q_loadL rfl mv2 (As.LSub.of_all (n := 86) _ hlen)
  · rfl
  · rfl
  · rfl
  refine pzU ?_
  apply pl_q
  · exact q_loadL rfl mv2 (As.LSub.of_all (n := 86) _ hlen)
  · rfl
  · rfl
  · rfl
  refine pzU ?_
  apply pl_e
  · exact e_call0 rfl rfl (Leans_any x c _ xs _ (hW.mono fun q hq => hs2 _ (hsub q hq)) (h1.mono fun q hq => hs2 _ (hsub q hq)) (by omega) (by omega) (by omega))
  · rfl
  · rfl
  · rfl
  · rintro _ _ ⟨_, _, _, _, _, rfl⟩ q hq; exact List.mem_append_right _ hq
  rintro rc _ ⟨ct, kc, hrc, hlc, oc, rfl⟩
  have orc := oc.one
  refine pzU ?_
  apply pl_e
  · exact e_call0 rfl rfl (Leans_any x c _ bs _ (hW.mono fun q hq => List.mem_append_right _ (hs2 _ (hsub q hq))) (o2.intsQ fun q hq => List.mem_append_right _ (hs2 _ (hk2 q hq))) (by omega) (by omega) (by omega))
  · rfl
  · rfl
  · rfl
  · rintro _ _ ⟨_, _, _, _, _, rfl⟩ q hq; exact List.mem_append_right _ (List.mem_append_right _ hq)
  rintro rd _ ⟨dt, kd, hrd, hld, od, rfl⟩
  have ord := od.one
  refine pzU ?_
  obtain ⟨L3, hL3⟩ : ∃ L3, L3 = kd ++ (kc ++ L2) := ⟨_, rfl⟩
  rw [← hL3]
  have iA : IntSl L3 ra az := oa.intsQ fun q hq => by rw [hL3]; simp [hka q hq]
  have iB : IntSl L3 rb bt := ob.intsQ fun q hq => by rw [hL3]; simp [hkb q hq]
  have iC : IntSl L3 rc ct := oc.intsQ fun q hq => by rw [hL3]; simp [hq]
  have iD : IntSl L3 rd dt := od.intsQ fun q hq => by rw [hL3]; simp [hq]
  have hK3 : Keep L3 l := by rw [hL3]; exact .dropL _ (.dropL _ hK2)
  have hab : ∀ z, z ∈ az → z ∈ bt := fun z hz => (hrb z).2 (((hra z).1 hz).mono hsx)
  have hac : ∀ z, z ∈ az → z ∈ ct := fun z hz => (hrc z).2 (Pt.Lns.of ((hra z).1 hz))
  have hcd : ∀ z, z ∈ ct → z ∈ dt := fun z hz => (hrd z).2 (((hrc z).1 hz).mono hsx)
  clear hL3 oa ob oc od ora orb orc ord
  have iA' := iA
  have iC' := iC
  obtain ⟨pa, qa, rfl, ja⟩ := iA'
  obtain ⟨pc, qc, rfl, jc⟩ := iC'
  have vb1 : rb.oneCell' = true := by obtain ⟨_, _, rfl, _⟩ := iB; rfl
  have vd1 : rd.oneCell' = true := by obtain ⟨_, _, rfl, _⟩ := iD; rfl
  refine gzU ?_
  refine k_loop (α := Nat) (fun i => [(8, .slice pa az.length qa), (9, rb), (10, .slice pc ct.length qc), (11, rd), (12, .int .i64 i)]) (fun _ => L3) (fun i => i ≤ az.length) (fun i => az.length - i) 0 (Nat.zero_le _) ⟨rfl, rfl, rfl, rfl, rfl, trivial⟩ .refl ?_
  rintro i hi
  by_cases hlt : i < az.length
  · obtain ⟨z, e1⟩ : ∃ z, az[i]? = some z := ⟨_, List.getElem?_eq_getElem hlt⟩
    obtain ⟨bB, off, cs, t, fz, rfl, hm, hc⟩ := ja (by omega)
    have g1 := hc i z e1
    have hz := List.mem_of_getElem? e1
    refine gzU ?_
    refine t_q (q_call rfl rfl (fun l2 hl => in_any rb bt z l2 (iB.mono hl) (by omega))) rfl rfl rfl ?_
    rw [decide_eq_true (hab z hz)]
    refine gzU ?_
    refine t_h (q_call rfl rfl (fun l2 hl => in_any _ ct z l2 (iC.mono hl) (by omega))) rfl rfl rfl ?_
    rw [decide_eq_true (hac z hz)]
    refine gzU ?_
    exact k_next (i + 1) (by omega) (by omega) ⟨rfl, rfl, rfl, rfl, rfl, trivial⟩ .refl
  refine gzU ?_
  refine k_loop (α := Nat) (fun i => [(10, .slice pc ct.length qc), (11, rd), (13, .int .i64 i)]) (fun _ => L3) (fun i => i ≤ ct.length) (fun i => ct.length - i) 0 (Nat.zero_le _) ⟨rfl, rfl, rfl, trivial⟩ .refl ?_
  rintro k hk
  by_cases hlk : k < ct.length
  · obtain ⟨z, e1⟩ : ∃ z, ct[k]? = some z := ⟨_, List.getElem?_eq_getElem hlk⟩
    obtain ⟨bB, off, cs, t, fz, rfl, hm, hc⟩ := jc (by omega)
    have g1 := hc k z e1
    have hz := List.mem_of_getElem? e1
    refine gzU ?_
    refine t_q (q_call rfl rfl (fun l2 hl => in_any rd dt z l2 (iD.mono hl) (by omega))) rfl rfl rfl ?_
    rw [decide_eq_true (hcd z hz)]
    refine gzU ?_
    exact k_next (k + 1) (by omega) (by omega) ⟨rfl, rfl, rfl, trivial⟩ .refl
  refine gzU ?_
  refine t_e (e_call0 rfl rfl (awake_any _)) rfl rfl rfl ?_
  rintro _ _ ⟨rfl, X, rfl⟩
  refine gzU ?_
  exact k_ret [] rfl (l' := X ++ l) (keep_app X hK3) (by exact zRes) ⟨rfl, X, rfl⟩
end Go.Proofs.YtgafamgacpglcaaGreat


/- PartGrows's walk, as the last step wants it. -/
set_option linter.unusedVariables false
set_option linter.unusedSimpArgs false
namespace Go.Proofs.YtgafamgacpglcaaGreat
open Go.RowKit

theorem grows_walk {W : World} (c : List Value) (hc : MixIs W vwK c) (a1 : Option Addr) (n1 c1 : Nat) (r1 : List (List Value)) (h1 : IsRows [some .i64] W a1 n1 c1 r1) (a2 : Option Addr) (n2 c2 : Nat) (r2 : List (List Value)) (h2 : IsRows [some .i64] W a2 n2 c2 r2) :
    Calls Tryz.prog 5 #[.agg c.toArray, .slice a1 n1 c1, .slice a2 n2 c2] W fun e W' => e = .returned (.bool true) ∧ Below W.heap.size W W' := by
  obtain ⟨x, nr, nq, hV⟩ := view_in hc
  obtain ⟨xs, _, i1⟩ := ints_in h1
  obtain ⟨ys, _, i2⟩ := ints_in h2
  exact law_walk (grows_any x nr nq c _ _ xs ys _ hV i1 i2)
end Go.Proofs.YtgafamgacpglcaaGreat

