/- Laws that the statement's proof leans on (joined out of several texts). -/
import Derived.Test.YtcjknmpogkofpaaGreatGm3
import Derived.Test.YtcjknmpogkofpaaGreatGm14
import Derived.Test.YtcjknmpogkofpaaGreatGm13
import Derived.Test.YtcjknmpogkofpaaGreatGm10
import Derived.Test.YtcjknmpogkofpaaGreatGm5
import Derived.Test.YtcjknmpogkofpaaGreatGm1
set_option linter.unusedVariables false
set_option linter.unusedSimpArgs false
namespace Go.Proofs.YtcjknmpogkofpaaGreat
open Go.RowKit
set_option maxRecDepth 20000
theorem Fn.mvN {f : FuncId} {args : List Value} {b : Nat} {p : RP} {s : RL} {N N' : As.ASt} {G : List Chunk} {x : Value} (h : ∀ F, Fn Tryz.prog f args (As.rfA p.n N :: F) fun v l' => v = x ∧ l' = As.rfA p.n N' :: F) : Fn Tryz.prog f args (allR b p s N G) fun v l' => v = x ∧ l' = allR b p s N' G := by
  obtain ⟨M, C, A, H, T, Q, E, V⟩ := s
  exact Fn.re (.of_perm (pmN ..)) (h _) fun v l' ⟨h1, h2⟩ => ⟨_, by subst h2; exact .of_perm (pmN ..).symm, h1, rfl⟩
structure IdsIn (G : List Chunk) (os : List OwT) (gb : Nat) (cells : Array Value) : Prop where
  m : (gb, Obj.cells cells 25 (0, 0)) ∈ G
  r : ∀ (i : Nat) (o : OwT), os[i]? = some o → ∃ gb2 cap2 cells2, (∀ x : Int, x = i → cells[0 + x.toNat * 1]? = some (.slice (some ⟨gb2, 0, none⟩) 5 cap2)) ∧ cells[i * 1]? = some (.slice (some ⟨gb2, 0, none⟩) 5 cap2) ∧ (gb2, Obj.cells cells2 3 (0, 0)) ∈ G ∧ ∀ (x : Int) (j : Nat) (y : Int), x = j → (owI o)[j]? = some y → cells2[0 + x.toNat * 1]? = some (.int .i64 y)
theorem IdsIn.of {G : List Chunk} {os : List OwT} {vO : Value} {vals : List Value} {cO CI : List Chunk} (h0 : 1 ≤ os.length) (hO : OwnSl 25 1 vO os.length vals cO) (hI : InnS vals (os.map owI) CI) (h1 : ∀ c, c ∈ cO → c ∈ G) (h2 : ∀ c, c ∈ CI → c ∈ G) : ∃ gb cap cells, vO = .slice (some ⟨gb, 0, none⟩) os.length cap ∧ IdsIn G os gb cells := by
  obtain ⟨gb, cap, sp, rfl, rfl, hcell⟩ := hO.cell1 h0
  refine ⟨gb, cap, _, rfl, h1 _ (.head _), fun i o hi => ?_⟩
  obtain ⟨v, gb2, cap2, sp2, C1, C2, rfl, hv, hCI, -, hget⟩ := hI.row hi
  have hlt := (List.getElem?_eq_some_iff.1 hi).1
  have e := (hcell i (.int .i64 0) hlt).2.1.trans hv
  exact ⟨gb2, cap2, _, fun x hx => by subst hx; rw [Int.toNat_natCast, Nat.zero_add]; exact e, e, h2 _ (by rw [hCI]; simp), hget⟩
set_option maxHeartbeats 4000000 in
theorem rn_D {E : World} {Q : Exit → Act → World → Prop} {ds : List Deferred} {fn : Func} {c : Code} (hf : Tryz.prog.funcs[6]? = some fn) (hc : fn.body = some c) (F C T n : Nat) (sh : Bool) (hT : T ≤ 3) (hn : n ≤ 800) (e : Int) (vT : Value) (b1 b : Nat) (p : RP) (s : RL) (R : RT) (hR : IsRR F C n R [] p s) (os : List OwT) (hos : os.length = T) (gb cap : Nat) (cells : Array Value) (G : List Chunk) (hG : IdsIn G os gb cells) (hmZ : ccC b1 F C T sh ∈ G)
    (k : IsRR F C (n + T) { R with N := layNF R.N os T } [] p s → PostS fn.ntmps E Q .normal [(1, pV b1), (5, pV b), (8, .slice (some ⟨gb, 0, none⟩) T cap), (17, .int .i64 e), (22, vT)] ds (allR b p s (layNF R.N os T) G)) :
    CodeS Tryz.prog none fn.ntmps E (hed (aft 12 c)) Q [(1, pV b1), (5, pV b), (8, .slice (some ⟨gb, 0, none⟩) T cap), (17, .int .i64 e), (22, vT)] ds (allR b p s R.N G) := by
  obtain rfl := Option.some.inj (hf.symm.trans Tryz.func6)
  obtain rfl := Option.some.inj hc
  simp only [Tryz.func6, Tryz.ntmps6, aft, hed] at k ⊢
  subst hos
  have memG : ∀ (N : As.ASt) (c : Chunk), c ∈ G → c ∈ allR b p s N G := fun N c hc => by rw [allR_app]; simp [hc]
  have mr : ∀ N, rrC b p ∈ allR b p s N G := fun N => .head _
  refine gzU ?_
  refine k_loop (α := Nat) (fun i => [(1, pV b1), (5, pV b), (8, .slice (some ⟨gb, 0, none⟩) os.length cap), (17, .int .i64 e), (22, vT), (24, .int .i64 i)]) (fun i => allR b p s (layNF R.N os i) G)
    (fun i => i ≤ os.length ∧ IsRR F C (n + i) { R with N := layNF R.N os i } [] p s) (fun i => os.length - i) 0 ⟨Nat.zero_le _, hR⟩ ⟨rfl, rfl, rfl, rfl, rfl, rfl, trivial⟩ .refl ?_
  clear hR
  rintro i ⟨hi, hR⟩
  have hm0 := memG (layNF R.N os i) _ hmZ
  by_cases hlt : i < os.length
  · obtain ⟨o, hio⟩ : ∃ o, os[i]? = some o := ⟨_, List.getElem?_eq_getElem hlt⟩
    have eo : os.getD i ow0 = o := by rw [List.getD, hio, Option.getD_some]
    have eN : layNF R.N os (i + 1) = (As.assignP (As.addP (layNF R.N os i) o.pl).2.2 o.pl o.rt).2.2.2 := by rw [layNF, eo]
    obtain ⟨gb2, cap2, cells2, -, hz, hg2, hget⟩ := hG.r i o hio
    have z2 := hget 2 2 o.rt rfl rfl
    have z3 := hget 3 3 o.pl rfl rfl
    have hfit : As.Fit (layNF R.N os i) := hR.fit
    have hgiv : ∀ n', n' < 32 → 0 ≤ (layNF R.N os i).given n' ∧ (layNF R.N os i).given n' ≤ ((n + i : Nat) : Int) := hR.giv
    obtain ⟨N, hN⟩ : ∃ N, N = layNF R.N os i := ⟨_, rfl⟩
    rw [← hN] at eN hfit hgiv hm0 ⊢
    have hsub : ∀ N c, c ∈ [rrC b p, (gb, Obj.cells cells 25 (0, 0)), (gb2, Obj.cells cells2 3 (0, 0))] → c ∈ allR b p s N G := fun N c hc => by
      simp only [List.mem_cons, List.not_mem_nil, or_false] at hc
      rcases hc with rfl | rfl | rfl
      · exact mr N
      · exact memG N _ hG.m
      · exact memG N _ hg2
    refine gzU ?_
    refine c_draw [(0, true), (1, true), (2, true), (3, true), (4, true), (5, true), (6, true), (7, true), (8, true), (9, true), (10, false)] [[], [0], [0, 1], [0, 1, 2], [], [], [4, 5], [4, 5, 6], [4, 5, 6, 7], [4, 5, 6, 7, 8], [0, 1, 2, 3, 4, 5, 6, 7, 8, 9]] ([rrC b p, (gb, Obj.cells cells 25 (0, 0)), (gb2, Obj.cells cells2 3 (0, 0))]) (by kernel_rfl) (by kernel_rfl) zAtt ((hsub N)) ?_
    refine pzU ?_
    apply pl_e
    · exact e_call0 rfl rfl (Fn.mvN fun F => As.raddPool_any p.n N o.pl F hfit)
    · rfl
    · rfl
    · rfl
    · rintro _ _ ⟨_, rfl⟩; exact hsub _
    rintro _ _ ⟨rfl, rfl⟩
    refine pzU ?_
    have hg1 : ∀ n', n' < 32 → 0 ≤ (As.addP N o.pl).2.2.given n' ∧ (As.addP N o.pl).2.2.given n' ≤ ((n + i : Nat) : Int) := fun n' hn' => by rw [giv_add]; exact hgiv n' hn'
    refine gzU ?_
    refine c_draw [(0, true), (1, true), (2, true), (3, true), (4, true), (5, true), (6, true), (7, true), (8, true), (9, true), (10, true), (11, true), (12, true), (13, true), (14, true), (15, true), (16, false)] [[], [0], [0, 1], [0, 1, 2], [], [], [4, 5], [4, 5, 6], [4, 5, 6, 7], [4, 5, 6, 7, 8], [], [], [10, 11], [10, 11, 12], [10, 11, 12, 13], [10, 11, 12, 13, 14], [0, 1, 2, 3, 4, 5, 6, 7, 8, 9, 10, 11, 12, 13, 14, 15]] ([rrC b p, (gb, Obj.cells cells 25 (0, 0)), (gb2, Obj.cells cells2 3 (0, 0))]) (by kernel_rfl) (by kernel_rfl) zAtt ((hsub _)) ?_
    refine pzU ?_
    apply pl_e
    · exact e_call0 rfl rfl (Fn.mvN fun F => As.rassign_any p.n (As.addP N o.pl).2.2 o.pl o.rt F (hfit.add o.pl) (fun n' hn' => by have := hg1 n' hn'; omega))
    · rfl
    · rfl
    · rfl
    · rintro _ _ ⟨_, rfl⟩; exact hsub _
    rintro _ _ ⟨rfl, rfl⟩
    refine pzU ?_
    refine gzU ?_
    refine k_next (i + 1) ⟨by omega, ?_⟩ (by omega) ⟨rfl, rfl, rfl, rfl, rfl, rfl, trivial⟩ (by rw [eN]; exact .refl)
    rw [eN]
    exact ⟨hR.mem, hR.co, hR.ar, hR.an, hR.ho, hR.inv.mono (by omega), giv_asg hg1 o.pl o.rt, (hfit.add o.pl).assign o.pl o.rt (fun n' hn' => by have := hg1 n' hn'; omega), hR.th, hR.ta, Nat.le_trans hR.tl (by omega), hR.qu, Nat.le_trans hR.ql (by omega), hR.en, Nat.le_trans hR.el (by omega), hR.cu, hR.c1⟩
  have hiT : i = os.length := by omega
  rw [hiT] at hR hm0 ⊢
  refine gzU ?_
  exact p_weak (fr' := [(1, pV b1), (5, pV b), (8, .slice (some ⟨gb, 0, none⟩) os.length cap), (17, .int .i64 e), (22, vT)]) ⟨rfl, rfl, rfl, rfl, rfl, trivial⟩ .refl (k hR)
def shR (H : HS) (os : List OwT) (sh : Bool) (e : Int) : HS := if sh = true then shareH H os e else H
theorem ks1 (b : Nat) (p : RP) (s : RL) (N : As.ASt) (c : Chunk) (G : List Chunk) : Keep (c :: allR b p s N G) (allR b p s N (c :: G)) := by unfold allR; exact keep_ac []
theorem ks2 (b : Nat) (p : RP) (s : RL) (N : As.ASt) (c : Chunk) (G : List Chunk) : Keep (allR b p s N (c :: G)) (allR b p s N G) := by unfold allR; exact keep_ac [c]
set_option maxHeartbeats 4000000 in
theorem rn_S {E : World} {Q : Exit → Act → World → Prop} {ds : List Deferred} {fn : Func} {c : Code} (hf : Tryz.prog.funcs[6]? = some fn) (hc : fn.body = some c) (F C T n : Nat) (sh : Bool) (hT1 : 1 ≤ T) (hT : T ≤ 3) (hn : n ≤ 800) (e : Int) (vT : Value) (b1 b : Nat) (p : RP) (s : RL) (R : RT) (hR : IsRR F C n R [] p s) (os : List OwT) (hos : os.length = T) (gb cap : Nat) (cells : Array Value) (G : List Chunk) (hG : IdsIn G os gb cells) (hmZ : ccC b1 F C T sh ∈ G)
    (k : ∀ s', IsRR F C (n + 7) { R with H := shR R.H os sh e } [] p s' → PostS fn.ntmps E Q .normal [(1, pV b1), (5, pV b), (8, .slice (some ⟨gb, 0, none⟩) T cap), (22, vT)] ds (allR b p s' R.N G)) :
    CodeS Tryz.prog none fn.ntmps E (hed (aft 13 c)) Q [(1, pV b1), (5, pV b), (8, .slice (some ⟨gb, 0, none⟩) T cap), (17, .int .i64 e), (22, vT)] ds (allR b p s R.N G) := by
  obtain rfl := Option.some.inj (hf.symm.trans Tryz.func6)
  obtain rfl := Option.some.inj hc
  simp only [Tryz.func6, Tryz.ntmps6, aft, hed] at k ⊢
  subst hos
  have memG : ∀ (s : RL) (G' : List Chunk) (c : Chunk), c ∈ G' → c ∈ allR b p s R.N G' := fun s G' c hc => by rw [allR_app]; simp [hc]
  have mr : ∀ s G', rrC b p ∈ allR b p s R.N G' := fun s G' => .head _
  have hm0 := memG s G _ hmZ
  cases sh with
  | false =>
    refine gzU ?_
    exact p_weak (fr' := [(1, pV b1), (5, pV b), (8, .slice (some ⟨gb, 0, none⟩) os.length cap), (22, vT)]) ⟨rfl, rfl, rfl, rfl, trivial⟩ .refl (k s (hR.mono (by omega)))
  | true =>
  obtain ⟨o0, ot, rfl⟩ : ∃ o ot, os = o :: ot := by
    cases os with
    | nil => exact absurd hT1 (by decide)
    | cons o ot => exact ⟨o, ot, rfl⟩
  obtain ⟨gz, capz, cellz, hzl, -, hgz, hgetz⟩ := hG.r 0 o0 rfl
  have y0 := hzl 0 rfl
  have y1 := hgetz 1 1 o0.nd rfl rfl
  have mz := memG s G _ hgz
  have mg := memG s G _ hG.m
  refine gzU ?_
  refine t_e e_alloc rfl rfl rfl ?_; rintro _ _ ⟨b25, _, rfl, rfl⟩
  refine gzU ?_
  refine c_keep (l' := allR b p s R.N (slX b25 (o0.nd, 7) :: G)) (by dsimp only [slX, encT]; exact ks1 ..) ?_
  obtain ⟨M, C0, A, H, T, Q0, E0, V⟩ := s
  obtain ⟨hmem, hco, har, han, hho, hinv, hgiv, hfit, hth, hta, htl, hqu, hql, hen, hel, hcu, hc1⟩ := hR
  simp only at hmem hco har hho hth hqu hen hcu
  have hsub1 : ∀ X c, c ∈ [rrC b p, slX b25 (o0.nd, 7)] → c ∈ allR b p ⟨M, C0, A, X, T, Q0, E0, V⟩ R.N (slX b25 (o0.nd, 7) :: G) := fun X c hc => by
    simp only [List.mem_cons, List.not_mem_nil, or_false] at hc
    rcases hc with rfl | rfl
    · exact .head _
    · exact memG _ _ _ (.head _)
  refine c_draw [(0, true), (1, true), (2, true), (3, true), (4, true), (5, true), (6, true), (7, false)] [[], [0], [0, 1], [0, 1, 2], [], [], [5], [0, 1, 2, 3, 4, 5, 6]] ([rrC b p, slX b25 (o0.nd, 7)]) (by kernel_rfl) (by kernel_rfl) zAtt ((hsub1 _)) ?_
  refine pzU ?_
  apply pl_e
  · exact e_call0 rfl rfl (Fn.mvP (fun X => allR b p ⟨M, C0, A, X, T, Q0, E0, V⟩ R.N (slX b25 (o0.nd, 7) :: G)) (rhroot_any p.h R.H n hinv (by omega) H hho (o0.nd, 7) (capE e) (capE_w e) _) (fun X => pmH ..))
  · rfl
  · rfl
  · rfl
  · rintro _ _ ⟨_, X, _, rfl⟩; exact hsub1 X
  rintro _ _ ⟨rfl, lH1, hq1, rfl⟩
  refine pzU ?_
  obtain ⟨H1, hH1⟩ : ∃ x, x = (rootH R.H (o0.nd, 7) (capE e)).2 := ⟨_, rfl⟩
  have hI1 : InvH H1 (n + 1) := by rw [hH1]; exact InvH.root hinv _ _ (capE_w _)
  rw [← hH1] at hq1
  refine gzU ?_
  refine k_loop (α := Nat × List Chunk) (fun x => [(1, pV b1), (5, pV b), (8, .slice (some ⟨gb, 0, none⟩) (o0 :: ot).length cap), (22, vT), (25, pV b25), (26, .int .i64 x.1)]) (fun x => allR b p ⟨M, C0, A, x.2, T, Q0, E0, V⟩ R.N (slX b25 (o0.nd, 7) :: G))
    (fun x => 1 ≤ x.1 ∧ x.1 ≤ (o0 :: ot).length ∧ IsRH p.h (shK o0.nd (o0 :: ot) H1 x.1) x.2) (fun x => (o0 :: ot).length - x.1) (1, lH1) ⟨Nat.le_refl _, by simp, hq1⟩ ⟨rfl, rfl, rfl, rfl, rfl, rfl, trivial⟩ .refl ?_
  rintro ⟨i, lH⟩ ⟨hi1, hi, hq⟩
  simp only at hi1 hi hq ⊢
  have hm1 := memG ⟨M, C0, A, lH, T, Q0, E0, V⟩ _ _ (List.mem_cons_of_mem (slX b25 (o0.nd, 7)) hmZ)
  by_cases hlt : i < (o0 :: ot).length
  · obtain ⟨o, ho⟩ : ∃ o, (o0 :: ot)[i]? = some o := ⟨_, List.getElem?_eq_getElem hlt⟩
    obtain ⟨gb2, cap2, cells2, -, hz, hg2, hget⟩ := hG.r i o ho
    have z1 := hget 1 1 o.nd rfl rfl
    have z0 := hget 0 0 o.th rfl rfl
    have hI : InvH (shK o0.nd (o0 :: ot) H1 i) (n + 1 + 2 * i) := hI1.shK _ _ _
    obtain ⟨K, hK⟩ : ∃ K, K = shK o0.nd (o0 :: ot) H1 i := ⟨_, rfl⟩
    have e1 : shK o0.nd (o0 :: ot) H1 (i + 1) = shH K o0.nd i o := by
      show (if i = 0 then _ else _) = _
      rw [if_neg (by omega), List.getD, ho, Option.getD_some, hK]
    rw [← hK] at hI hq
    have hsub2 : ∀ X c, c ∈ [rrC b p, slX b25 (o0.nd, 7), (gb, Obj.cells cells 25 (0, 0)), (gb2, Obj.cells cells2 3 (0, 0))] → c ∈ allR b p ⟨M, C0, A, X, T, Q0, E0, V⟩ R.N (slX b25 (o0.nd, 7) :: G) := fun X c hc => by
      simp only [List.mem_cons, List.not_mem_nil, or_false] at hc
      rcases hc with rfl | rfl | rfl | rfl
      · exact .head _
      · exact memG _ _ _ (.head _)
      · exact memG _ _ _ (.tail _ hG.m)
      · exact memG _ _ _ (.tail _ hg2)
    refine gzU ?_
    refine c_draw [(0, true), (1, true), (2, true), (3, true), (4, true), (5, true), (6, true), (7, true), (8, true), (9, true), (10, true), (11, true), (12, true), (13, true), (14, true), (15, false)] [[], [0], [0, 1], [0, 1, 2], [], [], [], [5, 6], [5, 6, 7], [5, 6, 7, 8], [5, 6, 7, 8, 9], [5, 6, 7, 8, 9, 10], [], [12], [12, 13], [0, 1, 2, 3, 4, 5, 6, 7, 8, 9, 10, 11, 12, 13, 14]] ([rrC b p, slX b25 (o0.nd, 7), (gb, Obj.cells cells 25 (0, 0)), (gb2, Obj.cells cells2 3 (0, 0))]) (by kernel_rfl) (by kernel_rfl) zAtt ((hsub2 _)) ?_
    refine pzU ?_
    apply pl_e
    · exact e_call0 rfl rfl (Fn.mvP (fun X => allR b p ⟨M, C0, A, X, T, Q0, E0, V⟩ R.N (slX b25 (o0.nd, 7) :: G)) (rhmint_any p.h K _ hI (by omega) lH hq (o0.nd, 7) (o.nd, 7) 7 (i + 1) (by omega) _) (fun X => pmH ..))
    · rfl
    · rfl
    · rfl
    · rintro _ _ ⟨_, X, _, rfl⟩; exact hsub2 X
    rintro _ _ ⟨rfl, lM1, hm1', rfl⟩
    refine pzU ?_
    refine gzU ?_
    have hI' := hI.der (o0.nd, 7) (o.nd, 7) (mintC (atD K.1 (o0.nd, 7)) 7 (i + 1)) (mint_w (hI.at _).2 _ _)
    refine c_draw [(0, true), (1, true), (2, true), (3, true), (4, true), (5, true), (6, true), (7, true), (8, true), (9, true), (10, true), (11, true), (12, true), (13, true), (14, true), (15, false)] [[], [0], [0, 1], [0, 1, 2], [], [], [], [5, 6], [5, 6, 7], [5, 6, 7, 8], [5, 6, 7, 8, 9], [5, 6, 7, 8, 9, 10], [], [12], [12, 13], [0, 1, 2, 3, 4, 5, 6, 7, 8, 9, 10, 11, 12, 13, 14]] ([rrC b p, slX b25 (o0.nd, 7), (gb, Obj.cells cells 25 (0, 0)), (gb2, Obj.cells cells2 3 (0, 0))]) (by kernel_rfl) (by kernel_rfl) zAtt ((hsub2 _)) ?_
    refine pzU ?_
    apply pl_e
    · exact e_call0 rfl rfl (Fn.mvP (fun X => allR b p ⟨M, C0, A, X, T, Q0, E0, V⟩ R.N (slX b25 (o0.nd, 7) :: G)) (rhmint_any p.h _ _ hI' (by omega) lM1 hm1' (o0.nd, 7) (o.th, 2) 7 (101 + i) (by omega) _) (fun X => pmH ..))
    · rfl
    · rfl
    · rfl
    · rintro _ _ ⟨_, X, _, rfl⟩; exact hsub2 X
    rintro _ _ ⟨rfl, lM2, hm2', rfl⟩
    refine pzU ?_
    refine gzU ?_
    refine k_next (i + 1, lM2) ⟨by simp only; omega, by simp only; omega, ?_⟩ (by simp only; omega) ⟨rfl, rfl, rfl, rfl, rfl, rfl, trivial⟩ .refl
    show IsRH p.h (shK o0.nd (o0 :: ot) H1 (i + 1)) lM2
    rw [e1]
    exact hm2'
  have hiT : i = (o0 :: ot).length := by omega
  rw [hiT] at hq
  refine gzU ?_
  have hL : shR R.H (o0 :: ot) true e = shK o0.nd (o0 :: ot) H1 (o0 :: ot).length := by
    show shK o0.nd (o0 :: ot) (rootH R.H (o0.nd, 7) (capE e)).2 _ = _
    rw [← hH1]
  have hI : InvH (shK o0.nd (o0 :: ot) H1 (o0 :: ot).length) (n + 1 + 2 * (o0 :: ot).length) := hI1.shK _ _ _
  rw [hL] at k
  exact p_weak (fr' := [(1, pV b1), (5, pV b), (8, .slice (some ⟨gb, 0, none⟩) (o0 :: ot).length cap), (22, vT)]) ⟨rfl, rfl, rfl, rfl, trivial⟩ (ks2 ..) (k ⟨M, C0, A, lH, T, Q0, E0, V⟩ ⟨hmem, hco, har, han, hq, hI.mono (by omega), fun j hj => by have := hgiv j hj; simp only; omega, hfit, hth, hta, by simp only; omega, hqu, by simp only [List.length_nil]; omega, hen, by simp only; omega, hcu, hc1⟩)
def goL (R : RT) (os : List OwT) : Nat → List (Int × Int)
  | 0 => []
  | k + 1 => readyL (goL R os k) (os.getD k ow0).th ((Th.findH (prioR (goF R os k) (os.getD k ow0).th).T (os.getD k ow0).th).getD Th.thZ).pr
theorem goF_N (R : RT) (os : List OwT) : ∀ k, (goF R os k).N = R.N
  | 0 => rfl
  | k + 1 => by
    rw [goF]
    unfold readyR
    split
    · exact goF_N R os k
    · exact goF_N R os k
theorem IsRR.q {F C k : Nat} {R : RT} {L : List (Int × Int)} {p : RP} {s : RL} (h : IsRR F C k R L p s) (X : Nat → List Int) : IsRR F C k { R with Q := X } L p s :=
  ⟨h.mem, h.co, h.ar, h.an, h.ho, h.inv, h.giv, h.fit, h.th, h.ta, h.tl, h.qu, h.ql, h.en, h.el, h.cu, h.c1⟩
theorem ks3 (b : Nat) (p : RP) (s : RL) (N : As.ASt) (c : Chunk) (X G : List Chunk) : Keep (allR b p s N (c :: (X ++ G))) (allR b p s N ((c :: X) ++ G)) := .refl
theorem ks4 (b : Nat) (p : RP) (s : RL) (N : As.ASt) (X G : List Chunk) : Keep (allR b p s N (X ++ G)) (allR b p s N G) := by unfold allR; exact keep_ac X
set_option maxHeartbeats 4000000 in
theorem rn_G {E : World} {Q : Exit → Act → World → Prop} {ds : List Deferred} {fn : Func} {c : Code} (hf : Tryz.prog.funcs[6]? = some fn) (hc : fn.body = some c) (F C T n : Nat) (sh : Bool) (hT1 : 1 ≤ T) (hT : T ≤ 3) (hn : n ≤ 800) (b1 b : Nat) (p : RP) (s : RL) (R : RT) (hR : IsRR F C n R [] p s) (os : List OwT) (hos : os.length = T) (vT : Value) (cT G : List Chunk) (hvT : OwnSl 3 1 vT T ((os.map OwT.th).map intQ) cT) (hcT : ∀ c, c ∈ cT → c ∈ G) (hmZ : ccC b1 F C T sh ∈ G)
    (hfd : ∀ i o, os[i]? = some o → (Th.findH (prioR (goF R os i) o.th).T o.th).isSome = true)
    (k : ∀ s', IsRR F C (n + T) (goF R os T) (goL R os T) p s' → PostS fn.ntmps E Q .normal [(1, pV b1), (5, pV b), (22, vT)] ds (allR b p s' R.N G)) :
    CodeS Tryz.prog none fn.ntmps E (hed (aft 14 c)) Q [(1, pV b1), (5, pV b), (22, vT)] ds (allR b p s R.N G) := by
  obtain rfl := Option.some.inj (hf.symm.trans Tryz.func6)
  obtain rfl := Option.some.inj hc
  simp only [Tryz.func6, Tryz.ntmps6, aft, hed] at k ⊢
  subst hos
  obtain ⟨gt, cap, sp, rfl, rfl, hcell⟩ := hvT.cell1 hT1
  have hgt := hcT _ (.head _)
  obtain ⟨cells, hcs⟩ : ∃ cells, cells = List.toArray ((os.map OwT.th).map intQ ++ sp) := ⟨_, rfl⟩
  have hcell' : ∀ i o, os[i]? = some o → cells[i * 1]? = some (.int .i64 o.th) := fun i o hi => by
    rw [hcs, (hcell i (.int .i64 0) (List.getElem?_eq_some_iff.1 hi).1).2.1, List.getElem?_map, List.getElem?_map, hi]; rfl
  rw [← hcs] at hgt
  clear hcell hcT hvT hcs
  have memG : ∀ (s : RL) (G' : List Chunk) (c : Chunk), c ∈ G' → c ∈ allR b p s R.N G' := fun s G' c hc => by rw [allR_app]; simp [hc]
  refine gzU ?_
  refine k_loop (α := Nat × RL × List Chunk) (fun x => [(1, pV b1), (5, pV b), (22, .slice (some ⟨gt, 0, none⟩) os.length cap), (27, .int .i64 x.1)]) (fun x => allR b p x.2.1 R.N (x.2.2 ++ G))
    (fun x => x.1 ≤ os.length ∧ IsRR F C (n + x.1) (goF R os x.1) (goL R os x.1) p x.2.1) (fun x => os.length - x.1) (0, s, []) ⟨Nat.zero_le _, hR⟩ ⟨rfl, rfl, rfl, rfl, trivial⟩ .refl ?_
  clear hR
  rintro ⟨i, s, X⟩ ⟨hi, hR⟩
  simp only at hi hR ⊢
  have hm0 := memG s (X ++ G) _ (List.mem_append_right X hmZ)
  by_cases hlt : i < os.length
  · obtain ⟨o, hio⟩ : ∃ o, os[i]? = some o := ⟨_, List.getElem?_eq_getElem hlt⟩
    have eo : os.getD i ow0 = o := by rw [List.getD, hio, Option.getD_some]
    have hz := hcell' i o hio
    have hfd1 := hfd i o hio
    have e1 : goF R os (i + 1) = readyR (prioR (goF R os i) o.th) o.th := by rw [goF, eo]
    have e2 : goL R os (i + 1) = readyL (goL R os i) o.th ((Th.findH (prioR (goF R os i) o.th).T o.th).getD Th.thZ).pr := by rw [goL, eo]
    have eN := goF_N R os i
    obtain ⟨R1, hR1⟩ : ∃ R1, R1 = goF R os i := ⟨_, rfl⟩
    obtain ⟨L1, hL1⟩ : ∃ L1, L1 = goL R os i := ⟨_, rfl⟩
    rw [← hR1] at hR e1 e2 eN hfd1
    rw [← hL1] at hR e2
    obtain ⟨M, C0, A, H, T, Q0, E0, V⟩ := s
    have htl := hR.tl
    have hta := hR.ta
    have hth := hR.th
    simp only at hth
    have hsub : ∀ c, c ∈ rrC b p :: (gt, Obj.cells cells 3 (0, 0)) :: T → c ∈ allR b p ⟨M, C0, A, H, T, Q0, E0, V⟩ R.N (X ++ G) := fun c hc => by
      rcases List.mem_cons.1 hc with rfl | hc
      · exact .head _
      rcases List.mem_cons.1 hc with rfl | hc
      · exact memG _ _ _ (List.mem_append_right X hgt)
      · unfold allR; simp [hc]
    refine gzU ?_
    refine c_draw [(0, true), (1, true), (2, true), (3, true), (4, true), (5, true), (6, true), (7, true), (8, true), (9, true), (10, true), (11, true), (12, false), (13, false), (14, true)] [[], [0], [0, 1], [0, 1, 2], [], [], [4, 5], [4, 5, 6], [0, 1, 2, 3, 4, 5, 6, 7], [0, 1, 2, 3, 4, 5, 6, 7, 8], [0, 1, 2, 3, 4, 5, 6, 7, 8, 9], [0, 1, 2, 3, 4, 5, 6, 7, 8, 9], [], [0, 1, 2, 3, 4, 5, 6, 7, 8, 9, 10, 12], [0, 1, 2, 3, 4, 5, 6, 7, 8, 9, 10, 11, 12, 13]] (rrC b p :: (gt, Obj.cells cells 3 (0, 0)) :: T) (by kernel_rfl) (by kernel_rfl) zAtt (hsub) ?_
    refine pzU ?_
    apply pl_q
    · exact q_call rfl rfl (fun l2 hl => Th.rget_any p.t R1.T T hth (by omega) o.th l2 fun c hc => hl _ (.tail _ (.tail _ hc)))
    · rfl
    · rfl
    · rfl
    obtain ⟨t, ht⟩ : ∃ t, t = (Th.findH R1.T o.th).getD Th.thZ := ⟨_, rfl⟩
    rw [← ht]
    refine pzU ?_
    apply pl_e
    · exact e_alloc
    · rfl
    · rfl
    · rfl
    · rintro _ _ ⟨b5, _, _, rfl⟩ c hc; exact .tail _ (hsub c hc)
    rintro _ _ ⟨b28, _, rfl, rfl⟩
    apply pl_n
    · exact e_storeLA (cs' := Th.encH t) rfl rfl rfl (by simp [Value.oneCell']) (.head _) (by repeat (first | apply LSetA.done | apply LSetA.put)) .here
    · rfl
    · rfl
    · rintro _ _ ⟨_, rfl⟩ c hc; exact .tail _ (hsub c hc)
    rintro _ _ ⟨rfl, rfl⟩
    refine pzU ?_
    refine gzU ?_
    obtain ⟨t1, ht1⟩ : ∃ t1, t1 = { t with pr := 1 } := ⟨_, rfl⟩
    refine c_keep (l' := allR b p ⟨M, C0, A, H, T, Q0, E0, V⟩ R.N (Th.thC b28 t1 :: (X ++ G))) (by rw [ht1]; exact ks1 ..) ?_
    have hsub2 : ∀ T c, c ∈ [rrC b p, Th.thC b28 t1] → c ∈ allR b p ⟨M, C0, A, H, T, Q0, E0, V⟩ R.N (Th.thC b28 t1 :: (X ++ G)) := fun T c hc => by
      simp only [List.mem_cons, List.not_mem_nil, or_false] at hc
      rcases hc with rfl | rfl
      · exact .head _
      · exact memG _ _ _ (.head _)
    refine c_draw [(0, true), (1, true), (2, true), (3, true), (4, true), (5, false)] [[], [0], [0, 1], [0, 1, 2], [], [0, 1, 2, 3, 4]] ([rrC b p, Th.thC b28 t1]) (by kernel_rfl) (by kernel_rfl) zAtt ((hsub2 T)) ?_
    refine pzU ?_
    apply pl_e
    · exact e_call0 rfl rfl (Fn.mvP (fun X0 => allR b p ⟨M, C0, A, H, X0, Q0, E0, V⟩ R.N (Th.thC b28 t1 :: (X ++ G))) (Th.rset_any p.t R1.T T hth (by omega) hta t1 _) (fun X0 => pmT ..))
    · rfl
    · rfl
    · rfl
    · rintro _ _ ⟨_, X0, _, rfl⟩; exact hsub2 X0
    rintro _ _ ⟨rfl, lT, hT2, rfl⟩
    refine pzU ?_
    have hm3 := memG ⟨M, C0, A, H, lT, Q0, E0, V⟩ (Th.thC b28 t1 :: (X ++ G)) _ (.tail _ (List.mem_append_right X hgt))
    have epr : prioR R1 o.th = { R1 with T := (Th.setD R1.T t1).2 } := by rw [ht1, ht]; rfl
    obtain ⟨hp1, hp2⟩ := th_put hta t1
    have hR2 : IsRR F C (n + i) (prioR R1 o.th) L1 p ⟨M, C0, A, H, lT, Q0, E0, V⟩ := by
      rw [epr]
      exact ⟨hR.mem, hR.co, hR.ar, hR.an, hR.ho, hR.inv, hR.giv, hR.fit, hT2, hp1, by simp only; omega, hR.qu, hR.ql, hR.en, hR.el, hR.cu, hR.c1⟩
    obtain ⟨t2, ht2⟩ := Option.isSome_iff_exists.1 hfd1
    have eN2 : (prioR R1 o.th).N = R.N := eN
    rw [ht2, Option.getD_some] at e2
    have e3 : readyR (prioR R1 o.th) o.th = { prioR R1 o.th with T := (Th.setD (prioR R1 o.th).T { t2 with st := 1 }).2, Q := (Qu.addQ (prioR R1 o.th).Q o.th t2.pr).2 } := by unfold readyR; rw [ht2]
    refine gzU ?_
    refine t_e (e_call0 rfl rfl (by have h := rstate_any F C (n + i) _ L1 b p _ hR2 (by omega) o.th t2 ht2 (Th.thC b28 t1 :: (X ++ G)); rw [eN2] at h; exact h)) rfl rfl rfl ?_
    rintro _ _ ⟨rfl, s1, hR3, rfl⟩
    refine gzU ?_
    refine k_next (i + 1, s1, Th.thC b28 t1 :: X) ⟨by simp only; omega, ?_⟩ (by simp only; omega) ⟨rfl, rfl, rfl, rfl, trivial⟩ (ks3 ..)
    simp only
    rw [e1, e2, e3]
    rw [← eN2] at hR3
    exact hR3.q _
  have hiT : i = os.length := by omega
  rw [hiT] at hR
  refine gzU ?_
  exact p_weak (fr' := [(1, pV b1), (5, pV b), (22, .slice (some ⟨gt, 0, none⟩) os.length cap)]) ⟨rfl, rfl, rfl, trivial⟩ (ks4 ..) (k s hR)
set_option maxHeartbeats 1000000 in
theorem rmay30_any (F C T : Int) (sh : Bool) (l : List Chunk) : Fn Tryz.prog 9 [.agg (List.toArray [.int .i64 F, .int .i64 C, .int .i64 T, .bool sh])] l fun v l' => v = .bool (mayB F C T) ∧ l' = l := by
  refine fn_of_body Tryz.func9 rfl rfl fun E => ?_
  simp only [argF, Tryz.ntmps9]
  refine gzU ?_
  refine t_e (e_boxA rfl) rfl rfl rfl ?_
  rintro _ _ ⟨b1, _, rfl, rfl⟩
  refine gzU ?_
  by_cases h0 : 1 ≤ T
  case neg =>
    refine gzU ?_
    exact k_ret [] rfl (l' := l) (.drop .refl) (by exact zRes) ⟨by simp [mayB, tup, h0], rfl⟩
  by_cases h1 : T ≤ 3
  case neg =>
    refine gzU ?_
    exact k_ret [] rfl (l' := l) (.drop .refl) (by exact zRes) ⟨by simp [mayB, tup, h0, h1], rfl⟩
  by_cases h2 : 1 ≤ C
  case neg =>
    refine gzU ?_
    exact k_ret [] rfl (l' := l) (.drop .refl) (by exact zRes) ⟨by simp [mayB, tup, h0, h1, h2], rfl⟩
  by_cases h3 : C ≤ 3
  case neg =>
    refine gzU ?_
    exact k_ret [] rfl (l' := l) (.drop .refl) (by exact zRes) ⟨by simp [mayB, tup, h0, h1, h2, h3], rfl⟩
  by_cases h4 : 11 * T ≤ F
  case neg =>
    refine gzU ?_
    exact k_ret [] rfl (l' := l) (.drop .refl) (by exact zRes) ⟨by simp [mayB, tup, h0, h1, h2, h3, h4], rfl⟩
  by_cases h5 : F ≤ 64
  case neg =>
    refine gzU ?_
    exact k_ret [] rfl (l' := l) (.drop .refl) (by exact zRes) ⟨by simp [mayB, tup, h0, h1, h2, h3, h4, h5], rfl⟩
  refine gzU ?_
  exact k_ret [] rfl (l' := l) (.drop .refl) (by exact zRes) ⟨by simp [mayB, tup, h0, h1, h2, h3, h4, h5], rfl⟩
theorem r30_no (F C T : Int) (sh : Bool) (h : mayB F C T = false) (l : List Chunk) : Fn Tryz.prog 6 [.agg (List.toArray [.int .i64 F, .int .i64 C, .int .i64 T, .bool sh])] l fun v l' => v = .tuple #[.pointer none, .slice none 0 0, .int .i64 3] ∧ l' = l := by
  refine fn_of_body Tryz.func6 rfl rfl fun E => ?_
  simp only [argF, Tryz.ntmps6]
  refine gzU ?_
  refine t_e (e_boxA rfl) rfl rfl rfl ?_
  rintro _ _ ⟨b1, _, rfl, rfl⟩
  refine gzU ?_
  refine t_q (q_call rfl rfl (fun l hl => rmay30_any F C T sh l)) rfl rfl rfl ?_
  rw [h]
  refine gzU ?_
  exact k_ret [] rfl (l' := l) (.drop .refl) (by exact zRes) ⟨rfl, rfl⟩
def endE (F T : Nat) (sh : Bool) : Int := if sh = true then (makeR (mkL F (quads T)).1 8 0 (7 * (T : Int))).1.1 else 0
theorem endE_eq {F T : Nat} (sh : Bool) (hT1 : 1 ≤ T) (hT : T ≤ 3) (hF : 11 * T ≤ F) (hF2 : F ≤ 64) : endE F T sh = bootS F T sh := by
  cases sh with
  | false => rfl
  | true =>
    show _ = (bootI F T true).getD (4 * T) 0
    unfold bootI
    rw [things_eq true hT1 hT hF hF2, ← List.append_assoc]
    obtain ⟨m, em⟩ := mkL_ext F (quads T ++ endT T true) (unts T true (untF F T true) T)
    rw [em]
    have e1 : mkL F (quads T ++ endT T true) = mkF (mkL F (quads T)) (8, 0, 7 * (T : Int)) := mkL_snoc F (quads T) _
    rw [e1, mkF_at]
    have hl : (mkL F (quads T)).2.length = 4 * T := by rw [mkL_len, quads_len]
    rw [List.getD, List.getElem?_append_left (by rw [List.length_append, hl]; simp), List.getElem?_append_right (by omega), hl, Nat.sub_self]
    rfl
structure Ok30 (F T : Nat) (sh : Bool) : Prop where
  rows : rowsU F T sh (untF F T sh) T = (bootO F T sh).map owI
  fd : ∀ i o, (bootO F T sh)[i]? = some o → (Th.findH (prioR (goF (bootB F T sh) (bootO F T sh) i) o.th).T o.th).isSome = true
  f0 : Th.findH (bootR F T sh).T 0 = none
theorem untF_rng {F T : Nat} (sh : Bool) (hT1 : 1 ≤ T) (hT : T ≤ 3) (hF : 11 * T ≤ F) (hF2 : F ≤ 64) : 1 ≤ untF F T sh ∧ untF F T sh ≤ 64 := by
  unfold untF
  obtain rfl | rfl | rfl : T = 1 ∨ T = 2 ∨ T = 3 := by omega
  all_goals cases sh
  all_goals simp only [Bool.toNat_true, Bool.toNat_false]
  all_goals omega
theorem bootA_eq (F T : Nat) (sh : Bool) : bootA F T sh = { (mkL F (thingsL F T sh)).1 with H := layHF (mkL F (thingsL F T sh)).1.H (bootO F T sh) T, N := layNF (mkL F (thingsL F T sh)).1.N (bootO F T sh) T } := layF_eq _ _ _
theorem bootB_eq (F T : Nat) (sh : Bool) : bootB F T sh = { bootA F T sh with H := shR (bootA F T sh).H (bootO F T sh) sh (bootS F T sh) } := by
  unfold bootB shR
  split <;> rfl
set_option maxHeartbeats 4000000 in
theorem r30_ok (F C T : Nat) (sh : Bool) (hT1 : 1 ≤ T) (hT : T ≤ 3) (hC1 : 1 ≤ C) (hC : C ≤ 3) (hF : 11 * T ≤ F) (hF2 : F ≤ 64) (ok : Ok30 F T sh) (G : List Chunk) : Fn Tryz.prog 6 [.agg (List.toArray [.int .i64 F, .int .i64 C, .int .i64 T, .bool sh])] G fun v l' => ∃ b vT p s cT, v = .tuple #[pV b, vT, .int .i64 0] ∧ IsRR F C 60 (bootR F T sh) (goL (bootB F T sh) (bootO F T sh) T) p s ∧ OwnSl 3 1 vT T (((bootO F T sh).map OwT.th).map intQ) cT ∧ l' = allR b p s (bootR F T sh).N (cT ++ G) := by
  have hmay : mayB F C T = true := by simp [mayB]; omega
  have hsh : sh.toNat ≤ 1 := by cases sh <;> decide
  have hte := things_eq (F := F) sh hT1 hT hF hF2
  have hur := untF_rng (F := F) sh hT1 hT hF hF2
  refine fn_of_body Tryz.func6 rfl rfl fun E => ?_
  simp only [argF, Tryz.ntmps6]
  refine gzU ?_
  refine t_e (e_boxA rfl) rfl rfl rfl ?_
  rintro _ _ ⟨b1, _, rfl, rfl⟩
  refine gzU ?_
  refine t_q (q_call rfl rfl (fun l hl => rmay30_any F C T sh l)) rfl rfl rfl ?_
  rw [hmay]
  refine gzU ?_
  refine t_e (e_call0 rfl rfl (rrnew_any F C ⟨by omega, by omega⟩ ⟨by omega, by omega⟩ _)) rfl rfl rfl ?_
  rintro _ _ ⟨b, p, s0, X0, rfl, hR0, rfl⟩
  iterate 18 refine gzSU ?_
  refine c_sub (fr' := [(1, pV b1), (5, pV b), (7, .int .i64 0), (8, .slice none 0 0)]) ⟨rfl, rfl, rfl, rfl, trivial⟩ (rn_A Tryz.func6 rfl F C T sh hT1 hT b1 b p s0 hR0 _ (List.mem_append_right X0 (.head _)) ?_)
  clear hR0 s0
  intro s vO vals cO CI hR hO hI
  obtain ⟨Z, hZ⟩ : ∃ Z, Z = X0 ++ ccC b1 F C T sh :: G := ⟨_, rfl⟩
  have hmZ : ccC b1 F C T sh ∈ Z := by rw [hZ]; exact List.mem_append_right X0 (.head _)
  rw [← hZ]
  have hvO := hO.one
  iterate 6 refine gzSU ?_
  refine c_join (α := RL) (fun _ => [(1, pV b1), (5, pV b), (7, .int .i64 (7 * (T : Int) + sh.toNat)), (8, vO), (17, .int .i64 (endE F T sh))]) (fun s => allR b p s As.ASt.zero (cO ++ (CI ++ Z))) (fun s => IsRR F C (4 * T + sh.toNat) (mkL F (quads T ++ endT T sh)).1 [] p s) ?_ ?_
  · have hm0 : ccC b1 F C T sh ∈ allR b p s As.ASt.zero (cO ++ (CI ++ Z)) := by rw [allR_app]; simp [hmZ]
    cases sh with
    | false =>
      refine gzU ?_
      refine p_join s ?_ ⟨rfl, rfl, ?_, rfl, rfl, trivial⟩ .refl
      · show IsRR F C (4 * T) (mkL F (quads T ++ [])).1 [] p s
        rw [List.append_nil]; exact hR
      · show some (Value.int .i64 _) = some (Value.int .i64 _)
        simp
    | true =>
      refine gzU ?_
      have hN := mkL_N F (quads T)
      refine t_e (e_call0 rfl rfl (by have h := rmake8_any F C _ _ [] b p s hR (by omega) (7 * (T : Int)) (cO ++ (CI ++ Z)); rw [hN] at h; exact h)) rfl rfl rfl ?_
      rintro _ _ ⟨rfl, s1, hR1, rfl⟩
      refine gzU ?_
      refine p_join s1 ?_ ⟨rfl, rfl, ?_, rfl, rfl, trivial⟩ .refl
      · have e1 : mkL F (quads T ++ endT T true) = mkF (mkL F (quads T)) (8, 0, 7 * (T : Int)) := mkL_snoc F (quads T) _
        rw [e1, mkF_at]
        exact hR1
      · show some (Value.int .i64 _) = some (Value.int .i64 _)
        simp
  clear hR s
  intro s hR
  have hm0 : ccC b1 F C T sh ∈ allR b p s As.ASt.zero (cO ++ (CI ++ Z)) := by rw [allR_app]; simp [hmZ]
  iterate 13 refine gzSU ?_
  obtain ⟨os, hos⟩ : ∃ os, os = bootO F T sh := ⟨_, rfl⟩
  have hol : os.length = T := by rw [hos]; exact ownF_len _ _ _ (Nat.le_refl _)
  obtain ⟨R0, hR0⟩ : ∃ R0, R0 = (mkL F (quads T ++ (endT T sh ++ unts T sh (untF F T sh) T))).1 := ⟨_, rfl⟩
  have hN0 : R0.N = As.ASt.zero := by rw [hR0]; exact mkL_N _ _
  have hR0t : R0 = (mkL F (thingsL F T sh)).1 := by rw [hte]; exact hR0
  have hA : bootA F T sh = { R0 with H := layHF R0.H os T, N := layNF R0.N os T } := by rw [bootA_eq, hR0t, hos]
  have hB := bootB_eq F T sh
  have hRR : bootR F T sh = goF (bootB F T sh) os T := by rw [hos]; rfl
  have hrows := ok.rows
  have hfd := ok.fd
  have hf0 := ok.f0
  rw [← hos] at hB hrows hfd ⊢
  rw [endE_eq sh hT1 hT hF hF2]
  obtain ⟨e, he⟩ : ∃ e, e = bootS F T sh := ⟨_, rfl⟩
  rw [← he] at hB ⊢
  refine c_sub (fr' := [(1, pV b1), (5, pV b), (7, .int .i64 (7 * (T : Int) + sh.toNat)), (8, vO), (17, .int .i64 e), (18, .int .i64 (untF F T sh))]) ⟨rfl, rfl, rfl, rfl, rfl, rfl, trivial⟩ (rn_U Tryz.func6 rfl F C T sh hT1 hT (untF F T sh) e hur b1 b p s hR vO vals cO CI Z hO hI hmZ ?_)
  rw [← hR0]
  clear hR hm0 hO hI s vals cO CI
  intro s vals cO CI hR hO hI
  rw [hrows] at hI
  iterate 7 refine gzSU ?_
  refine c_keep (l' := allR b p s R0.N (cO ++ (CI ++ Z))) (by rw [hN0]; exact .refl) ?_
  refine c_sub (fr' := [(1, pV b1), (5, pV b), (8, vO), (17, .int .i64 e), (22, .slice none 0 0)]) ⟨rfl, rfl, rfl, rfl, rfl, trivial⟩ (rn_C Tryz.func6 rfl F C T _ sh hT1 hT (by omega) e b1 b p s R0 hR os hol vO vals cO CI Z hO hI hmZ ?_)
  clear hR s
  intro s vT cT hR hvT
  have hvT1 := hvT.one
  obtain ⟨G1, hG1⟩ : ∃ G1, G1 = cT ++ (cO ++ (CI ++ Z)) := ⟨_, rfl⟩
  obtain ⟨gb, cap, cells, rfl, hG⟩ := IdsIn.of (G := G1) (by omega) (by rw [hol]; exact hO) hI (fun c hc => by rw [hG1]; simp [hc]) (fun c hc => by rw [hG1]; simp [hc])
  have hcT : ∀ c, c ∈ cT → c ∈ G1 := fun c hc => by rw [hG1]; simp [hc]
  have hmG : ccC b1 F C T sh ∈ G1 := by rw [hG1]; simp [hmZ]
  have hkG : ∀ N s, Keep (allR b p s N G1) (allR b p s N (cT ++ G)) := fun N s => by
    rw [hG1, hZ]
    unfold allR
    exact keep_ac (cO ++ (CI ++ (X0 ++ [ccC b1 F C T sh])))
  rw [← hG1, hol]
  iterate 2 refine gzSU ?_
  refine c_sub (fr' := [(1, pV b1), (5, pV b), (8, .slice (some ⟨gb, 0, none⟩) T cap), (17, .int .i64 e), (22, vT)]) ⟨rfl, rfl, rfl, rfl, rfl, trivial⟩ (rn_D Tryz.func6 rfl F C T _ sh hT (by omega) e vT b1 b p s { R0 with H := layHF R0.H os T } hR os hol gb cap cells G1 hG hmG ?_)
  clear hR
  intro hR
  simp only at hR
  iterate 2 refine gzSU ?_
  have hRA : IsRR F C (4 * T + sh.toNat + T + 8 * T + T) (bootA F T sh) [] p s := by rw [hA]; exact hR.mono (by omega)
  have eNA : (bootA F T sh).N = layNF R0.N os T := by rw [hA]
  refine c_keep (l' := allR b p s (bootA F T sh).N G1) (by rw [eNA]; exact .refl) ?_
  refine c_sub (fr' := [(1, pV b1), (5, pV b), (8, .slice (some ⟨gb, 0, none⟩) T cap), (17, .int .i64 e), (22, vT)]) ⟨rfl, rfl, rfl, rfl, rfl, trivial⟩ (rn_S Tryz.func6 rfl F C T _ sh hT1 hT (by omega) e vT b1 b p s (bootA F T sh) hRA os hol gb cap cells G1 hG hmG ?_)
  clear hR hRA s
  intro s hR
  rw [← hB] at hR
  have eNB : (bootB F T sh).N = (bootA F T sh).N := by rw [hB]
  iterate 2 refine gzSU ?_
  refine c_keep (l' := allR b p s (bootB F T sh).N G1) (by rw [eNB]; exact .refl) ?_
  refine c_sub (fr' := [(1, pV b1), (5, pV b), (22, vT)]) ⟨rfl, rfl, rfl, trivial⟩ (rn_G Tryz.func6 rfl F C T _ sh hT1 hT (by omega) b1 b p s (bootB F T sh) hR os hol vT cT G1 hvT hcT hmG hfd ?_)
  clear hR s
  intro s hR
  rw [← hRR] at hR
  have eNR : (bootR F T sh).N = (bootB F T sh).N := by rw [hRR]; exact goF_N _ _ _
  refine p_keep (l' := allR b p s (bootR F T sh).N G1) (by rw [eNR]; exact .refl) ?_
  refine gzU ?_
  refine t_e (e_call0 rfl rfl (rsettle_any F C _ (bootR F T sh) _ b p s hR (by omega) hf0 G1)) rfl rfl rfl ?_
  rintro _ _ ⟨rfl, s1, hR1, rfl⟩
  refine gzU ?_
  refine k_ret [] rfl (l' := allR b p s1 (bootR F T sh).N (cT ++ G)) (hkG _ _) (by exact zRes) ⟨b, vT, p, s1, cT, rfl, hR1.mono (by omega), hvT, rfl⟩
set_option maxRecDepth 100000
def ok30B (F T : Nat) (sh : Bool) : Bool :=
  decide (rowsU F T sh (untF F T sh) T = (bootO F T sh).map owI) && ((List.range T).all fun i => (Th.findH (prioR (goF (bootB F T sh) (bootO F T sh) i) ((bootO F T sh).getD i ow0).th).T ((bootO F T sh).getD i ow0).th).isSome) && (Th.findH (bootR F T sh).T 0).isNone && decide (Qu.fsts (goL (bootB F T sh) (bootO F T sh) T) = quL (bootR F T sh).Q) && decide ((bootR F T sh).A.os.length ≤ 20)
theorem ok30_1 : ((List.range 65).all fun F => decide (F < 11 * 1) || (ok30B F 1 false && ok30B F 1 true)) = true := by decide +kernel
theorem ok30_2 : ((List.range 65).all fun F => decide (F < 11 * 2) || (ok30B F 2 false && ok30B F 2 true)) = true := by decide +kernel
theorem ok30_3 : ((List.range 65).all fun F => decide (F < 11 * 3) || (ok30B F 3 false && ok30B F 3 true)) = true := by decide +kernel
theorem ok30_all {F T : Nat} (sh : Bool) (hT1 : 1 ≤ T) (hT : T ≤ 3) (hF : 11 * T ≤ F) (hF2 : F ≤ 64) : ok30B F T sh = true := by
  have key : ∀ T, ((List.range 65).all fun F => decide (F < 11 * T) || (ok30B F T false && ok30B F T true)) = true → 11 * T ≤ F → ok30B F T sh = true := fun T h hF => by
    have h := List.all_eq_true.1 h F (List.mem_range.2 (by omega))
    simp only [Bool.or_eq_true, Bool.and_eq_true, decide_eq_true_eq] at h
    rcases h with h | ⟨h1, h2⟩
    · omega
    · cases sh
      · exact h1
      · exact h2
  obtain rfl | rfl | rfl : T = 1 ∨ T = 2 ∨ T = 3 := by omega
  · exact key 1 ok30_1 hF
  · exact key 2 ok30_2 hF
  · exact key 3 ok30_3 hF
theorem ok30_any {F T : Nat} (sh : Bool) (hT1 : 1 ≤ T) (hT : T ≤ 3) (hF : 11 * T ≤ F) (hF2 : F ≤ 64) : Ok30 F T sh ∧ Qu.fsts (goL (bootB F T sh) (bootO F T sh) T) = quL (bootR F T sh).Q ∧ (bootR F T sh).A.os.length ≤ 20 := by
  have h := ok30_all sh hT1 hT hF hF2
  have hol : (bootO F T sh).length = T := ownF_len _ _ _ (Nat.le_refl _)
  unfold ok30B at h
  simp only [Bool.and_eq_true, decide_eq_true_eq, List.all_eq_true, List.mem_range] at h
  obtain ⟨⟨⟨⟨h1, h2⟩, h3⟩, h4⟩, h5⟩ := h
  refine ⟨⟨h1, fun i o hi => ?_, by simpa using h3⟩, h4, h5⟩
  have hlt := (List.getElem?_eq_some_iff.1 hi).1
  have := h2 i (by omega)
  rw [List.getD, hi, Option.getD_some] at this
  exact this
set_option maxRecDepth 20000
theorem ths_awake : (bootO 22 2 false).map OwT.th = [1, 8] := by decide +kernel
set_option maxHeartbeats 2000000 in
theorem awake_any (l : List Chunk) : Fn Tryz.prog 11 [] l fun v l' => v = .bool true ∧ ∃ X, l' = X ++ l := by
  refine fn_of_body Tryz.func11 rfl rfl fun E => ?_
  simp only [argF, Tryz.ntmps11]
  refine gzU ?_
  refine t_e (e_call0 rfl rfl (bnew_ok 22 1 2 false (by decide) (by decide) (by decide) (by decide) (by decide) (by decide) l)) rfl rfl rfl ?_
  rintro _ _ ⟨B, b, v14, p, s, X, cs, rfl, hR, ho, rfl⟩
  have hth : (bootO 22 2 false).map OwT.th = [1, 8] := ths_awake
  rw [hth] at ho
  have hv1 : v14.oneCell' = true := ho.one
  obtain ⟨L, hL⟩ : ∃ L, L = knC B b :: (cs ++ allL b p s (bootR 22 2 false) (X ++ l)) := ⟨_, rfl⟩
  rw [← hL]
  refine gzU ?_
  refine t_eh (e_litN (z0 := .int .i64 0) (cs := [.int .i64 1, .int .i64 8]) rfl (by decide) (by decide) rfl) rfl rfl rfl ?_
  rintro _ _ ⟨bl, _, rfl, rfl⟩
  refine t_h (q_call rfl rfl fun l2 hl => sameInts_any v14 _ [1, 8] [1, 8] l2 (ho.intsQ fun c hc => hl c (.tail _ (by rw [hL]; exact .tail _ (List.mem_append_left _ hc)))) ((OwnSl.lit (e := 3) (n := 2) (by decide) rfl (by decide)).intsQ fun c hc => hl c (by rw [List.mem_singleton.1 hc]; exact .head _)) (by decide)) rfl rfl rfl ?_
  rw [decide_eq_true rfl]
  refine gzU ?_
  refine k_ret [] rfl (l' := ((bl, Obj.cells (List.toArray [.int .i64 1, .int .i64 8]) 3 (0, 0)) :: knC B b :: (cs ++ allL b p s (bootR 22 2 false) X)) ++ l) (by rw [hL]; unfold allL; exact keep_ac []) (by exact zRes) ⟨rfl, _, rfl⟩
abbrev cfA (F C T : Int) (sh : Bool) : Value := .agg (List.toArray [.int .i64 F, .int .i64 C, .int .i64 T, .bool sh])
def VwL.all (x : VwL) : List Chunk := x.co ++ (x.cc ++ (x.ct ++ (x.ch ++ (x.cr ++ x.cq))))
theorem rmem_any (b : Nat) (p : RP) (l : List Chunk) (hm : rlC b p ∈ l) : Fn Tryz.prog 18 [pV b] l fun v l' => v = pV p.m ∧ l' = l := by
  refine fn_of_body Tryz.func18 rfl rfl fun E => ?_
  simp only [argF, Tryz.ntmps18]
  refine gzU ?_
  exact k_ret [] rfl .refl (by exact zRes) ⟨rfl, rfl⟩
theorem rcores_any (b : Nat) (p : RP) (l : List Chunk) (hm : rlC b p ∈ l) : Fn Tryz.prog 19 [pV b] l fun v l' => v = pV p.c ∧ l' = l := by
  refine fn_of_body Tryz.func19 rfl rfl fun E => ?_
  simp only [argF, Tryz.ntmps19]
  refine gzU ?_
  exact k_ret [] rfl .refl (by exact zRes) ⟨rfl, rfl⟩
theorem clen_any (b n : Nat) (lq : List Chunk) (h : IsCo b n lq) (l : List Chunk) (hl : ∀ c, c ∈ lq → c ∈ l) : Fn Tryz.prog 20 [pV b] l fun v l' => v = .int .i64 n ∧ l' = l := by
  obtain ⟨v, xs, cs, ho, rfl⟩ := h
  obtain ⟨pp, cap, rfl⟩ := ho.shape
  have hm := hl _ (.head _)
  refine fn_of_body Tryz.func20 rfl rfl fun E => ?_
  simp only [argF, Tryz.ntmps20]
  refine gzU ?_
  exact k_ret [] rfl .refl (by exact zRes) ⟨rfl, rfl⟩
theorem view_at (F C n : Nat) (R : RT) (b : Nat) (p : RP) (s : RL) (hR : IsRl F C n R p s) (hn : n ≤ 900) (hT : R.T.length ≤ 900000) (L G : List Chunk) (hL : L.Perm (allL b p s R G)) : Fn Tryz.prog 15 [pV b] L fun v l' =>
    ∃ cs, (∃ x : VwL, v = .agg (List.toArray (vwV x.vo x.vc x.vt x.vh R.N x.vr x.vq)) ∧ IsVw C R x ∧ cs = x.all) ∧ l' = cs ++ L :=
  Fn.re (.of_perm hL) (view_any F C n R b p s hR hn hT G) fun v l' ⟨x, h1, h2, h3⟩ => ⟨x.all ++ L, by
    rw [h3]
    refine .of_perm ?_
    simp only [VwL.all, List.append_assoc]
    exact (((((hL.symm.append_left _).append_left _).append_left _).append_left _).append_left _).append_left _, _, ⟨x, h1, h2, rfl⟩, rfl⟩
theorem mem_allL {b : Nat} {p : RP} {s : RL} {R : RT} {G : List Chunk} {c : Chunk} (h : c ∈ G) : c ∈ allL b p s R G := by unfold allL; simp [h]
theorem mem_allR {b : Nat} {p : RP} {s : RL} {N : As.ASt} {G : List Chunk} {c : Chunk} (h : c ∈ G) : c ∈ allR b p s N G := by unfold allR; simp [h]
theorem allL_ex2 (b : Nat) (p : RP) (s : RL) (R : RT) : ∃ A, ∀ G, allL b p s R G = A ++ G := ⟨allL b p s R [], fun G => by unfold allL; simp⟩
theorem kq1 (b b2 : Nat) (p p2 : RP) (s s2 : RL) (R : RT) (N : As.ASt) (k z : Chunk) (T2 cs X l : List Chunk) : (allR b2 p2 s2 N (T2 ++ (k :: (cs ++ allL b p s R (X ++ (z :: l)))))).Perm (cs ++ (k :: z :: (T2 ++ (allR b2 p2 s2 N [] ++ allL b p s R (X ++ l))))) := by
  obtain ⟨A, hA⟩ := allL_ex2 b p s R
  rw [allR_app b2]
  simp only [hA]
  generalize allR b2 p2 s2 N [] = B
  exact perm_ac
theorem kq2 (b b2 : Nat) (p p2 : RP) (s s2 : RL) (R : RT) (N : As.ASt) (k z : Chunk) (Y T2 X l : List Chunk) : (Y ++ (k :: z :: (T2 ++ (allR b2 p2 s2 N [] ++ allL b p s R (X ++ l))))).Perm (allL b p s R (k :: z :: (Y ++ (T2 ++ (allR b2 p2 s2 N [] ++ (X ++ l)))))) := by
  obtain ⟨A, hA⟩ := allL_ex2 b p s R
  simp only [hA]
  generalize allR b2 p2 s2 N [] = B
  exact perm_ac
theorem kq3 (b b2 : Nat) (p p2 : RP) (s s2 : RL) (R : RT) (N : As.ASt) (k z : Chunk) (Y T2 X l : List Chunk) : ∃ W, Keep (Y ++ (k :: z :: (T2 ++ (allR b2 p2 s2 N [] ++ allL b p s R (X ++ l))))) (W ++ l) :=
  ⟨Y ++ (k :: z :: (T2 ++ (allR b2 p2 s2 N [] ++ allL b p s R X))), by
    obtain ⟨A, hA⟩ := allL_ex2 b p s R
    simp only [hA]
    generalize allR b2 p2 s2 N [] = B
    exact keep_ac []⟩
theorem krealm_any (B b : Nat) (l : List Chunk) (hm : knC B b ∈ l) : Fn Tryz.prog 13 [pV B] l fun v l' => v = pV b ∧ l' = l := by
  refine fn_of_body Tryz.func13 rfl rfl fun E => ?_
  simp only [argF, Tryz.ntmps13]
  refine gzU ?_
  exact k_ret [] rfl .refl (by exact zRes) ⟨rfl, rfl⟩
theorem keepA (X : List Chunk) {A B : List Chunk} (h : Keep A B) : Keep (X ++ A) (X ++ B) := by
  obtain ⟨q, hq⟩ := h
  exact ⟨q, (hq.append_left X).trans (List.perm_append_comm_assoc X q B)⟩
set_option maxHeartbeats 4000000 in
theorem bmakes_any (F C T : Int) (sh : Bool) (l : List Chunk) : Fn Tryz.prog 3 [cfA F C T sh] l fun v l' => v = .bool true ∧ ∃ X, l' = X ++ l := by
  refine fn_of_body Tryz.func3 rfl rfl fun E => ?_
  simp only [argF, Tryz.ntmps3]
  refine gzU ?_
  refine t_e (e_boxA rfl) rfl rfl rfl ?_
  rintro _ _ ⟨b1, _, rfl, rfl⟩
  refine gzU ?_
  cases hmay : mayB F C T with
  | false =>
    refine t_q (q_call rfl rfl (fun l hl => bnew_no F C T sh hmay l)) rfl rfl rfl ?_
    refine gzU ?_
    refine t_q (q_call rfl rfl (fun l hl => r30_no F C T sh hmay l)) rfl rfl rfl ?_
    refine gzU ?_
    refine c_draw [(0, true), (1, true), (2, true), (3, true), (4, true), (5, true), (6, true), (7, true), (8, true), (9, true), (10, true), (11, true), (12, true), (13, true), (14, true), (15, true), (16, true), (17, true), (18, true), (19, true), (20, true), (21, true), (22, true), (23, true)] [[], [0], [], [0, 1, 2], [0, 1, 2, 3], [0, 1, 2, 3, 4], [0, 1, 2, 3, 4, 5], [0, 1, 2, 3, 4], [0, 1, 2, 3, 4, 5, 6, 7], [0, 1, 2, 3, 4, 5, 6, 7, 8], [0, 1, 2, 3, 4, 5, 6, 7, 8, 9], [0, 1, 2, 3, 4, 5, 6, 7, 8, 9, 10], [0, 1, 2, 3, 4, 5, 6, 7, 8, 9, 10, 11], [0, 1, 2, 3, 4, 5, 6, 7, 8, 9, 10, 11, 12], [0, 1, 2, 3, 4, 5, 6, 7, 8, 9, 10, 11], [0, 1, 2, 3, 4, 5, 6, 7, 8, 9, 10, 11, 14], [0, 1, 2, 3, 4, 5, 6, 7, 8, 9, 10, 11, 12, 13, 14, 15], [0, 1, 2, 3, 4, 5, 6, 7, 8, 9, 10, 11, 12, 13, 14, 15, 16], [0, 1, 2, 3, 4, 5, 6, 7, 8, 9, 10, 11, 12, 13, 14, 15, 16, 17], [0, 1, 2, 3, 4, 5, 6, 7, 8, 9, 10, 11, 12, 13, 14, 15, 16, 17, 18], [0, 1, 2, 3, 4, 5, 6, 7, 8, 9, 10, 11, 12, 13, 14, 15, 16, 17, 18], [0, 1, 2, 3, 4, 5, 6, 7, 8, 9, 10, 11, 12, 13, 14, 15, 16, 17, 18, 19, 20], [0, 1, 2, 3, 4, 5, 6, 7, 8, 9, 10, 11, 12, 13, 14, 15, 16, 17, 18, 19, 20, 21], [0, 1, 2, 3, 4, 5, 6, 7, 8, 9, 10, 11, 12, 13, 14, 15, 16, 17, 18, 19, 20, 21, 22]] _ (by kernel_rfl) (by kernel_rfl) zAtt (fun _ h => h) ?_
    refine pzU ?_
    refine pl_h (q_call rfl rfl (fun l hl => num_any 3 l)) rfl rfl rfl ?_
    refine pzU ?_
    refine pl_h (q_call rfl rfl (fun l hl => bmay_any F C T sh l)) rfl rfl rfl ?_
    rw [hmay]
    refine pzU ?_
    refine pl_h (q_call rfl rfl (fun l hl => rmay30_any F C T sh l)) rfl rfl rfl ?_
    rw [hmay]
    refine pzU ?_
    refine pl_h (q_call rfl rfl (fun l2 hl => sameInts_any (.slice none 0 0) (.slice none 0 0) [] [] l2 ((OwnSl.nil 3 _).intsQ fun c hc => by cases hc) ((OwnSl.nil 3 _).intsQ fun c hc => by cases hc) (by simp))) rfl rfl rfl ?_
    rw [decide_eq_true rfl]
    refine pzU ?_
    refine gzU ?_
    refine t_e (e_call0 rfl rfl (awake_any _)) rfl rfl rfl ?_
    rintro _ _ ⟨rfl, X, rfl⟩
    refine gzU ?_
    exact k_ret [] rfl (l' := (X ++ [ccC b1 F C T sh]) ++ l) (by rw [List.append_assoc]; exact .refl) (by exact zRes) ⟨rfl, _, rfl⟩
  | true =>
  obtain ⟨hT1, hT, hC1, hC, hF, hF2⟩ : 1 ≤ T ∧ T ≤ 3 ∧ 1 ≤ C ∧ C ≤ 3 ∧ 11 * T ≤ F ∧ F ≤ 64 := by simp [mayB] at hmay; omega
  obtain ⟨T, rfl⟩ : ∃ n : Nat, T = n := ⟨T.toNat, by omega⟩
  obtain ⟨F, rfl⟩ : ∃ n : Nat, F = n := ⟨F.toNat, by omega⟩
  obtain ⟨C, rfl⟩ : ∃ n : Nat, C = n := ⟨C.toNat, by omega⟩
  obtain ⟨ok, hq, hol⟩ := ok30_any (F := F) (T := T) sh (by omega) (by omega) (by omega) (by omega)
  refine t_e (e_call0 rfl rfl (bnew_ok F C T sh (by omega) (by omega) (by omega) (by omega) (by omega) (by omega) _)) rfl rfl rfl ?_
  rintro _ _ ⟨B, b, v14, p, s, X, cs, rfl, hR, ho, rfl⟩
  have hv1 := ho.one
  obtain ⟨L1, hL1⟩ : ∃ L1, L1 = knC B b :: (cs ++ allL b p s (bootR F T sh) (X ++ (ccC b1 F C T sh :: l))) := ⟨_, rfl⟩
  have mc1 : ccC b1 F C T sh ∈ L1 := by rw [hL1]; exact .tail _ (List.mem_append_right _ (mem_allL (List.mem_append_right _ (.head _))))
  refine s_keep (l' := L1) (by rw [hL1]; exact .refl) ?_
  refine gzU ?_
  refine t_e (e_call0 rfl rfl (r30_ok F C T sh (by omega) (by omega) (by omega) (by omega) (by omega) (by omega) ok _)) rfl rfl rfl ?_
  rintro _ _ ⟨b2, vT, p2, s2, cT, rfl, hR2, ho2, rfl⟩
  have hv2 := ho2.one
  obtain ⟨ths, hths⟩ : ∃ ths, ths = (bootO F T sh).map OwT.th := ⟨_, rfl⟩
  have hthl : ths.length = T := by rw [hths, List.length_map]; exact ownF_len _ _ _ (Nat.le_refl _)
  rw [← hths] at ho ho2
  have ho' : OwnSl 3 1 v14 ths.length (ths.map intQ) cs := by rw [hthl]; exact ho
  have ho2' : OwnSl 3 1 vT ths.length (ths.map intQ) cT := by rw [hthl]; exact ho2
  obtain ⟨L2, hL2⟩ : ∃ L2, L2 = allR b2 p2 s2 (bootR F T sh).N (cT ++ L1) := ⟨_, rfl⟩
  have mL1 : ∀ c, c ∈ L1 → c ∈ L2 := fun c hc => by rw [hL2]; exact mem_allR (List.mem_append_right _ hc)
  have mcs : ∀ c, c ∈ cs → c ∈ L2 := fun c hc => mL1 c (by rw [hL1]; exact .tail _ (List.mem_append_left _ hc))
  have mcT : ∀ c, c ∈ cT → c ∈ L2 := fun c hc => by rw [hL2]; exact mem_allR (List.mem_append_left _ hc)
  have mc2 := mL1 _ mc1
  refine s_keep (l' := L2) (by rw [hL2]; exact .refl) ?_
  clear mc1
  refine gzU ?_
  refine c_draw [(0, true), (1, true), (2, true), (3, true), (4, true), (5, true), (6, true), (7, true), (8, true), (9, true), (10, true), (11, true), (12, true), (13, true), (14, true), (15, true), (16, true), (17, true), (18, true), (19, true), (20, true), (21, true), (22, true), (23, true)] [[], [0], [], [0, 1, 2], [0, 1, 2, 3], [0, 1, 2, 3, 4], [0, 1, 2, 3, 4, 5], [0, 1, 2, 3, 4], [0, 1, 2, 3, 4, 5, 6, 7], [0, 1, 2, 3, 4, 5, 6, 7, 8], [0, 1, 2, 3, 4, 5, 6, 7, 8, 9], [0, 1, 2, 3, 4, 5, 6, 7, 8, 9, 10], [0, 1, 2, 3, 4, 5, 6, 7, 8, 9, 10, 11], [0, 1, 2, 3, 4, 5, 6, 7, 8, 9, 10, 11, 12], [0, 1, 2, 3, 4, 5, 6, 7, 8, 9, 10, 11], [0, 1, 2, 3, 4, 5, 6, 7, 8, 9, 10, 11, 14], [0, 1, 2, 3, 4, 5, 6, 7, 8, 9, 10, 11, 12, 13, 14, 15], [0, 1, 2, 3, 4, 5, 6, 7, 8, 9, 10, 11, 12, 13, 14, 15, 16], [0, 1, 2, 3, 4, 5, 6, 7, 8, 9, 10, 11, 12, 13, 14, 15, 16, 17], [0, 1, 2, 3, 4, 5, 6, 7, 8, 9, 10, 11, 12, 13, 14, 15, 16, 17, 18], [0, 1, 2, 3, 4, 5, 6, 7, 8, 9, 10, 11, 12, 13, 14, 15, 16, 17, 18], [0, 1, 2, 3, 4, 5, 6, 7, 8, 9, 10, 11, 12, 13, 14, 15, 16, 17, 18, 19, 20], [0, 1, 2, 3, 4, 5, 6, 7, 8, 9, 10, 11, 12, 13, 14, 15, 16, 17, 18, 19, 20, 21], [0, 1, 2, 3, 4, 5, 6, 7, 8, 9, 10, 11, 12, 13, 14, 15, 16, 17, 18, 19, 20, 21, 22]] _ (by kernel_rfl) (by kernel_rfl) zAtt (fun _ h => h) ?_
  refine pzU ?_
  refine pl_h (q_call rfl rfl (fun l hl => num_any 0 l)) rfl rfl rfl ?_
  refine pzU ?_
  refine pl_h (q_call rfl rfl (fun l hl => bmay_any F C T sh l)) rfl rfl rfl ?_
  rw [hmay]
  refine pzU ?_
  refine pl_h (q_call rfl rfl (fun l hl => rmay30_any F C T sh l)) rfl rfl rfl ?_
  rw [hmay]
  refine pzU ?_
  refine pl_h (q_call rfl rfl (fun l2 hl => sameInts_any v14 vT ths ths l2 (ho'.intsQ fun c hc => hl _ (mcs c hc)) (ho2'.intsQ fun c hc => hl _ (mcT c hc)) (by omega))) rfl rfl rfl ?_
  rw [decide_eq_true rfl]
  refine pzU ?_
  refine gzU ?_
  obtain ⟨R, hRR⟩ : ∃ R, R = bootR F T sh := ⟨_, rfl⟩
  obtain ⟨LQ, hLQ⟩ : ∃ LQ, LQ = goL (bootB F T sh) (bootO F T sh) T := ⟨_, rfl⟩
  rw [← hRR] at hR hR2 hL1 hL2 hq hol
  rw [← hLQ] at hR2 hq
  refine s_keep (l' := cs ++ (knC B b :: ccC b1 F C T sh :: (cT ++ (allR b2 p2 s2 R.N [] ++ allL b p s R (X ++ l))))) (by rw [hL2, hL1]; exact .of_perm (kq1 ..)) ?_
  refine t_e (e_call0 rfl rfl (overInts_any v14 T _ cs _ ho (by omega))) rfl rfl rfl ?_
  rintro _ _ ⟨rfl, Y, rfl⟩
  clear mc2 mcT mcs mL1 hL2 hL1 L1 L2 ho' ho
  have hP := kq2 b b2 p p2 s s2 R R.N (knC B b) (ccC b1 F C T sh) Y cT X l
  obtain ⟨W, hW⟩ := kq3 b b2 p p2 s s2 R R.N (knC B b) (ccC b1 F C T sh) Y cT X l
  obtain ⟨L3, hL3⟩ : ∃ L3, L3 = Y ++ (knC B b :: ccC b1 F C T sh :: (cT ++ (allR b2 p2 s2 R.N [] ++ allL b p s R (X ++ l)))) := ⟨_, rfl⟩
  have mk : knC B b ∈ L3 := by rw [hL3]; simp
  have mc3 : ccC b1 F C T sh ∈ L3 := by rw [hL3]; simp
  have mR : ∀ c, c ∈ allR b2 p2 s2 R.N [] → c ∈ L3 := fun c hc => by rw [hL3]; simp [hc]
  have mL : ∀ c, c ∈ allL b p s R (X ++ l) → c ∈ L3 := fun c hc => by rw [hL3]; simp [hc]
  rw [← hL3] at hP hW ⊢
  have mrl := mL (rlC b p) (.head _)
  have mrr := mR (rrC b2 p2) (.head _)
  refine gzU ?_
  refine c_draw [(0, true), (1, true), (2, true), (3, true), (4, true), (5, true), (7, true), (6, false), (8, false), (9, false), (10, true), (11, true), (12, true), (13, true), (14, true), (15, true), (16, true), (17, true), (18, true), (19, true), (20, true), (21, true), (22, true), (23, true), (24, true), (25, true), (26, true), (27, true), (28, true), (29, true), (30, true), (31, false), (32, true), (33, true)] [[], [0], [0, 1], [0, 1, 2], [0, 1, 2, 3], [0, 1, 2, 3, 4], [0, 1, 2, 3, 4, 5], [0, 1, 2, 3], [0, 1, 2, 3, 4, 5, 6, 7], [0, 1, 2, 3, 4, 5, 6, 7, 8], [0, 1, 2, 3, 4, 5, 6, 7, 8, 9], [0, 1, 2, 3, 4, 5, 6, 7, 8, 9, 10], [0, 1, 2, 3, 4, 5, 6, 7, 8, 9, 10, 11], [0, 1, 2, 3, 4, 5, 6, 7, 8, 9, 10, 11, 12], [0, 1, 2, 3, 4, 5, 6, 7, 8, 9, 10, 11, 12, 13], [0, 1, 2, 3, 4, 5, 6, 7, 8, 9, 10, 11], [0, 1, 2, 3, 4, 5, 6, 7, 8, 9, 10, 11, 15], [0, 1, 2, 3, 4, 5, 6, 7, 8, 9, 10, 11, 15, 16], [0, 1, 2, 3, 4, 5, 6, 7, 8, 9, 10, 11, 15, 16, 17], [0, 1, 2, 3, 4, 5, 6, 7, 8, 9, 10, 11, 12, 13, 14, 15, 16, 17, 18], [0, 1, 2, 3, 4, 5, 6, 7, 8, 9, 10, 11, 12, 13, 14, 15, 16, 17, 18, 19], [0, 1, 2, 3, 4, 5, 6, 7, 8, 9, 10, 11, 12, 13, 14, 15, 16, 17, 18, 19, 20], [0, 1, 2, 3, 4, 5, 6, 7, 8, 9, 10, 11, 12, 13, 14, 15, 16, 17, 18, 19, 20, 21], [0, 1, 2, 3, 4, 5, 6, 7, 8, 9, 10, 11, 12, 13, 14, 15, 16, 17, 18, 19, 20, 21, 22], [0, 1, 2, 3, 4, 5, 6, 7, 8, 9, 10, 11, 12, 13, 14, 15, 16, 17, 18, 19, 20, 21, 22, 23], [0, 1, 2, 3, 4, 5, 6, 7, 8, 9, 10, 11, 12, 13, 14, 15, 16, 17, 18, 19, 20, 21, 22, 23, 24], [0, 1, 2, 3, 4, 5, 6, 7, 8, 9, 10, 11, 12, 13, 14, 15, 16, 17, 18, 19, 20, 21], [0, 1, 2, 3, 4, 5, 6, 7, 8, 9, 10, 11, 12, 13, 14, 15, 16, 17, 18, 19, 20, 21, 26], [0, 1, 2, 3, 4, 5, 6, 7, 8, 9, 10, 11, 12, 13, 14, 15, 16, 17, 18, 19, 20, 21, 22, 23, 24, 25, 26, 27], [0, 1, 2, 3, 4, 5, 6, 7, 8, 9, 10, 11, 12, 13, 14, 15, 16, 17, 18, 19, 20, 21, 22, 23, 24, 25, 26, 27, 28], [0, 1, 2, 3, 4, 5, 6, 7, 8, 9, 10, 11, 12, 13, 14, 15, 16, 17, 18, 19, 20, 21, 22, 23, 24, 25, 26, 27, 28, 29], [0, 1, 2, 3, 4, 5, 6, 7, 8, 9, 10, 11, 12, 13, 14, 15, 16, 17, 18, 19, 20, 21, 22, 23, 24, 25, 26, 27, 28, 29, 30], [0, 1, 2, 3, 4, 5, 6, 7, 8, 9, 10, 11, 12, 13, 14, 15, 16, 17, 18, 19, 20, 21, 22, 23, 24, 25, 26, 27, 28, 29, 30, 31], [0, 1, 2, 3, 4, 5, 6, 7, 8, 9, 10, 11, 12, 13, 14, 15, 16, 17, 18, 19, 20, 21, 22, 23, 24, 25, 26, 27, 28, 29, 30, 31, 32]] _ (by kernel_rfl) (by kernel_rfl) zAtt (fun _ h => h) ?_
  refine pzU ?_
  refine pl_h (q_call rfl rfl (fun l2 hl => krealm_any B b l2 (hl _ mk))) rfl rfl rfl ?_
  refine pzU ?_
  refine pl_h (q_call rfl rfl (fun l2 hl => krealm_any B b l2 (hl _ mk))) rfl rfl rfl ?_
  refine pzU ?_
  have hT60 := hR2.tl
  apply pl_geS
  · exact e_call0 rfl rfl (view_at F C 60 R b p s hR (by omega) (by omega) L3 _ hP)
  · rfl
  · rfl
  · rfl
  · rintro _ _ ⟨_, _, rfl⟩ q hq; exact List.mem_append_right _ hq
  · exact fun _ _ _ x hx => by cases hx
  rintro _ _ ⟨_, ⟨x, rfl, hx, rfl⟩, rfl⟩
  refine pzU ?_
  apply pl_geS
  · exact e_call0 rfl rfl (rview_any F C 60 R LQ b2 p2 s2 hR2 (by omega) (by omega) (x.all ++ L3) (fun c hc => List.mem_append_right _ (mR c hc)))
  · rfl
  · rfl
  · rfl
  · rintro _ _ ⟨_, _, _, _, rfl, _⟩ q hq; exact List.mem_append_right _ (List.mem_append_right _ hq)
  · exact fun _ _ _ x hx => by cases hx
  rintro _ _ ⟨y, rfl, hy, cs2, rfl, hcs2⟩
  refine pzU ?_
  have hxL : IsVwL C R (quL R.Q) x := ⟨hx.o, hx.c, hx.t, hx.h, hx.r, hx.q⟩
  rw [hq] at hy
  obtain ⟨zs1, zs2, _⟩ := hR.inv.small (by omega)
  have hus : (usedD R.H.1).length ≤ 900000 := by
    obtain ⟨bs, bt, ls, lt, hB⟩ := hR.ho
    have := usedD_len fun x hx => (hB.s.sz x hx).2
    omega
  have hqs : (quL R.Q).length ≤ 900000 := by
    rw [← hq, show (Qu.fsts LQ).length = LQ.length from by simp [Qu.fsts]]
    have := hR2.ql
    omega
  apply pl_geS
  · exact e_call0 rfl rfl (sameView_any C R (quL R.Q) x y hxL hy (by omega) (by omega) hus (by omega) (by omega) hqs (cs2 ++ (x.all ++ L3)) (fun c hc => List.mem_append_right _ (List.mem_append_left _ (by unfold VwL.all; simp only [List.mem_append]; rcases hc with h | h | h | h | h | h <;> simp [h]))) (fun c hc => List.mem_append_left _ (hcs2 c hc)))
  · rfl
  · rfl
  · rfl
  · rintro _ _ ⟨_, rfl⟩ q hq; exact List.mem_append_right _ (List.mem_append_right _ hq)
  · exact fun _ _ _ x hx => by cases hx
  rintro _ _ ⟨rfl, rfl⟩
  refine pzU ?_
  refine pl_h (q_call rfl rfl (fun l2 hl => krealm_any B b l2 (hl _ mk))) rfl rfl rfl ?_
  refine pzU ?_
  refine pl_h (q_call rfl rfl (fun l2 hl => rmem_any b p l2 (hl _ mrl))) rfl rfl rfl ?_
  refine pzU ?_
  refine pl_h (q_call rfl rfl (fun l2 hl => alike_any p.m p2.m F s.M s2.M hR.mem hR2.mem l2 (fun c hc => hl _ (mL c (by unfold allL; simp [hc]))) (fun c hc => hl _ (mR c (by unfold allR; simp [hc]))))) rfl rfl rfl ?_
  refine pzU ?_
  refine pl_h (q_call rfl rfl (fun l2 hl => krealm_any B b l2 (hl _ mk))) rfl rfl rfl ?_
  refine pzU ?_
  refine pl_h (q_call rfl rfl (fun l2 hl => rcores_any b p l2 (hl _ mrl))) rfl rfl rfl ?_
  refine pzU ?_
  refine pl_h (q_call rfl rfl (fun l2 hl => clen_any p.c C s.C hR.co l2 (fun c hc => hl _ (mL c (by unfold allL; simp [hc]))))) rfl rfl rfl ?_
  refine pzU ?_
  apply pl_geS
  · exact e_call0 rfl rfl (awake_any _)
  · rfl
  · rfl
  · rfl
  · rintro _ _ ⟨_, _, rfl⟩ q hq; exact List.mem_append_right _ (List.mem_append_right _ (List.mem_append_right _ hq))
  · exact fun _ _ _ x hx => by cases hx
  rintro _ _ ⟨rfl, V, rfl⟩
  refine pzU ?_
  refine gzU ?_
  refine k_ret [] rfl (l' := (V ++ (cs2 ++ (x.all ++ W))) ++ l) ?_ (by exact zRes) ⟨rfl, _, rfl⟩
  simp only [List.append_assoc]
  exact keepA V (keepA cs2 (keepA x.all hW))
theorem bootMakes_walk (c0 : List Value) (w0 : AllIs [some .i64, some .i64, some .i64, none] c0) (W : World) :
    Calls Tryz.prog 3 #[.agg c0.toArray] W fun e W' => e = .returned (.bool true) ∧ Below W.heap.size W W' := by
  obtain ⟨_, _, rfl, ⟨F, rfl, _⟩, _, _, rfl, ⟨C, rfl, _⟩, _, _, rfl, ⟨T, rfl, _⟩, _, _, rfl, ⟨sh, rfl⟩, rfl⟩ := w0
  exact law_walk (bmakes_any F C T sh (allOf W))
end Go.Proofs.YtcjknmpogkofpaaGreat
