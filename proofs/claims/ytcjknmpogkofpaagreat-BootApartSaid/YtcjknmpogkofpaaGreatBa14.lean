/- The walk of BootApart. The walk of BootApart, of any world. Laws that the statement's proof leans on. -/
import Derived.Test.YtcjknmpogkofpaaGreatBa5
import Derived.Test.YtcjknmpogkofpaaGreatBa13
import Derived.Test.YtcjknmpogkofpaaGreatBa7
import Derived.Test.YtcjknmpogkofpaaGreatBa6
import Derived.Test.YtcjknmpogkofpaaGreatBa1
/- The walk of BootApart. -/
-- GU
set_option linter.unusedVariables false
set_option linter.unusedSimpArgs false
namespace Go.Proofs.YtcjknmpogkofpaaGreat
open Go.RowKit
set_option maxRecDepth 20000
set_option pp.deepTerms false
set_option pp.deepTerms.threshold 4

theorem ths_awake : thsB 22 2 false = [1, 8] := by decide +kernel
set_option maxHeartbeats 2000000 in
theorem awake_any (l : List Chunk) : Fn Tryz.prog 11 [] l fun v l' => v = .bool true ∧ ∃ X, l' = X ++ l := by
  refine fn_of_body Tryz.func11 rfl rfl fun E => ?_
  simp only [argF, Tryz.ntmps11]
  refine gzU ?_
  refine t_e (e_call0 rfl rfl (bnew_ok 22 1 2 false (by decide) (by decide) (by decide) (by decide) (by decide) (by decide) l)) rfl rfl rfl ?_
  rintro _ _ ⟨B, b, v14, p, s, X, cs, rfl, hR, ho, rfl⟩
  have hth : (bootO 22 2 false).map OwT.th = [1, 8] := ths_awake
  rw [hth] at ho
  have hv1 : v14.oneCell' = true := ho.one
  obtain ⟨L, hL⟩ : ∃ L, L = knC B b :: (cs ++ allL b p s (bootR 22 2 false) (X ++ l)) := ⟨_, rfl⟩
  rw [← hL]
  refine gzU ?_
  refine t_eh (e_litN (z0 := .int .i64 0) (cs := [.int .i64 1, .int .i64 8]) rfl (by decide) (by decide) rfl) rfl rfl rfl ?_
  rintro _ _ ⟨bl, _, rfl, rfl⟩
  refine t_h (q_call rfl rfl fun l2 hl => sameInts_any v14 _ [1, 8] [1, 8] l2 (ho.intsQ fun c hc => hl c (.tail _ (by rw [hL]; exact .tail _ (List.mem_append_left _ hc)))) ((OwnSl.lit (e := 3) (n := 2) (by decide) rfl (by decide)).intsQ fun c hc => hl c (by rw [List.mem_singleton.1 hc]; exact .head _)) (by decide)) rfl rfl rfl ?_
  rw [decide_eq_true rfl]
  refine gzU ?_
  refine k_ret [] rfl (l' := ((bl, Obj.cells (List.toArray [.int .i64 1, .int .i64 8]) 3 (0, 0)) :: knC B b :: (cs ++ allL b p s (bootR 22 2 false) X)) ++ l) (by rw [hL]; unfold allL; exact keep_ac []) (by exact zRes) ⟨rfl, _, rfl⟩
abbrev cfA (F C T : Int) (sh : Bool) : Value := .agg (List.toArray [.int .i64 F, .int .i64 C, .int .i64 T, .bool sh])
def VwL.all (x : VwL) : List Chunk := x.co ++ (x.cc ++ (x.ct ++ (x.ch ++ (x.cr ++ x.cq))))
theorem view_all (F C n : Nat) (R : RT) (b : Nat) (p : RP) (s : RL) (hR : IsRl F C n R p s) (hn : n ≤ 900) (hT : R.T.length ≤ 900000) (G : List Chunk) : Fn Tryz.prog 15 [pV b] (allL b p s R G) fun v l' =>
    ∃ x : VwL, v = .agg (List.toArray (vwV x.vo x.vc x.vt x.vh R.N x.vr x.vq)) ∧ IsVw C R x ∧ l' = x.all ++ allL b p s R G :=
  (view_any F C n R b p s hR hn hT G).mono fun v l' ⟨x, h1, h2, h3⟩ => ⟨x, h1, h2, by rw [h3]; simp only [VwL.all, List.append_assoc]⟩
theorem ka0 (b : Nat) (p : RP) (s : RL) (R : RT) (k c : Chunk) (A X l : List Chunk) : Keep (k :: (A ++ allL b p s R (X ++ c :: l))) (c :: k :: (A ++ allL b p s R (X ++ l))) := by unfold allL; exact keep_ac []
theorem ka1 (b : Nat) (p : RP) (s : RL) (R : RT) (k c : Chunk) (A X : List Chunk) : Keep (c :: k :: (A ++ allL b p s R X)) (allL b p s R (c :: k :: (A ++ X))) := by unfold allL; exact keep_ac []
theorem ka2 (b : Nat) (p : RP) (s : RL) (R : RT) (z c k : Chunk) (A1 A Z : List Chunk) : Keep (z :: (A1 ++ allL b p s R (c :: k :: (A ++ Z)))) (z :: c :: k :: (A ++ (A1 ++ allL b p s R Z))) := by unfold allL; exact keep_ac []
theorem kb1 (b : Nat) (p : RP) (s : RL) (R : RT) (A B X l : List Chunk) (c1 c2 c3 c4 : Chunk) : Keep (A ++ c1 :: c2 :: c3 :: c4 :: (B ++ allL b p s R (X ++ l))) ((A ++ c1 :: c2 :: c3 :: c4 :: (B ++ allL b p s R X)) ++ l) := by unfold allL; exact keep_ac []
theorem vw_q (vo vc vt vh : Value) (N : As.ASt) (vr vq : Value) : (List.toArray (vwV vo vc vt vh N vr vq))[85]? = some vq := by
  have := cell_get (LGet.mid (vo :: vc :: vt :: vh :: (plc N ++ [vr])) [] vq (k := 85) (by simp [plc_len]))
  simpa [vwV] using this
set_option maxHeartbeats 4000000 in
theorem bapart_any (F C T : Int) (sh : Bool) (l : List Chunk) : Fn Tryz.prog 4 [cfA F C T sh] l fun v l' => v = .bool true ∧ ∃ X, l' = X ++ l := by
  refine fn_of_body Tryz.func4 rfl rfl fun E => ?_
  simp only [argF, Tryz.ntmps4]
  refine gzU ?_
  refine t_e (e_boxA rfl) rfl rfl rfl ?_
  rintro _ _ ⟨b1, _, rfl, rfl⟩
  refine gzU ?_
  refine t_q (q_call rfl rfl (fun l hl => bmay_any F C T sh l)) rfl rfl rfl ?_
  cases hmay : mayB F C T with
  | false =>
    refine gzU ?_
    refine t_e (e_call0 rfl rfl (awake_any _)) rfl rfl rfl ?_
    rintro _ _ ⟨rfl, X, rfl⟩
    refine gzU ?_
    exact k_ret [] rfl (l' := (X ++ [ccC b1 F C T sh]) ++ l) (by rw [List.append_assoc]; exact .refl) (by exact zRes) ⟨rfl, _, rfl⟩
  | true =>
    obtain ⟨hT1, hT, hC1, hC, hF, hF2⟩ : 1 ≤ T ∧ T ≤ 3 ∧ 1 ≤ C ∧ C ≤ 3 ∧ 11 * T ≤ F ∧ F ≤ 64 := by simp [mayB] at hmay; omega
    obtain ⟨T, rfl⟩ : ∃ n : Nat, T = n := ⟨T.toNat, by omega⟩
    obtain ⟨F, rfl⟩ : ∃ n : Nat, F = n := ⟨F.toNat, by omega⟩
    obtain ⟨C, rfl⟩ : ∃ n : Nat, C = n := ⟨C.toNat, by omega⟩
    have hA := apart_facts (F := F) (T := T) sh (by omega) (by omega) (by omega) (by omega)
    refine gzU ?_
    refine t_e (e_call0 rfl rfl (bnew_ok F C T sh (by omega) (by omega) (by omega) (by omega) (by omega) (by omega) _)) rfl rfl rfl ?_
    rintro _ _ ⟨B, b, v14, p, s, X, cs, rfl, hR, ho, rfl⟩
    obtain ⟨th, hth⟩ : ∃ th, th = thsB F T sh := ⟨_, rfl⟩
    have hth' : (bootO F T sh).map OwT.th = th := hth.symm
    rw [hth'] at ho
    obtain ⟨R, hRR⟩ : ∃ R, R = bootR F T sh := ⟨_, rfl⟩
    obtain ⟨q1, q2, ⟨e, q3, q3a, q3b⟩, q4, q5, q6⟩ := hA
    rw [← hRR] at hR q1 q2 q3 q4 q6 ⊢
    rw [← hth] at q5 q6
    rcases ho.2 with ⟨_, h0, _⟩ | ⟨gb, cap4, sp4, rfl, rfl, _⟩
    · omega
    refine s_keep (ka0 (A := [_]) ..) ?_
    simp only [List.cons_append, List.nil_append]
    refine gzU ?_
    refine t_q (q_call rfl rfl (fun l2 hl => krealm_any B b l2 (hl _ (.tail _ (.head _))))) rfl rfl rfl ?_
    refine s_keep (ka1 (A := [_]) ..) ?_
    refine t_e (e_call0 rfl rfl (view_all F C 60 R b p s hR (by omega) (by omega) _)) rfl rfl rfl ?_
    rintro _ _ ⟨⟨vo, vc, vt, vh, vr, vq, co, cc, ct, ch, cr, cq⟩, rfl, hx, rfl⟩
    refine t_e e_alloc rfl rfl rfl ?_; rintro _ _ ⟨b6, _, rfl, rfl⟩
    obtain ⟨xo, xc, xt, xh, xr, xq⟩ := hx
    simp only at xo xc xt xh xr xq
    rcases xo.2 with ⟨_, h0, _⟩ | ⟨go, capo, spo, rfl, rfl, _⟩
    · omega
    obtain ⟨pq, capq, rfl⟩ := xq.shape
    obtain ⟨W, hW⟩ : ∃ W, W = VwL.all ⟨.slice (some ⟨go, 0, none⟩) R.A.os.length capo, vc, vt, vh, vr, .slice pq (quL R.Q).length capq, [(go, Obj.cells (List.toArray (Ar.ocs R.A.os ++ spo)) 68 (0, 0))], cc, ct, ch, cr, cq⟩ := ⟨_, rfl⟩
    rw [← hW]
    refine s_keep (ka2 (A := [_]) ..) ?_
    apply t_n
    · refine e_storeA (cs := List.toArray (nilS :: nilS :: nilS :: nilS :: (z80n ++ [nilS, nilS]))) (T := 49) (l' := vwC b6 (.slice (some ⟨go, 0, none⟩) R.A.os.length capo) vc vt vh R.N vr (.slice pq (quL R.Q).length capq) :: ccC b1 F C T sh :: knC B b :: (gb, Obj.cells (List.toArray (th.map intQ ++ sp4)) 3 (0, 0)) :: (W ++ allL b p s R (X ++ l))) rfl rfl (by show (vwV _ vc vt vh R.N vr (.slice pq (quL R.Q).length capq)).length = 86; simp [plc_len]) ?_ ?_ ?_
      · intro v hv
        simp only [List.toList_toArray, List.mem_cons, List.mem_append, List.not_mem_nil, or_false] at hv
        rcases hv with rfl | rfl | rfl | rfl | hv | rfl | rfl
        · rfl
        · exact xc.one
        · exact xt.one
        · exact xh.one
        · exact plc_one _ v hv
        · exact xr.one
        · exact xq.one
      · rw [List.toList_toArray, As.setFrom_all _ _ (by simp [plc_len]; rfl)]
        exact .here
      · show 0 + 86 ≤ (nilS :: nilS :: nilS :: nilS :: (z80n ++ [nilS, nilS])).length
        decide
    · rfl
    · rfl
    rintro _ _ ⟨rfl, rfl⟩
    have holen := hR.ar.ok.len
    obtain ⟨VC, hVC⟩ : ∃ VC, VC = vwC b6 (.slice (some ⟨go, 0, none⟩) R.A.os.length capo) vc vt vh R.N vr (.slice pq (quL R.Q).length capq) := ⟨_, rfl⟩
    obtain ⟨Z, hZ⟩ : ∃ Z, Z = VC :: ccC b1 F C T sh :: knC B b :: (gb, Obj.cells (List.toArray (th.map intQ ++ sp4)) 3 (0, 0)) :: (W ++ allL b p s R (X ++ l)) := ⟨_, rfl⟩
    have hZo : ∀ c, c ∈ Z → c ∈ VC :: ccC b1 F C T sh :: knC B b :: (gb, Obj.cells (List.toArray (th.map intQ ++ sp4)) 3 (0, 0)) :: (W ++ allL b p s R (X ++ l)) := fun c hc => by rw [← hZ]; exact hc
    have hmgo : (go, Obj.cells (List.toArray (Ar.ocs R.A.os ++ spo)) 68 (0, 0)) ∈ W := by rw [hW]; exact .head _
    refine gzU ?_
    refine k_loop (α := Nat × Int) (fun x => [(1, pV b1), (3, pV B), (4, .slice (some ⟨gb, 0, none⟩) T cap4), (6, pV b6), (7, .int .i64 x.2), (8, .int .i64 x.1)]) (fun x => vwC b6 (.slice (some ⟨go, 0, none⟩) R.A.os.length capo) vc vt vh R.N vr (.slice pq (quL R.Q).length capq) :: ccC b1 F C T sh :: knC B b :: (gb, Obj.cells (List.toArray (th.map intQ ++ sp4)) 3 (0, 0)) :: (W ++ allL b p s R (X ++ l)))
      (fun x => x.1 ≤ R.A.os.length ∧ 0 ≤ x.2 ∧ objsOk (R.A.os.drop x.1) x.2 = some e) (fun x => R.A.os.length - x.1) (0, 0) ⟨Nat.zero_le _, Int.le_refl _, q3⟩ ⟨rfl, rfl, rfl, rfl, rfl, rfl, trivial⟩ .refl ?_
    rintro ⟨i, x⟩ ⟨hi, hx0, hob⟩
    simp only at hi hx0 hob ⊢
    have hxe := objs_le hob
    by_cases hlt : i < R.A.os.length
    · obtain ⟨o, hio⟩ : ∃ o, R.A.os[i]? = some o := ⟨_, List.getElem?_eq_getElem hlt⟩
      obtain ⟨o1, o2, o3, o4⟩ := objs_step hio hob
      refine gzU ?_
      refine t_q (q_load (v := .int .i64 o.fi) rfl (.tail _ (.tail _ (.tail _ (.tail _ (List.mem_append_left _ hmgo))))) (Ar.ocs_at hio spo 3 (by decide))) rfl rfl rfl ?_
      refine gzU ?_
      refine t_q (q_load (v := .int .i64 o.fr) rfl (.tail _ (.tail _ (.tail _ (.tail _ (List.mem_append_left _ hmgo))))) (Ar.ocs_at hio spo 4 (by decide))) rfl rfl rfl ?_
      refine gzU ?_
      exact k_next (i + 1, x + o.fr) ⟨by omega, by omega, o4⟩ (by simp only; omega) ⟨rfl, rfl, rfl, rfl, rfl, rfl, trivial⟩ .refl
    obtain rfl : x = e := by
      obtain rfl : i = R.A.os.length := by omega
      rw [List.drop_length] at hob
      exact Option.some.inj hob
    refine gzU ?_
    have hAL : ∀ c, c ∈ allL b p s R [] → c ∈ allL b p s R (X ++ l) := fun c hc => by
      have : allL b p s R (X ++ l) = allL b p s R [] ++ (X ++ l) := by unfold allL; simp
      rw [this]; exact List.mem_append_left _ hc
    have hsub : ∀ c, c ∈ knC B b :: (gb, Obj.cells (List.toArray (th.map intQ ++ sp4)) 3 (0, 0)) :: allL b p s R [] → c ∈ vwC b6 (.slice (some ⟨go, 0, none⟩) R.A.os.length capo) vc vt vh R.N vr (.slice pq (quL R.Q).length capq) :: ccC b1 F C T sh :: knC B b :: (gb, Obj.cells (List.toArray (th.map intQ ++ sp4)) 3 (0, 0)) :: (W ++ allL b p s R (X ++ l)) := fun c hc => by
      rcases List.mem_cons.1 hc with rfl | hc
      · exact .tail _ (.tail _ (.head _))
      · rcases List.mem_cons.1 hc with rfl | hc
        · exact .tail _ (.tail _ (.tail _ (.head _)))
        · exact .tail _ (.tail _ (.tail _ (.tail _ (List.mem_append_right _ (hAL c hc)))))
    have hmT : ∀ c, c ∈ s.T → c ∈ allL b p s R [] := fun c hc => by unfold allL; simp [hc]
    have hgt : ∀ i, i < T → (List.toArray (th.map intQ ++ sp4))[i * 1]? = some (.int .i64 (th.getD i 0)) := fun i hi => by
      rw [Nat.mul_one, List.getElem?_toArray, List.getElem?_append_left (by rw [List.length_map]; omega), List.getElem?_map, List.getD, List.getElem?_eq_getElem (by omega)]; rfl
    refine k_loop (α := Nat × List Chunk) (fun y => [(1, pV b1), (3, pV B), (4, .slice (some ⟨gb, 0, none⟩) T cap4), (6, pV b6), (7, .int .i64 x), (9, .int .i64 y.1)]) (fun y => vwC b6 (.slice (some ⟨go, 0, none⟩) R.A.os.length capo) vc vt vh R.N vr (.slice pq (quL R.Q).length capq) :: ccC b1 F C T sh :: knC B b :: (gb, Obj.cells (List.toArray (th.map intQ ++ sp4)) 3 (0, 0)) :: (W ++ allL b p s R (X ++ l)))
      (fun y => y.1 ≤ T) (fun y => T - y.1) (0, []) (Nat.zero_le _) ⟨rfl, rfl, rfl, rfl, rfl, rfl, trivial⟩ .refl ?_
    rintro ⟨i, _⟩ hi
    simp only at hi ⊢
    by_cases hlt : i < T
    · obtain ⟨a, n, m, t, r1, r2, r3, r4, r5, r6⟩ := q6 i hlt
      refine gzU ?_
      refine c_draw [(0, true), (1, true), (2, true), (3, true), (4, true), (5, true), (6, true), (7, true), (8, true), (9, true), (10, true), (11, true), (12, true), (13, true), (14, true), (15, true)] [[], [0], [], [], [2, 3], [2, 3, 4], [0, 1, 2, 3, 4, 5], [0, 1, 2, 3, 4, 5, 6], [0, 1, 2, 3, 4, 5, 6, 7], [0, 1, 2, 3, 4, 5, 6, 7], [0, 1, 2, 3, 4, 5, 6, 7], [0, 1, 2, 3, 4, 5, 6, 7], [0, 1, 2, 3, 4, 5, 6, 7, 8], [0, 1, 2, 3, 4, 5, 6, 7, 8, 9, 12], [0, 1, 2, 3, 4, 5, 6, 7, 8, 9, 10, 12, 13], [0, 1, 2, 3, 4, 5, 6, 7, 8, 9, 10, 11, 12, 13, 14]] (knC B b :: (gb, Obj.cells (List.toArray (th.map intQ ++ sp4)) 3 (0, 0)) :: allL b p s R []) (by kernel_rfl) (by kernel_rfl) zAtt (hsub) ?_
      refine pzU ?_
      apply pl_q
      · exact q_call rfl rfl (fun l2 hl => krealm_any B b l2 (hl _ (.head _)))
      · rfl
      · rfl
      · rfl
      refine pzU ?_
      apply pl_q
      · exact q_load rfl (.tail _ (.head _)) (hgt i hlt)
      · rfl
      · rfl
      · rfl
      refine pzU ?_
      apply pl_q
      · exact q_call rfl rfl (fun l2 hl => space_any F C 60 R b p s hR (th.getD i 0) l2 (fun c hc => hl _ (.tail _ (.tail _ hc))))
      · rfl
      · rfl
      · rfl
      rw [r1]
      refine pzU ?_
      refine gzU ?_
      refine c_draw [(0, true), (1, true), (2, true), (3, true), (4, true), (5, true), (6, true), (7, true), (8, true), (9, true), (10, true), (11, false), (12, false), (13, true)] [[], [0], [0, 1], [], [], [3, 4], [3, 4, 5], [0, 1, 2, 3, 4, 5, 6], [0, 1, 2, 3, 4, 5, 6, 7], [0, 1, 2, 3, 4, 5, 6, 7, 8], [0, 1, 2, 3, 4, 5, 6, 7, 8], [], [0, 1, 2, 3, 4, 5, 6, 7, 8, 9, 11], [0, 1, 2, 3, 4, 5, 6, 7, 8, 9, 10, 11, 12]] (knC B b :: (gb, Obj.cells (List.toArray (th.map intQ ++ sp4)) 3 (0, 0)) :: allL b p s R []) (by kernel_rfl) (by kernel_rfl) zAtt (hsub) ?_
      refine pzU ?_
      apply pl_q
      · exact q_call rfl rfl (fun l2 hl => krealm_any B b l2 (hl _ (.head _)))
      · rfl
      · rfl
      · rfl
      refine pzU ?_
      apply pl_q
      · exact q_call rfl rfl (fun l2 hl => rthreads_any b p l2 (hl _ (.tail _ (.tail _ (.head _)))))
      · rfl
      · rfl
      · rfl
      refine pzU ?_
      apply pl_q
      · exact q_load rfl (.tail _ (.head _)) (hgt i hlt)
      · rfl
      · rfl
      · rfl
      refine pzU ?_
      apply pl_q
      · exact q_call rfl rfl (fun l2 hl => Th.get_any p.t R.T s.T hR.th (th.getD i 0) l2 (fun c hc => hl _ (.tail _ (.tail _ (hmT c hc)))))
      · rfl
      · rfl
      · rfl
      rw [r4]
      simp only [Option.getD_some, Option.isSome_some]
      refine pzU ?_
      have hsub14 : ∀ (z c : Chunk), c ∈ knC B b :: (gb, Obj.cells (List.toArray (th.map intQ ++ sp4)) 3 (0, 0)) :: allL b p s R [] → c ∈ z :: vwC b6 (.slice (some ⟨go, 0, none⟩) R.A.os.length capo) vc vt vh R.N vr (.slice pq (quL R.Q).length capq) :: ccC b1 F C T sh :: knC B b :: (gb, Obj.cells (List.toArray (th.map intQ ++ sp4)) 3 (0, 0)) :: (W ++ allL b p s R (X ++ l)) := fun z c hc => .tail _ (hsub c hc)
      apply pl_e
      · exact e_alloc
      · rfl
      · rfl
      · rfl
      · rintro _ _ ⟨_, _, _, rfl⟩; exact hsub14 _
      rintro _ _ ⟨b14, _, rfl, rfl⟩
      apply pl_n
      · exact e_storeLA (cs' := Th.encH t) rfl rfl rfl (by simp [Value.oneCell']) (.head _) (by repeat (first | apply LSetA.done | apply LSetA.put)) .here
      · rfl
      · rfl
      · rintro _ _ ⟨_, rfl⟩; exact hsub14 _
      rintro _ _ ⟨rfl, rfl⟩
      refine pzU ?_
      refine gzU ?_
      refine k_loop (α := Nat) (fun j => [(1, pV b1), (3, pV B), (4, .slice (some ⟨gb, 0, none⟩) T cap4), (6, pV b6), (7, .int .i64 x), (9, .int .i64 i), (11, .int .i64 n), (16, .int .i64 j)]) (fun _ => Th.thC b14 t :: vwC b6 (.slice (some ⟨go, 0, none⟩) R.A.os.length capo) vc vt vh R.N vr (.slice pq (quL R.Q).length capq) :: ccC b1 F C T sh :: knC B b :: (gb, Obj.cells (List.toArray (th.map intQ ++ sp4)) 3 (0, 0)) :: (W ++ allL b p s R (X ++ l)))
        (fun j => j ≤ i) (fun j => i - j) 0 (Nat.zero_le _) ⟨rfl, rfl, rfl, rfl, rfl, rfl, rfl, rfl, trivial⟩ .refl ?_
      intro j hj
      by_cases hji : j < i
      · obtain ⟨a', n', m', f', r7, r8⟩ := r6 j hji
        refine gzU ?_
        refine c_draw [(0, true), (1, true), (2, true), (3, true), (4, true), (5, true), (6, true), (7, true), (8, true), (9, true), (10, true), (11, true), (12, true), (13, true), (14, true), (15, true)] [[], [0], [], [], [2, 3], [2, 3, 4], [0, 1, 2, 3, 4, 5], [0, 1, 2, 3, 4, 5, 6], [0, 1, 2, 3, 4, 5, 6, 7], [0, 1, 2, 3, 4, 5, 6, 7], [0, 1, 2, 3, 4, 5, 6, 7], [0, 1, 2, 3, 4, 5, 6, 7], [0, 1, 2, 3, 4, 5, 6, 7, 8], [0, 1, 2, 3, 4, 5, 6, 7, 8, 9, 12], [0, 1, 2, 3, 4, 5, 6, 7, 8, 9, 10, 12, 13], [0, 1, 2, 3, 4, 5, 6, 7, 8, 9, 10, 11, 12, 13, 14]] (knC B b :: (gb, Obj.cells (List.toArray (th.map intQ ++ sp4)) 3 (0, 0)) :: allL b p s R []) (by kernel_rfl) (by kernel_rfl) zAtt (hsub14 _) ?_
        refine pzU ?_
        apply pl_q
        · exact q_call rfl rfl (fun l2 hl => krealm_any B b l2 (hl _ (.head _)))
        · rfl
        · rfl
        · rfl
        refine pzU ?_
        apply pl_q
        · exact q_load rfl (.tail _ (.head _)) (hgt j (by omega))
        · rfl
        · rfl
        · rfl
        refine pzU ?_
        apply pl_q
        · exact q_call rfl rfl (fun l2 hl => space_any F C 60 R b p s hR (th.getD j 0) l2 (fun c hc => hl _ (.tail _ (.tail _ hc))))
        · rfl
        · rfl
        · rfl
        rw [r7]
        refine pzU ?_
        refine gzU ?_
        exact k_next (j + 1) (by omega) (by omega) ⟨rfl, rfl, rfl, rfl, rfl, rfl, rfl, rfl, trivial⟩ .refl
      refine gzU ?_
      exact k_next (i + 1, []) (by simp only; omega) (by simp only; omega) ⟨rfl, rfl, rfl, rfl, rfl, rfl, trivial⟩ (.drop .refl)
    refine gzU ?_
    refine t_h (q_load rfl (.head _) (vw_q ..)) rfl rfl rfl ?_
    refine gzU ?_
    refine t_eh (e_call0 rfl rfl (awake_any _)) rfl rfl rfl ?_
    rintro _ _ ⟨rfl, Y, rfl⟩
    refine gzU ?_
    exact k_ret [] rfl (kb1 ..) (by exact zRes) ⟨rfl, _, rfl⟩
end Go.Proofs.YtcjknmpogkofpaaGreat

/- The walk of BootApart, of any world. -/
set_option linter.unusedVariables false
namespace Go.Proofs.YtcjknmpogkofpaaGreat
open Go.RowKit
theorem bootApart_walk' (c0 : List Value) (w0 : AllIs [some .i64, some .i64, some .i64, none] c0) (W : World) :
    Calls Tryz.prog 4 #[.agg c0.toArray] W fun e W' => e = .returned (.bool true) ∧ Below W.heap.size W W' := by
  obtain ⟨_, _, rfl, ⟨F, rfl, _⟩, _, _, rfl, ⟨C, rfl, _⟩, _, _, rfl, ⟨T, rfl, _⟩, _, _, rfl, ⟨sh, rfl⟩, rfl⟩ := w0
  exact law_walk (bapart_any F C T sh (allOf W))
end Go.Proofs.YtcjknmpogkofpaaGreat
