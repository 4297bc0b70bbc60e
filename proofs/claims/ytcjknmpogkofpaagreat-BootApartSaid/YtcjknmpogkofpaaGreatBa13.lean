/- boot.New's first loop: who has which objects. boot.New's second loop: each thread's capabilities are laid out. boot.New's third loop: each thread is made ready. boot.New: the first state. arena.All, asid.Pools. Effects that only add blocks, in a row, and one more that may come at any place among them. Laws of my own, no program's. realm.View. realm.View: all that is kept, in one value. realm.Space, kernel.Realm. The plain law of BootApart. Laws that the statement's proof leans on. -/
import Derived.Test.YtcjknmpogkofpaaGreatBa5
import Derived.Test.YtcjknmpogkofpaaGreatBa12
import Derived.Test.YtcjknmpogkofpaaGreatBa6
/- boot.New's first loop: who has which objects. -/
-- GU
set_option linter.unusedVariables false
set_option linter.unusedSimpArgs false
namespace Go.Proofs.YtcjknmpogkofpaaGreat
open Go.RowKit
set_option maxRecDepth 20000
set_option pp.deepTerms false
set_option pp.deepTerms.threshold 4

def laL (F C T : Nat) (sh : Bool) (ids : List Int) (sp : List Value) (b1 b5 b8 bo b gb cap i : Nat) : List Chunk := [idC b8 (.slice (some ⟨gb, 0, none⟩) (5 * T + sh.toNat) cap), (gb, Obj.cells (List.toArray (ids.map intQ ++ sp)) 3 (0, 0)), ccC b1 F C T sh, pcC b5 b, (bo, Obj.cells (List.toArray (owV (ownF ids T i))) 92 (0, 0))]
abbrev laF (T : Nat) (b1 b5 b8 bo : Nat) : Fr := [(1, pV b1), (5, pV b5), (7, .slice (some ⟨bo, 0, none⟩) T T), (8, pV b8), (9, .int .i64 0)]
set_option maxHeartbeats 4000000 in
theorem bn_A {E : World} {Q : Exit → Act → World → Prop} {ds : List Deferred} {fn : Func} {c : Code} (hf : Tryz.prog.funcs[5]? = some fn) (hc : fn.body = some c) (F C T : Nat) (sh : Bool) (hT1 : 1 ≤ T) (hT : T ≤ 3) (ids : List Int) (sp : List Value) (hil : ids.length = 5 * T + sh.toNat) (b1 b5 b8 bo b gb cap : Nat) (Z : List Chunk)
    (k : PostS fn.ntmps E Q .normal (laF T b1 b5 b8 bo) ds (laL F C T sh ids sp b1 b5 b8 bo b gb cap T ++ Z)) : CodeS Tryz.prog none fn.ntmps E (hed (aft 7 c)) Q (laF T b1 b5 b8 bo) ds (laL F C T sh ids sp b1 b5 b8 bo b gb cap 0 ++ Z) := by
  obtain rfl := Option.some.inj (hf.symm.trans Tryz.func5)
  obtain rfl := Option.some.inj hc
  simp only [Tryz.func5, Tryz.ntmps5, aft, hed] at k ⊢
  have hget : ∀ (x : Int) (m : Nat), x = m → m < ids.length → (List.toArray (ids.map intQ ++ sp))[0 + x.toNat * 1]? = some (intQ (ids.getD m 0)) := fun x m hx hm => by
    subst hx
    rw [Int.toNat_natCast, Nat.mul_one, Nat.zero_add, List.getElem?_toArray, List.getElem?_append_left (by rw [List.length_map]; exact hm), List.getElem?_map, List.getD, List.getElem?_eq_getElem hm]; rfl
  refine gzU ?_
  refine k_loop (α := Nat) (fun i => (56, .int .i64 T) :: (57, .int .i64 i) :: (55, .slice (some ⟨bo, 0, none⟩) T T) :: laF T b1 b5 b8 bo) (fun i => laL F C T sh ids sp b1 b5 b8 bo b gb cap i ++ Z)
      (fun i => i ≤ T) (fun i => T - i) 0 (Nat.zero_le _) ⟨rfl, rfl, rfl, rfl, rfl, rfl, rfl, rfl, trivial⟩ .refl ?_
  intro i hi
  have hsh : sh.toNat ≤ 1 := by cases sh <;> decide
  by_cases hlt : i < T
  · unfold laL
    refine gzU ?_
    have hsubA : ∀ c, c ∈ [idC b8 (.slice (some ⟨gb, 0, none⟩) (5 * T + sh.toNat) cap), (gb, Obj.cells (List.toArray (ids.map intQ ++ sp)) 3 (0, 0)), ccC b1 F C T sh] → c ∈ idC b8 (.slice (some ⟨gb, 0, none⟩) (5 * T + sh.toNat) cap) :: (gb, Obj.cells (List.toArray (ids.map intQ ++ sp)) 3 (0, 0)) :: ccC b1 F C T sh :: pcC b5 b :: (bo, Obj.cells (List.toArray (owV (ownF ids T i))) 92 (0, 0)) :: Z := fun c hc => (@List.mem_append_left _ c [_, _, _] _ hc)
    refine c_draw [(0, true), (1, true), (2, true), (3, true), (4, true), (5, true), (6, true), (7, true), (8, true), (9, true), (10, true), (11, true), (12, true), (13, true), (14, true), (15, true), (16, true), (17, true), (18, true), (19, true), (20, true), (21, true), (22, true), (23, true), (24, true), (25, true), (26, true), (27, true), (28, true), (29, true), (30, true), (31, true), (32, true), (33, true), (34, true), (35, true), (36, true), (37, false)] [[], [], [], [], [3], [2, 3, 4], [2, 3, 4, 5], [], [], [8], [8, 9], [7, 8, 9, 10], [7, 8, 9, 10, 11], [], [], [14], [14, 15], [13, 14, 15, 16], [13, 14, 15, 16, 17], [], [], [20], [20, 21], [19, 20, 21, 22], [19, 20, 21, 22, 23], [], [], [26], [], [28], [26, 27, 28, 29], [], [26, 27, 28, 29, 30, 31], [25, 26, 27, 28, 29, 30, 31, 32], [25, 26, 27, 28, 29, 30, 31, 32, 33], [2, 3, 4, 5, 6, 7, 8, 9, 10, 11, 12, 13, 14, 15, 16, 17, 18, 19, 20, 21, 22, 23, 24, 25, 26, 27, 28, 29, 30, 31, 32, 33, 34], [0, 1, 2, 3, 4, 5, 6, 7, 8, 9, 10, 11, 12, 13, 14, 15, 16, 17, 18, 19, 20, 21, 22, 23, 24, 25, 26, 27, 28, 29, 30, 31, 32, 33, 34, 35], [0, 1, 2, 3, 4, 5, 6, 7, 8, 9, 10, 11, 12, 13, 14, 15, 16, 17, 18, 19, 20, 21, 22, 23, 24, 25, 26, 27, 28, 29, 30, 31, 32, 33, 34, 35, 36]] ([idC b8 (.slice (some ⟨gb, 0, none⟩) (5 * T + sh.toNat) cap), (gb, Obj.cells (List.toArray (ids.map intQ ++ sp)) 3 (0, 0)), ccC b1 F C T sh]) (by kernel_rfl) (by kernel_rfl) zAtt (hsubA) ?_
    refine pzU ?_
    apply pl_q
    · exact q_load (v := intQ (ids.getD (4 * i) 0)) rfl (.tail _ (.head _)) (hget _ (4 * i) (by omega) (by omega))
    · rfl
    · rfl
    · rfl
    refine pzU ?_
    apply pl_q
    · exact q_load (v := intQ (ids.getD (4 * i + 1) 0)) rfl (.tail _ (.head _)) (hget _ (4 * i + 1) (by omega) (by omega))
    · rfl
    · rfl
    · rfl
    refine pzU ?_
    apply pl_q
    · exact q_load (v := intQ (ids.getD (4 * i + 2) 0)) rfl (.tail _ (.head _)) (hget _ (4 * i + 2) (by omega) (by omega))
    · rfl
    · rfl
    · rfl
    refine pzU ?_
    apply pl_q
    · exact q_load (v := intQ (ids.getD (4 * i + 3) 0)) rfl (.tail _ (.head _)) (hget _ (4 * i + 3) (by omega) (by omega))
    · rfl
    · rfl
    · rfl
    refine pzU ?_
    apply pl_q
    · exact q_load (v := intQ (ids.getD (ids.length - T + i) 0)) rfl (.tail _ (.head _)) (hget _ (ids.length - T + i) (by omega) (by omega))
    · rfl
    · rfl
    · rfl
    refine pzU ?_
    apply pl_n
    · exact e_storeA (cs := List.toArray (owV (ownF ids T i))) (T := 92) rfl rfl rfl (by simp [intQ, Value.oneCell']) (.there (.there (.there (.there .here)))) (by have := owV_len (ownF ids T i); rw [ownF_len _ _ _ hi] at this; simp only [List.size_toArray, List.length_cons, List.length_nil, this]; omega)
    · rfl
    · rfl
    · rintro _ _ ⟨_, rfl⟩; exact fun c hc => (@List.mem_append_left _ c [_, _, _] _ hc)
    rintro _ _ ⟨rfl, rfl⟩
    refine pzU ?_
    refine gzU ?_
    refine k_next (i + 1) (by omega) (by omega) ⟨rfl, rfl, rfl, rfl, rfl, rfl, rfl, rfl, trivial⟩ (.of_perm (.of_eq ?_))
    show _ = laL F C T sh ids sp b1 b5 b8 bo b gb cap (i + 1) ++ Z
    unfold laL
    rw [← ownF_set ids T i hlt]
    simp only [Int.toNat_natCast, Nat.zero_add]
    rfl
  · refine gzU ?_
    obtain rfl : i = T := by omega
    exact p_weak (fr' := laF i b1 b5 b8 bo) ⟨rfl, rfl, rfl, rfl, rfl, trivial⟩ .refl k
end Go.Proofs.YtcjknmpogkofpaaGreat

/- boot.New's second loop: each thread's capabilities are laid out. -/
-- GU
set_option linter.unusedVariables false
set_option linter.unusedSimpArgs false
namespace Go.Proofs.YtcjknmpogkofpaaGreat
open Go.RowKit
set_option maxRecDepth 20000
set_option pp.deepTerms false
set_option pp.deepTerms.threshold 4

def layF (R : RT) (os : List OwT) : Nat → RT
  | 0 => R
  | k + 1 => layR (layF R os k) (os.getD k ow0) (decide ((k : Int) = 0))
abbrev boC (bo : Nat) (os : List OwT) : Chunk := (bo, Obj.cells (List.toArray (owV os)) 92 (0, 0))
abbrev lbF (T : Nat) (b1 b5 bo : Nat) (v9 v14 : Value) : Fr := [(1, pV b1), (5, pV b5), (7, .slice (some ⟨bo, 0, none⟩) T T), (9, v9), (14, v14)]
set_option maxHeartbeats 4000000 in
theorem bn_B {E : World} {Q : Exit → Act → World → Prop} {ds : List Deferred} {fn : Func} {c : Code} (hf : Tryz.prog.funcs[5]? = some fn) (hc : fn.body = some c) (F C n : Nat) (R : RT) (b : Nat) (p : RP) (s : RL) (hR : IsRl F C n R p s) (hn : n ≤ 800) (os : List OwT) (T : Nat) (hos : os.length = T) (hT : T ≤ 3) (b1 b5 bo : Nat) (v9 : Value) (Z : List Chunk)
    (k : ∀ s' X v cs, IsRl F C (n + 8 * T) (layF R os T) p s' → OwnSl 3 1 v T ((os.map OwT.th).map intQ) cs → PostS fn.ntmps E Q .normal (lbF T b1 b5 bo v9 v) ds (pcC b5 b :: boC bo os :: (cs ++ allL b p s' (layF R os T) (X ++ Z)))) :
    CodeS Tryz.prog none fn.ntmps E (hed (aft 10 c)) Q (lbF T b1 b5 bo v9 (.slice none 0 0)) ds (pcC b5 b :: boC bo os :: allL b p s R Z) := by
  subst hos
  obtain rfl := Option.some.inj (hf.symm.trans Tryz.func5)
  obtain rfl := Option.some.inj hc
  simp only [Tryz.func5, Tryz.ntmps5, aft, hed] at k ⊢
  refine gzU ?_
  refine k_loop (α := Nat × RL × List Chunk × Value × List Chunk) (fun x => (106, .slice (some ⟨bo, 0, none⟩) os.length os.length) :: (107, .int .i64 (os.length : Nat)) :: (108, .int .i64 x.1) :: lbF os.length b1 b5 bo v9 x.2.2.2.1) (fun x => pcC b5 b :: boC bo os :: (x.2.2.2.2 ++ allL b p x.2.1 (layF R os x.1) (x.2.2.1 ++ Z)))
      (fun x => x.1 ≤ os.length ∧ IsRl F C (n + 8 * x.1) (layF R os x.1) p x.2.1 ∧ OwnSl 3 1 x.2.2.2.1 x.1 (((os.take x.1).map OwT.th).map intQ) x.2.2.2.2) (fun x => os.length - x.1) (0, s, [], .slice none 0 0, []) ⟨Nat.zero_le _, hR, OwnSl.nil _ _⟩ ⟨rfl, rfl, rfl, rfl, rfl, rfl, rfl, rfl, trivial⟩ .refl ?_
  rintro ⟨i, s, X, v, cs⟩ ⟨hi, hR, ho⟩
  simp only at hi hR ho ⊢
  by_cases hlt : i < os.length
  · obtain ⟨o, hio⟩ : ∃ o, os[i]? = some o := ⟨_, List.getElem?_eq_getElem hlt⟩
    obtain ⟨x1, x2⟩ := owV_ext hio
    refine gzU ?_
    refine t_q (q_loadA rfl (.tail _ (.head _)) x1 x2) rfl rfl rfl ?_
    refine gzU ?_
    refine t_e e_alloc rfl rfl rfl ?_; rintro _ _ ⟨b16, _, rfl, rfl⟩
    refine gzU ?_
    refine s_keep (l' := allL b p s (layF R os i) (owC b16 o :: pcC b5 b :: boC bo os :: (cs ++ (X ++ Z)))) (by unfold allL; dsimp only [owC, owL]; exact keep_ac []) ?_
    refine t_e (e_call0 rfl rfl (blay_any F C (n + 8 * i) _ b p s hR (by omega) o (decide ((i : Int) = 0)) _)) rfl rfl rfl ?_
    rintro _ _ ⟨rfl, s1, X1, hR1, rfl⟩
    have e1 : layF R os (i + 1) = layR (layF R os i) o (decide ((i : Int) = 0)) := by
      show layR _ (os.getD i ow0) _ = _
      rw [List.getD, hio, Option.getD_some]
    have e2 : os.take (i + 1) = os.take i ++ [o] := by rw [List.take_add_one, hio]; rfl
    rw [← e1] at hR1 ⊢
    refine s_keep (l' := owC b16 o :: pcC b5 b :: boC bo os :: (cs ++ allL b p s1 (layF R os (i + 1)) (X1 ++ (X ++ Z)))) (by unfold allL; dsimp only [owC, owL]; exact keep_ac []) ?_
    refine gzU ?_
    refine t_e (e_lit1 (v := intQ o.th) rfl rfl) rfl rfl rfl ?_
    rintro _ _ ⟨bl, _, rfl, rfl⟩
    refine s_keep (l' := cs ++ ((bl, Obj.cells (List.toArray [intQ o.th]) 3 (0, 0)) :: owC b16 o :: pcC b5 b :: boC bo os :: allL b p s1 (layF R os (i + 1)) (X1 ++ (X ++ Z)))) (keep_ac []) ?_
    refine t_e (ce_append (k := 1) (yb := 8) (n := i) (xs := ((os.take i).map OwT.th).map intQ) (news := [intQ o.th]) (zs := [.int .i64 0]) (cs := cs) rfl rfl rfl ho (List.mem_append_right _ List.mem_cons_self) (fun j u hj => by simpa using hj) rfl (by simp [Value.oneCell', intQ]) (by unfold maxLen; omega) (by omega)) rfl rfl rfl ?_
    rintro v' _ ⟨cs', ho', rfl⟩
    refine gzU ?_
    refine k_next (i + 1, s1, (bl, Obj.cells (List.toArray [intQ o.th]) 3 (0, 0)) :: owC b16 o :: (X1 ++ X), v', cs') ⟨by omega, hR1, ?_⟩ (by simp only; omega) ⟨rfl, rfl, rfl, rfl, rfl, rfl, rfl, rfl, trivial⟩ (by unfold allL; exact keep_ac [])
    rw [e2, List.map_append, List.map_append]
    exact ho'
  · refine gzU ?_
    obtain rfl : i = os.length := by omega
    rw [List.take_length] at ho
    exact p_weak (fr' := lbF os.length b1 b5 bo v9 v) ⟨rfl, rfl, rfl, rfl, rfl, trivial⟩ .refl (k s X v cs hR ho)
end Go.Proofs.YtcjknmpogkofpaaGreat

/- boot.New's third loop: each thread is made ready. -/
-- GU
set_option linter.unusedVariables false
set_option linter.unusedSimpArgs false
namespace Go.Proofs.YtcjknmpogkofpaaGreat
open Go.RowKit
set_option maxRecDepth 20000
set_option pp.deepTerms false
set_option pp.deepTerms.threshold 4

def prioR (R : RT) (id : Int) : RT := { R with T := (Th.setD R.T { (Th.findH R.T id).getD Th.thZ with pr := 1 }).2 }
def goF (R : RT) (os : List OwT) : Nat → RT
  | 0 => R
  | k + 1 => readyR (prioR (goF R os k) (os.getD k ow0).th) (os.getD k ow0).th
set_option maxHeartbeats 4000000 in
theorem bn_C {E : World} {Q : Exit → Act → World → Prop} {ds : List Deferred} {fn : Func} {c : Code} (hf : Tryz.prog.funcs[5]? = some fn) (hc : fn.body = some c) (F C n : Nat) (R : RT) (b : Nat) (p : RP) (s : RL) (hR : IsRl F C n R p s) (hn : n ≤ 800) (os : List OwT) (T : Nat) (hos : os.length = T) (hT : T ≤ 3) (b1 b5 bo : Nat) (v9 v14 : Value) (Z : List Chunk)
    (k : ∀ s' X, IsRl F C (n + T) (goF R os T) p s' → PostS fn.ntmps E Q .normal (lbF T b1 b5 bo v9 v14) ds (pcC b5 b :: allL b p s' (goF R os T) (X ++ (boC bo os :: Z)))) :
    CodeS Tryz.prog none fn.ntmps E (hed (aft 12 c)) Q (lbF T b1 b5 bo v9 v14) ds (pcC b5 b :: allL b p s R (boC bo os :: Z)) := by
  subst hos
  obtain rfl := Option.some.inj (hf.symm.trans Tryz.func5)
  obtain rfl := Option.some.inj hc
  simp only [Tryz.func5, Tryz.ntmps5, aft, hed] at k ⊢
  refine gzU ?_
  refine k_loop (α := Nat × RL × List Chunk) (fun x => (130, .slice (some ⟨bo, 0, none⟩) os.length os.length) :: (131, .int .i64 (os.length : Nat)) :: (132, .int .i64 x.1) :: lbF os.length b1 b5 bo v9 v14) (fun x => pcC b5 b :: allL b p x.2.1 (goF R os x.1) (x.2.2 ++ (boC bo os :: Z)))
      (fun x => x.1 ≤ os.length ∧ IsRl F C (n + x.1) (goF R os x.1) p x.2.1) (fun x => os.length - x.1) (0, s, []) ⟨Nat.zero_le _, hR⟩ ⟨rfl, rfl, rfl, rfl, rfl, rfl, rfl, rfl, trivial⟩ .refl ?_
  rintro ⟨i, s, X⟩ ⟨hi, hR⟩
  simp only at hi hR ⊢
  by_cases hlt : i < os.length
  · obtain ⟨o, hio⟩ : ∃ o, os[i]? = some o := ⟨_, List.getElem?_eq_getElem hlt⟩
    obtain ⟨x1, x2⟩ := owV_ext hio
    have e1 : goF R os (i + 1) = readyR (prioR (goF R os i) o.th) o.th := by
      show readyR (prioR _ (os.getD i ow0).th) (os.getD i ow0).th = _
      rw [List.getD, hio, Option.getD_some]
    obtain ⟨R1, hR1⟩ : ∃ R1, R1 = goF R os i := ⟨_, rfl⟩
    rw [← hR1] at hR e1 ⊢
    refine c_keep (l' := boC bo os :: pcC b5 b :: rlC b p :: (s.T ++ (As.asA p.n R1.N :: (s.M ++ (s.C ++ (s.A ++ (s.H ++ (s.Q ++ (s.E ++ (s.V ++ (X ++ Z))))))))))) (by unfold allL; exact keep_ac []) ?_
    refine gzU ?_
    refine t_q (q_loadA rfl (.head _) x1 x2) rfl rfl rfl ?_
    refine gzU ?_
    refine t_e e_alloc rfl rfl rfl ?_; rintro _ _ ⟨b18, _, rfl, rfl⟩
    refine gzU ?_
    refine c_keep (l' := owC b18 o :: pcC b5 b :: rlC b p :: (s.T ++ (boC bo os :: (As.asA p.n R1.N :: (s.M ++ (s.C ++ (s.A ++ (s.H ++ (s.Q ++ (s.E ++ (s.V ++ (X ++ Z)))))))))))) (by dsimp only [owC, owL]; exact keep_ac []) ?_
    have hsub1 : ∀ c, c ∈ owC b18 o :: pcC b5 b :: rlC b p :: s.T → c ∈ owC b18 o :: pcC b5 b :: rlC b p :: (s.T ++ (boC bo os :: (As.asA p.n R1.N :: (s.M ++ (s.C ++ (s.A ++ (s.H ++ (s.Q ++ (s.E ++ (s.V ++ (X ++ Z)))))))))) ) := fun c hc => @List.mem_append_left _ c (owC b18 o :: pcC b5 b :: rlC b p :: s.T) _ hc
    refine c_draw [(0, true), (1, true), (2, true), (3, true), (4, true), (5, true), (6, true), (7, true), (8, false), (9, false), (10, true)] [[], [0], [], [2], [0, 1, 2, 3], [0, 1, 2, 3, 4], [0, 1, 2, 3, 4, 5], [0, 1, 2, 3, 4, 5], [], [0, 1, 2, 3, 4, 5, 6, 8], [0, 1, 2, 3, 4, 5, 6, 7, 8, 9]] (owC b18 o :: pcC b5 b :: rlC b p :: s.T) (by kernel_rfl) (by kernel_rfl) zAtt (hsub1) ?_
    refine pzU ?_
    apply pl_q
    · exact q_call rfl rfl (fun l hl => rthreads_any b p l (hl _ (.tail _ (.tail _ (.head _)))))
    · rfl
    · rfl
    · rfl
    refine pzU ?_
    apply pl_q
    · exact q_call rfl rfl (fun l hl => Th.get_any p.t R1.T s.T hR.th o.th l (fun c hc => hl _ (.tail _ (.tail _ (.tail _ hc)))))
    · rfl
    · rfl
    · rfl
    obtain ⟨t, ht⟩ : ∃ t, t = (Th.findH R1.T o.th).getD Th.thZ := ⟨_, rfl⟩
    rw [← ht]
    refine pzU ?_
    apply pl_e
    · exact e_alloc
    · rfl
    · rfl
    · rfl
    · rintro _ _ ⟨b5, _, _, rfl⟩ c hc; exact .tail _ (hsub1 c hc)
    rintro _ _ ⟨b19, _, rfl, rfl⟩
    apply pl_n
    · exact e_storeLA (cs' := Th.encH t) rfl rfl rfl (by simp [Value.oneCell']) (.head _) (by repeat (first | apply LSetA.done | apply LSetA.put)) .here
    · rfl
    · rfl
    · rintro _ _ ⟨_, rfl⟩ c hc; exact .tail _ (hsub1 c hc)
    rintro _ _ ⟨rfl, rfl⟩
    refine pzU ?_
    refine gzU ?_
    obtain ⟨t1, ht1⟩ : ∃ t1, t1 = { t with pr := 1 } := ⟨_, rfl⟩
    have hsub2 : ∀ (lq : List Chunk) (c : Chunk), c ∈ [Th.thC b19 t1, pcC b5 b, rlC b p] → c ∈ lq ++ (Th.thC b19 t1 :: pcC b5 b :: rlC b p :: (owC b18 o :: boC bo os :: As.asA p.n R1.N :: (s.M ++ (s.C ++ (s.A ++ (s.H ++ (s.Q ++ (s.E ++ (s.V ++ (X ++ Z)))))))))) := fun lq c hc => List.mem_append_right _ (@List.mem_append_left _ c [_, _, _] _ hc)
    refine c_keep (l' := s.T ++ (Th.thC b19 t1 :: pcC b5 b :: rlC b p :: (owC b18 o :: boC bo os :: As.asA p.n R1.N :: (s.M ++ (s.C ++ (s.A ++ (s.H ++ (s.Q ++ (s.E ++ (s.V ++ (X ++ Z)))))))))) ) (by rw [ht1]; dsimp only [Th.thC, Th.encH]; exact keep_ac []) ?_
    refine c_draw [(0, true), (1, true), (2, true), (3, false)] [[], [0], [], [0, 1, 2]] ([Th.thC b19 t1, pcC b5 b, rlC b p]) (by kernel_rfl) (by kernel_rfl) zAtt (hsub2 _) ?_
    refine pzU ?_
    apply pl_q
    · exact q_call rfl rfl (fun l hl => rthreads_any b p l (hl _ (.tail _ (.tail _ (.head _)))))
    · rfl
    · rfl
    · rfl
    refine pzU ?_
    apply pl_e
    · exact e_call0 rfl rfl (Th.set_any p.t R1.T s.T hR.th t1 _)
    · rfl
    · rfl
    · rfl
    · rintro _ _ ⟨_, _, _, rfl⟩; exact hsub2 _
    rintro _ _ ⟨rfl, lT, hT, rfl⟩
    refine pzU ?_
    rw [ht1, ht] at hT
    have hR2 : IsRl F C (n + i) (prioR R1 o.th) p ⟨s.M, s.C, s.A, s.H, lT, s.Q, s.E, s.V⟩ := ⟨hR.mem, hR.co, hR.ar, hR.an, hR.ho, hR.inv, hR.giv, hT, hR.qu, hR.ql, hR.en, hR.cu, hR.c1⟩
    refine p_keep (l' := owC b18 o :: pcC b5 b :: allL b p ⟨s.M, s.C, s.A, s.H, lT, s.Q, s.E, s.V⟩ (prioR R1 o.th) (boC bo os :: Th.thC b19 t1 :: (X ++ Z))) (by unfold allL; dsimp only [prioR]; exact keep_ac []) ?_
    refine gzU ?_
    refine s_keep (l' := allL b p ⟨s.M, s.C, s.A, s.H, lT, s.Q, s.E, s.V⟩ (prioR R1 o.th) (owC b18 o :: pcC b5 b :: boC bo os :: Th.thC b19 t1 :: (X ++ Z))) (by unfold allL; exact keep_ac []) ?_
    refine t_e (e_call0 rfl rfl (state_any F C (n + i) _ b p _ hR2 (by omega) o.th _)) rfl rfl rfl ?_
    rintro _ _ ⟨_, s1, X1, hR3, rfl⟩
    rw [← e1] at hR3 ⊢
    refine gzU ?_
    refine k_next (i + 1, s1, owC b18 o :: Th.thC b19 t1 :: (X1 ++ X)) ⟨by omega, hR3⟩ (by simp only; omega) ⟨rfl, rfl, rfl, rfl, rfl, rfl, rfl, rfl, trivial⟩ (by unfold allL; exact keep_ac [])
  · refine gzU ?_
    obtain rfl : i = os.length := by omega
    exact p_weak (fr' := lbF os.length b1 b5 bo v9 v14) ⟨rfl, rfl, rfl, rfl, rfl, trivial⟩ .refl (k s X hR)
end Go.Proofs.YtcjknmpogkofpaaGreat

/- boot.New: the first state. -/
-- GU
set_option linter.unusedVariables false
set_option linter.unusedSimpArgs false
namespace Go.Proofs.YtcjknmpogkofpaaGreat
open Go.RowKit
set_option maxRecDepth 20000
set_option pp.deepTerms false
set_option pp.deepTerms.threshold 4

def bootI (F T : Nat) (sh : Bool) : List Int := (mkL F (thingsL F T sh)).2
def bootO (F T : Nat) (sh : Bool) : List OwT := ownF (bootI F T sh) T T
def bootS (F T : Nat) (sh : Bool) : Int := if sh = true then (bootI F T sh).getD (4 * T) 0 else 0
def bootA (F T : Nat) (sh : Bool) : RT := layF (mkL F (thingsL F T sh)).1 (bootO F T sh) T
def bootB (F T : Nat) (sh : Bool) : RT := if sh = true then { bootA F T sh with H := shareH (bootA F T sh).H (bootO F T sh) (bootS F T sh) } else bootA F T sh
def bootR (F T : Nat) (sh : Bool) : RT := goF (bootB F T sh) (bootO F T sh) T
theorem kz1 (b : Nat) (p : RP) (s : RL) (R : RT) (c1 c2 c3 c4 c5 : Chunk) (X : List Chunk) : Keep (c1 :: c2 :: c3 :: c4 :: c5 :: allL b p s R X) (c4 :: c5 :: allL b p s R (c1 :: c2 :: c3 :: X)) := by unfold allL; exact keep_ac []
theorem kz2 (b : Nat) (p : RP) (s : RL) (R : RT) (c1 c2 c3 c4 c5 : Chunk) (A Y X : List Chunk) : Keep (c4 :: c5 :: (A ++ allL b p s R (Y ++ c1 :: c2 :: c3 :: X))) (c3 :: c4 :: c5 :: (A ++ allL b p s R (Y ++ (c1 :: c2 :: X)))) := by unfold allL; exact keep_ac []
theorem kz3 (b : Nat) (p : RP) (s : RL) (R : RT) (c1 c2 c3 c4 c5 : Chunk) (A Y X : List Chunk) : Keep (c3 :: c4 :: c5 :: (A ++ allL b p s R (Y ++ (c1 :: c2 :: X)))) (c4 :: c5 :: (A ++ allL b p s R (Y ++ c1 :: c2 :: c3 :: X))) := by unfold allL; exact keep_ac []
theorem kz4 (b : Nat) (p : RP) (s : RL) (R : RT) (c3 c4 c5 : Chunk) (A X : List Chunk) : Keep (c3 :: c4 :: c5 :: (A ++ allL b p s R X)) (allL b p s R (c5 :: c4 :: c3 :: (A ++ X))) := by unfold allL; exact keep_ac []
theorem kz4' (b : Nat) (p : RP) (s : RL) (R : RT) (c1 c2 c3 c4 c5 : Chunk) (A Y2 Y X : List Chunk) : Keep (allL b p s R (Y2 ++ (c5 :: c4 :: c3 :: (A ++ (Y ++ (c1 :: c2 :: X)))))) (c4 :: c5 :: (A ++ allL b p s R ((Y2 ++ Y) ++ c1 :: c2 :: c3 :: X))) := by unfold allL; exact keep_ac []
theorem kz5 (b : Nat) (p : RP) (s : RL) (R : RT) (c4 c5 : Chunk) (A X : List Chunk) : Keep (c4 :: c5 :: (A ++ allL b p s R X)) (c4 :: allL b p s R (c5 :: (A ++ X))) := by unfold allL; exact keep_ac []
set_option maxHeartbeats 4000000 in
theorem kz6 (b : Nat) (p : RP) (s : RL) (R : RT) (k m c1 c2 c3 c4 c5 : Chunk) (A W Y X G : List Chunk) : Keep (k :: c4 :: allL b p s R (W ++ c5 :: (A ++ (Y ++ (c1 :: c2 :: c3 :: (X ++ m :: G)))))) ([m] ++ (k :: (A ++ allL b p s R ((c4 :: c5 :: c1 :: c2 :: c3 :: (W ++ (Y ++ X))) ++ G)))) := by unfold allL; exact keep_ac []
set_option maxHeartbeats 4000000 in
theorem bnew_ok (F C T : Nat) (sh : Bool) (hT1 : 1 ≤ T) (hT : T ≤ 3) (hC1 : 1 ≤ C) (hC : C ≤ 3) (hF : 11 * T ≤ F) (hF2 : F ≤ 64) (G : List Chunk) : Fn Tryz.prog 5 [.agg (List.toArray [.int .i64 F, .int .i64 C, .int .i64 T, .bool sh])] G fun v l' => ∃ B b v14 p s X cs, v = .tuple #[pV B, v14, .int .i64 0] ∧ IsRl F C 60 (bootR F T sh) p s ∧ OwnSl 3 1 v14 T (((bootO F T sh).map OwT.th).map intQ) cs ∧ l' = knC B b :: (cs ++ allL b p s (bootR F T sh) (X ++ G)) := by
  have hmay : mayB F C T = true := by simp [mayB]; omega
  refine fn_of_body Tryz.func5 rfl rfl fun E => ?_
  simp only [argF, Tryz.ntmps5]
  refine gzU ?_
  refine t_e (e_boxA rfl) rfl rfl rfl ?_
  rintro _ _ ⟨b1, _, rfl, rfl⟩
  refine gzU ?_
  refine t_q (q_call rfl rfl (fun l hl => bmay_any F C T sh l)) rfl rfl rfl ?_
  rw [hmay]
  refine gzU ?_
  refine t_e (e_call0 rfl rfl (rnew_any F C ⟨by omega, by omega⟩ ⟨by omega, by omega⟩ _)) rfl rfl rfl ?_
  rintro _ _ ⟨b, p, s0, X0, rfl, hR0, rfl⟩
  refine gzU ?_
  refine t_e e_alloc rfl rfl rfl ?_; rintro _ _ ⟨b5, _, rfl, rfl⟩
  refine gzU ?_
  refine s_keep (l' := pcC b5 b :: ccC b1 F C T sh :: allL b p s0 (newR F) (X0 ++ G)) (by unfold allL; dsimp only [pcC, ccC, pV]; simp only [List.getElem_toArray, List.getElem_cons_zero]; exact keep_ac []) ?_
  refine gzU ?_
  refine t_e (e_makeSlice (n := T) (kk := 5) (yb := 40) (zs := owL ow0) (xs := owV (List.replicate T ow0)) rfl rfl (by omega) (by omega) (by decide) (own_rows T)) rfl rfl rfl ?_
  rintro _ _ ⟨bo, _, rfl, rfl⟩
  refine gzU ?_
  refine t_e e_alloc rfl rfl rfl ?_; rintro _ _ ⟨b8, _, rfl, rfl⟩
  refine gzU ?_
  refine t_e (e_call rfl rfl (things_any F C T sh _)) rfl rfl rfl ?_
  rintro _ _ ⟨B1, rfl, rfl⟩
  refine gzU ?_
  refine c_rangeM (α := Int × Int × Int) (ps := [39]) (lb := [pV B1]) rfl (things_iter B1 F C T sh hT1 hT hF hF2) (fun _ => rfl) rfl (InL F C b p b8) (fun _ _ _ => False)
    (allL b p s0 (newR F) (idC b8 (.slice none 0 0) :: ([] ++ X0))) ((bo, Obj.cells (List.toArray (owV (List.replicate T ow0))) 92 (0, 0)) :: pcC b5 b :: ccC b1 F C T sh :: G) (fun _ _ _ _ _ => trivial) (by unfold allL; dsimp only [idC, cfC]; simp only [List.nil_append, List.getElem_toArray, List.getElem_cons_zero]; exact keep_ac []) ⟨s0, _, [], X0, hR0, OwnSl.nil _ _, rfl⟩ ?_ ?_ ?_
  · rintro E r rec pre x l1 T' ⟨fn, tmps, D, rfl⟩ hTs ⟨s, v, cs, X, hR, ho, rfl⟩ hsp
    have hlen : (pre ++ [x]).length ≤ 25 := by
      have := hsp.length_le
      have h2 : (thingsL F T sh).length ≤ 25 := by unfold thingsL; rw [layT_len, kzF_len]; cases sh <;> simp <;> omega
      omega
    have hlen' : pre.length + 1 ≤ 25 := by simpa using hlen
    have hm5 : pcC b5 b ∈ T' := hTs _ (.tail _ (.head _))
    simp only [putPs]
    generalize hLO : Obj.loop _ = LO
    obtain ⟨R, hRe⟩ : ∃ R, R = (mkL F pre).1 := ⟨_, rfl⟩
    rw [← hRe] at hR
    rw [← hRe]
    refine c_keep (l' := (r, LO) :: (allL b p s R (idC b8 v :: (cs ++ X)) ++ T')) (by unfold allL; exact keep_ac []) ?_
    refine gzU ?_
    refine t_e e_alloc rfl rfl rfl ?_; rintro _ _ ⟨b10, _, rfl, rfl⟩
    refine gzU ?_
    subst hLO
    refine p_begin (by exact zUpd) ?_
    generalize hLO : Obj.loop _ = LO
    refine gzU ?_
    refine t_q (q_load (v := pV b) rfl (.tail _ (.tail _ (List.mem_append_right _ hm5))) rfl) rfl rfl rfl ?_
    refine gzU ?_
    refine s_keep (l' := allL b p s R ((b10, Obj.cells (List.toArray [.int .i64 x.1, .int .i64 x.2.1, .int .i64 x.2.2]) 88 (0, 0)) :: (r, LO) :: idC b8 v :: (cs ++ (X ++ T')))) (by unfold allL; exact keep_ac []) ?_
    refine t_e (e_call0 rfl rfl (make_any F C pre.length R b p s hR (by omega) x.1 x.2.1 x.2.2 _)) rfl rfl rfl ?_
    rintro _ _ ⟨rfl, s1, X1, hR1, rfl⟩
    refine s_keep (l' := idC b8 v :: (cs ++ (allL b p s1 (makeR R x.1 x.2.1 x.2.2).2 (X1 ++ ((b10, Obj.cells (List.toArray [.int .i64 x.1, .int .i64 x.2.1, .int .i64 x.2.2]) 88 (0, 0)) :: (r, LO) :: (X ++ T')))))) (by unfold allL; exact keep_ac []) ?_
    refine gzU ?_
    refine t_e (e_lit1 (v := intQ (makeR R x.1 x.2.1 x.2.2).1.1) rfl rfl) rfl rfl rfl ?_
    rintro _ _ ⟨bl, _, rfl, rfl⟩
    refine s_keep (l' := cs ++ ((bl, Obj.cells (List.toArray [intQ (makeR R x.1 x.2.1 x.2.2).1.1]) 3 (0, 0)) :: idC b8 v :: allL b p s1 (makeR R x.1 x.2.1 x.2.2).2 (X1 ++ ((b10, Obj.cells (List.toArray [.int .i64 x.1, .int .i64 x.2.1, .int .i64 x.2.2]) 88 (0, 0)) :: (r, LO) :: (X ++ T'))))) (keep_ac []) ?_
    have hnl : (mkL F pre).2.length = pre.length := mkL_len F pre
    refine t_e (ce_append (k := 1) (yb := 8) (n := pre.length) (xs := (mkL F pre).2.map intQ) (news := [intQ (makeR R x.1 x.2.1 x.2.2).1.1]) (zs := [.int .i64 0]) (cs := cs) rfl rfl rfl ho (List.mem_append_right _ List.mem_cons_self) (fun j u hj => by simpa using hj) rfl (by simp [Value.oneCell', intQ]) (by unfold maxLen; omega) (by omega)) rfl rfl rfl ?_
    rintro v' _ ⟨cs', ho', rfl⟩
    have hv1 : v'.oneCell' = true := ho'.one
    refine s_keep (l' := idC b8 v :: (cs' ++ ((bl, Obj.cells (List.toArray [intQ (makeR R x.1 x.2.1 x.2.2).1.1]) 3 (0, 0)) :: allL b p s1 (makeR R x.1 x.2.1 x.2.2).2 (X1 ++ ((b10, Obj.cells (List.toArray [.int .i64 x.1, .int .i64 x.2.1, .int .i64 x.2.2]) 88 (0, 0)) :: (r, LO) :: (X ++ T')))))) (keep_ac []) ?_
    apply t_n
    · exact e_storeL rfl rfl hv1 (by exact zMem) .zero (by exact zUpd)
    · rfl
    · rfl
    rintro _ _ ⟨rfl, rfl⟩
    refine gzU ?_
    subst hLO
    have e1 : mkL F (pre ++ [x]) = ((makeR R x.1 x.2.1 x.2.2).2, (mkL F pre).2 ++ [(makeR R x.1 x.2.1 x.2.2).1.1]) := by rw [mkL_snoc, hRe]; rfl
    refine p_round (allL b p s1 (mkL F (pre ++ [x])).1 (idC b8 v' :: (cs' ++ ((bl, Obj.cells (List.toArray [intQ (makeR R x.1 x.2.1 x.2.2).1.1]) 3 (0, 0)) :: (X1 ++ ((b10, Obj.cells (List.toArray [.int .i64 x.1, .int .i64 x.2.1, .int .i64 x.2.2]) 88 (0, 0)) :: X)))))) ?_ ⟨s1, v', cs', _, ?_, ?_, rfl⟩
    · rw [e1]; unfold allL; dsimp only [idC]; exact keep_ac []
    · rw [e1, List.length_append]; exact hR1
    · rw [e1, List.length_append]; simp only [List.map_append, List.map_cons, List.map_nil]; exact ho'
  · rintro D xs l hxs ⟨s, v, cs, X, hR, ho, rfl⟩
    subst hxs
    obtain ⟨ids, hids⟩ : ∃ ids, ids = bootI F T sh := ⟨_, rfl⟩
    have hids' : (mkL F (thingsL F T sh)).2 = ids := hids.symm
    rw [hids'] at ho
    have hlen : (thingsL F T sh).length = 5 * T + sh.toNat := by unfold thingsL; rw [layT_len, kzF_len]
    have hil : ids.length = 5 * T + sh.toNat := by rw [hids]; unfold bootI; rw [mkL_len, hlen]
    have hsh : sh.toNat ≤ 1 := by cases sh <;> decide
    rw [hlen] at ho hR
    rcases ho.2 with ⟨_, h0, _⟩ | ⟨gb, cap, sp, rfl, rfl, _⟩
    · omega
    obtain ⟨R0, hR0⟩ : ∃ R0, R0 = (mkL F (thingsL F T sh)).1 := ⟨_, rfl⟩
    rw [← hR0] at hR ⊢
    refine p_keep (l' := laL F C T sh ids sp b1 b5 b8 bo b gb cap 0 ++ (allL b p s R0 (X ++ (markC D :: G)))) (by unfold laL allL; simp only [ownF, List.range_zero, List.map_nil, List.nil_append, Nat.sub_zero]; exact keep_ac []) ?_
    iterate 3 refine gzSU ?_
    refine c_sub (fr' := laF T b1 b5 b8 bo) ⟨rfl, rfl, rfl, rfl, rfl, trivial⟩ (bn_A Tryz.func5 rfl F C T sh hT1 hT ids sp hil b1 b5 b8 bo b gb cap _ ?_)
    obtain ⟨os, hos⟩ : ∃ os, os = bootO F T sh := ⟨_, rfl⟩
    have hos1 : ownF ids T T = os := by rw [hos, hids]; rfl
    have hol : os.length = T := by rw [hos]; exact ownF_len _ _ _ (Nat.le_refl _)
    refine p_then ?_
    refine c_join (α := Unit) (fun _ => [(1, pV b1), (5, pV b5), (7, .slice (some ⟨bo, 0, none⟩) T T), (9, .int .i64 (bootS F T sh))]) (fun _ => idC b8 (.slice (some ⟨gb, 0, none⟩) (5 * T + sh.toNat) cap) :: (gb, Obj.cells (List.toArray (ids.map intQ ++ sp)) 3 (0, 0)) :: ccC b1 F C T sh :: pcC b5 b :: boC bo os :: allL b p s R0 (X ++ (markC D :: G))) (fun _ => True) ?_ ?_
    · unfold laL
      rw [hos1]
      simp only [List.cons_append, List.nil_append]
      have hget : ∀ (x : Int) (m : Nat), x = m → m < ids.length → (List.toArray (ids.map intQ ++ sp))[0 + x.toNat * 1]? = some (intQ (ids.getD m 0)) := fun x m hx hm => by
        subst hx
        rw [Int.toNat_natCast, Nat.mul_one, Nat.zero_add, List.getElem?_toArray, List.getElem?_append_left (by rw [List.length_map]; exact hm), List.getElem?_map, List.getD, List.getElem?_eq_getElem hm]; rfl
      cases sh with
      | false =>
        refine gzU ?_
        exact p_join () trivial ⟨rfl, rfl, rfl, rfl, trivial⟩ .refl
      | true =>
        refine gzU ?_
        refine t_q (q_load (v := intQ (ids.getD (4 * T) 0)) rfl (.tail _ (.head _)) (hget (4 * (T : Int)) (4 * T) (by omega) (by rw [hil]; simp only [Bool.toNat_true]; omega))) rfl rfl rfl ?_
        refine gzU ?_
        rw [hids]
        exact p_join () trivial ⟨rfl, rfl, rfl, rfl, trivial⟩ .refl
    · rintro _ _
      iterate 6 refine gzSU ?_
      refine c_sub (fr' := lbF T b1 b5 bo (.int .i64 (bootS F T sh)) (.slice none 0 0)) ⟨rfl, rfl, rfl, rfl, rfl, trivial⟩ ?_
      obtain ⟨Z, hZ⟩ : ∃ Z, Z = idC b8 (.slice (some ⟨gb, 0, none⟩) (5 * T + sh.toNat) cap) :: (gb, Obj.cells (List.toArray (ids.map intQ ++ sp)) 3 (0, 0)) :: ccC b1 F C T sh :: (X ++ (markC D :: G)) := ⟨_, rfl⟩
      refine c_keep (l' := pcC b5 b :: boC bo os :: allL b p s R0 Z) (by rw [hZ]; exact kz1 ..) ?_
      have hRT : layF R0 os T = bootA F T sh := by rw [hR0, hos]; rfl
      refine bn_B Tryz.func5 rfl F C _ R0 b p s hR (by omega) os T hol hT b1 b5 bo _ _ ?_
      intro s1 Y v14 ct hR ht
      rw [hRT] at hR ⊢
      refine p_then ?_
      refine c_join (α := RL × List Chunk) (fun _ => lbF T b1 b5 bo (.int .i64 (bootS F T sh)) v14) (fun x => pcC b5 b :: boC bo os :: (ct ++ (allL b p x.1 (bootB F T sh) (x.2 ++ Z)))) (fun x => IsRl F C 50 (bootB F T sh) p x.1) ?_ ?_
      · rw [hZ]
        refine c_keep (kz2 ..) ?_
        cases sh with
        | false =>
          have hB : bootB F T false = bootA F T false := by unfold bootB; rw [if_neg (by decide)]
          rw [hB]
          refine gzU ?_
          refine p_join (s1, Y) ?_ ⟨rfl, rfl, rfl, rfl, rfl, trivial⟩ (kz3 ..)
          exact hR.mono (by simp only [Bool.toNat_false]; omega)
        | true =>
          have hB : bootB F T true = { bootA F T true with H := shareH (bootA F T true).H os (bootS F T true) } := by unfold bootB; rw [if_pos rfl, hos]
          rw [hB]
          refine gzU ?_
          have hs := share_any F C _ _ b p s1 hR (by omega) os (by omega) (by omega) (bootS F T true) bo T 92 (0, 0) (boC bo os :: pcC b5 b :: ccC b1 F C T true :: (ct ++ (Y ++ (idC b8 (.slice (some ⟨gb, 0, none⟩) (5 * T + true.toNat) cap) :: (gb, Obj.cells (List.toArray (ids.map intQ ++ sp)) 3 (0, 0)) :: (X ++ (markC D :: G)))))) (.head _)
          rw [hol] at hs
          refine s_keep (kz4 ..) ?_
          refine t_e (e_call0 rfl rfl hs) rfl rfl rfl ?_
          rintro _ _ ⟨rfl, s2, Y2, hR2, rfl⟩
          refine gzU ?_
          refine p_join (s2, Y2 ++ Y) ?_ ⟨rfl, rfl, rfl, rfl, rfl, trivial⟩ (kz4' ..)
          exact hR2.mono (by simp only [Bool.toNat_true]; omega)
      · rintro ⟨s2, Y2⟩ hR2
        simp only at hR2 ⊢
        iterate 1 refine gzSU ?_
        have hBT : goF (bootB F T sh) os T = bootR F T sh := by rw [hos]; rfl
        refine c_keep (kz5 ..) ?_
        refine bn_C Tryz.func5 rfl F C _ _ b p s2 hR2 (by omega) os T hol hT b1 b5 bo _ _ _ ?_
        intro s3 W hR3
        rw [hBT] at hR3 ⊢
        rw [hZ]
        refine gzU ?_
        refine t_e (e_call0 rfl rfl (knew_any b _)) rfl rfl rfl ?_
        rintro _ _ ⟨B, rfl, rfl⟩
        refine gzU ?_
        refine k_ret [D] rfl (kz6 ..) (by exact zRes) ⟨B, b, v14, p, s3, _, ct, rfl, hR3.mono (by omega), ?_, rfl⟩
        rw [← hos]
        exact ht
  · intro D c pre l hsp hx
    exact hx.elim
end Go.Proofs.YtcjknmpogkofpaaGreat

/- arena.All, asid.Pools. -/
set_option linter.unusedVariables false
set_option linter.unusedSimpArgs false
namespace Go.Proofs.YtcjknmpogkofpaaGreat
open Go.RowKit
set_option maxRecDepth 20000
set_option pp.deepTerms false
set_option pp.deepTerms.threshold 4
set_option maxHeartbeats 400000

namespace Ar
theorem all_any (b : Nat) (S : ArT) (lq : List Chunk) (hA : IsA b S lq) (l : List Chunk) (hsub : ∀ c, c ∈ lq → c ∈ l) :
    Fn Tryz.prog 47 [.pointer (some ⟨b, 0, none⟩)] l fun v l' => ∃ cs, OwnSl 68 9 v S.os.length (ocs S.os) cs ∧ l' = cs ++ l := by
  have hlen := hA.ok.len
  obtain ⟨hok, v, cs, rfl, ho⟩ := hA
  obtain ⟨gb, hrow, hcs⟩ := rowV_of ho
  refine fn_of_body Tryz.func47 rfl rfl fun E => ?_
  simp only [argF, Tryz.ntmps47]
  refine gz ?_
  refine t_e e_alloc rfl rfl rfl ?_; rintro _ _ ⟨b3, _, rfl, rfl⟩
  refine gz ?_
  refine t_e (e_call0 rfl rfl (each_any _ rfl _)) rfl rfl rfl ?_
  rintro _ _ ⟨B, rfl, rfl⟩
  refine gz ?_
  refine c_range (α := ObT × Nat) (ps := [8, 9]) (lb := [.pointer (some ⟨B, 0, none⟩)]) rfl (each_iter B b S.n S.g v S.os gb hrow (by omega)) (fun _ => rfl) rfl
    (fun pre l => ∃ u cs2, OwnSl 68 9 u pre.length (ocs (pre.map Prod.fst)) cs2 ∧ l = [xB B (some ⟨b, 0, none⟩), (b3, .cells #[u] 40 (0, 0))] ++ cs2)
    (fun c pre l => False)
    _ l (fun pre l2 X2 hX h => by obtain ⟨u, cs2, _, rfl⟩ := h; exact ⟨List.Mem.head _, List.mem_append_right _ (hX _ (hsub _ (.head _)))⟩) (by exact zKeep) ⟨_, [], OwnSl.nil _ _, rfl⟩ ?_ ?_ ?_
  · rintro E r0 rec pre ⟨o, k⟩ l' T ⟨fn, tmps, D, rfl⟩ hT ⟨u, cs2, hown, rfl⟩ hsp
    obtain ⟨ho1, hk, _⟩ := itm_pre hsp
    simp only at ho1 hk
    have hkl := (List.getElem?_eq_some_iff.1 ho1).1
    obtain ⟨sp, rfl⟩ := hcs _ _ ho1
    have hmT := hT _ (hsub _ (.tail _ (.head _)))
    obtain ⟨x1, x2⟩ := ocs_ext ho1 sp
    have hu1 : u.oneCell' = true := hown.one
    simp only [putPs, List.cons_append, List.nil_append]
    refine gz ?_
    refine p_begin (.there (.there (upd_mid _ _ _ _ _))) ?_
    generalize hX1 : (r0, Obj.loop (recOf fn tmps _ _ _ D .busy none)) :: T = X1
    have hmX : (gb, Obj.cells (List.toArray (ocs S.os ++ sp)) 68 (0, 0)) ∈ X1 := by rw [← hX1]; exact .tail _ hmT
    refine gz ?_
    refine c_draw [(0, true), (1, true), (2, true), (3, true), (4, false), (5, false), (6, false)] [[], [], [1], [1, 2], [1, 2, 3], [0, 1, 2, 3, 4], [0, 1, 2, 3, 4, 5]] ([]) (by kernel_rfl) (by kernel_rfl) zAtt zHR ?_
    refine pz ?_
    apply pl_s (S := [(b3, .cells #[u] 40 (0, 0))])
    · exact q_load rfl (.head _) rfl
    · intro c hc; cases hc with
      | head => exact .tail _ (.head _)
      | tail _ h => cases h
    · rfl
    · rfl
    · rfl
    refine pz ?_
    apply pl_s (S := [(gb, Obj.cells (List.toArray (ocs S.os ++ sp)) 68 (0, 0))])
    · exact q_loadA rfl (.head _) x1 x2
    · intro c hc; cases hc with
      | head => exact .tail _ (.tail _ (List.mem_append_right _ hmX))
      | tail _ h => cases h
    · rfl
    · rfl
    · rfl
    refine pz ?_
    apply pl_eS
    · apply e_litA (ws := obC o) (k := 9)
      · rfl
      · rfl
      · rfl
      · decide
      · decide
    · rfl
    · rfl
    · rfl
    · intro _ _ _ c hc; cases hc
    · rintro _ _ ⟨bl, _, rfl, rfl⟩ x hx _ c hc
      have h3 : ∀ q : Obj, (b3, q) ∈ (bl, Obj.cells (List.toArray (obC o)) 68 (0, 0)) :: xB B (some ⟨b, 0, none⟩) :: (b3, q) :: (cs2 ++ X1) := fun q => .tail _ (.tail _ (.head _))
      simp only [List.mem_cons, List.not_mem_nil, or_false] at hx
      rcases hx with rfl | rfl <;> simp only [List.mem_cons, List.not_mem_nil, or_false] at hc <;> subst hc
      · exact .tail _ (.tail _ (.tail _ (List.mem_append_right _ hmX)))
      · exact h3 _
    rintro _ _ ⟨bl, _, rfl, rfl⟩
    refine pz ?_
    apply pl_eS
    · apply e_appX (k := 9) (X := [xB B (some ⟨b, 0, none⟩), (b3, .cells #[u] 40 (0, 0))]) (cs := cs2) (xs := ocs (pre.map Prod.fst)) (n := pre.length) (zs := obZ) (ws := obC o)
      · rfl
      · rfl
      · rfl
      · exact hown
      · rfl
      · simp [Value.oneCell']
      · omega
      · decide
    · rfl
    · rfl
    · rfl
    · intro _ _ _ c hc; cases hc
    · exact fun _ _ _ x hx ha => anc_all (by kernel_rfl) hx ha
    rintro v' _ ⟨c2, ho2, rfl⟩
    have hv1 : v'.oneCell' = true := ho2.one
    simp only [List.cons_append, List.nil_append]
    apply pl_nS
    · apply e_storeL (cs := [u])
      · rfl
      · rfl
      · exact hv1
      · exact zMem
      · exact .zero
      · exact zUpd
    · rfl
    · rfl
    · intro _ _ _ c hc; cases hc
    · exact fun _ _ _ x hx ha => anc_all (by kernel_rfl) hx ha
    rintro _ _ ⟨rfl, rfl⟩
    refine pz ?_
    refine gz ?_
    rw [← hX1]
    refine p_round _ (.refl) ⟨v', c2, ?_, rfl⟩
    rw [List.map_append, show [(o, k)].map Prod.fst = [o] from rfl, ocs_snoc, List.length_append]; exact ho2
  · rintro D xs l' rfl ⟨u, cs2, hown, rfl⟩
    have hu1 : u.oneCell' = true := hown.one
    simp only [List.cons_append, List.nil_append]
    refine gz ?_
    refine k_ret2 [D] (cs2 ++ l) rfl (l' := cs2 ++ l) (by exact zKeep) (by exact zRes) .refl ?_
    rw [itm_len, show (itm S.os).map Prod.fst = S.os from List.zipIdx_map_fst ..] at hown
    exact ⟨cs2, hown, rfl⟩
  · rintro D c pre l' hsp h
    exact h.elim
end Ar
namespace As
theorem setFrom_all (cs vs : List Value) (h : vs.length = cs.length) : setFrom (List.toArray cs) 0 vs = List.toArray vs := by
  apply Array.ext_getElem?
  intro j
  rw [setFrom_get _ _ _ _ (by simp [h])]
  by_cases hj : j < vs.length
  · rw [if_pos (by omega)]; simp
  · rw [if_neg (by omega)]; simp; rw [List.getElem?_eq_none (by omega), List.getElem?_eq_none (by omega)]
theorem LSub.of_all {n : Nat} (ws : List Value) (h : ws.length = n) : LSub ws 0 n ws := by
  subst h
  induction ws with
  | nil => exact .done
  | cons w ws ih => exact .take ih
theorem pools_any (b : Nat) (s : ASt) (ws : List Value) (hw : s.cells.extract 0 80 = List.toArray ws) (hl : ws.length = 80) (h1 : ∀ v, v ∈ ws → v.oneCell' = true) (l : List Chunk) (hm : asA b s ∈ l) : Fn Tryz.prog 51 [.pointer (some ⟨b, 0, none⟩)] l fun v l' => v = .agg (List.toArray ws) ∧ l' = l := by
  refine fn_of_body Tryz.func51 rfl rfl fun E => ?_
  simp only [argF, Tryz.ntmps51]
  refine gz ?_
  refine t_e e_alloc rfl rfl rfl ?_; rintro _ _ ⟨b2, _, rfl, rfl⟩
  refine gz ?_
  refine t_q (q_loadA (cs := s.cells) (n := 80) rfl (by exact zMem) (by rw [s.cells_size]; omega) hw) rfl rfl rfl ?_
  refine gz ?_
  apply t_n
  · apply e_storeA (n := 80)
    · rfl
    · rfl
    · simpa using hl
    · exact h1
    · exact .here
    · simp
  · rfl
  · rfl
  rintro _ _ ⟨rfl, rfl⟩
  rw [List.toList_toArray, setFrom_all _ _ (by rw [hl]; rfl)]
  refine gz ?_
  refine k_ret2 [] ((b2, .cells (List.toArray ws) 47 (0, 0)) :: l) rfl (l' := l) (by exact zKeep) (rs_cellA rfl (by exact zMem) (LSub.of_all (n := 80) _ hl) .nil) (by exact zKeep) ⟨rfl, rfl⟩
end As
end Go.Proofs.YtcjknmpogkofpaaGreat

/- Effects that only add blocks, in a row, and one more that may come at any place among them. Laws of my own, no program's. -/
set_option linter.unusedVariables false
set_option linter.unusedSimpArgs false
namespace Go.Proofs.YtcjknmpogkofpaaGreat
open Go.RowKit

section
variable {P : Program} {ro : Option Nat} {N : Nat} {E : World} {ops : Array Oper} {Q : Exit → Act → World → Prop} {R : List Chunk} {tbl : List (List Nat)}
theorem pl_perm {sw : Sw} {sp : Spec} {pl : List PlanOp} {fr : Fr} {ds : List Deferred} {l l' : List Chunk} (p : l.Perm l') (h : PlanS P ro N E ops Q R tbl sw sp pl fr ds l) : PlanS P ro N E ops Q R tbl sw sp pl fr ds l' := by
  induction h generalizing l' with
  | nil h => exact .nil (p_keep (.of_perm p.symm) h)
  | q h1 h2 h3 _ ih => exact .q h1 h2 h3 (ih p)
  | gq h1 h2 h3 h4 h5 h6 _ ih => exact .gq h1 h2 h3 h4 h5 h6 (ih p)
  | gs h1 h2 h3 h4 h5 h6 h7 h8 h9 _ ih => exact .gs h1 h2 h3 h4 h5 h6 (fun c hc => p.mem_iff.1 (h7 c hc)) h8 (fun hk x hx ha c hc => p.mem_iff.1 (h9 hk x hx ha c hc)) (ih p)
  | gu h1 h2 h3 h4 h5 h7 h8 h9 _ ih => exact .gu h1 h2 h3 h4 h5 (fun c hc => p.mem_iff.1 (h7 c hc)) h8 (fun hk x hx ha c hc => p.mem_iff.1 (h9 hk x hx ha c hc)) (ih p)
  | e h1 h2 h3 h4 h5 h6 ih => exact .e (OpE.re (.of_perm p.symm) h1 fun v l2 hk => ⟨l2, .refl, hk⟩) h2 h3 h4 h5 h6
  | ge h1 h2 h3 h4 h5 h6 h7 h8 h9 ih => exact .ge (OpE.re (.of_perm p.symm) h1 fun v l2 hk => ⟨l2, .refl, hk⟩) h2 h3 h4 h5 h6 h7 h8 h9
  | weak h1 _ ih => exact .weak h1 (ih p)
  | sq h1 h2 h3 h4 _ ih => exact .sq h1 (fun c hc => p.mem_iff.1 (h2 c hc)) h3 h4 (ih p)
  | alt oo K rf sf h1 h2 h3 h4 ih => exact .alt oo K rf sf h1 (fun j hj => ⟨OpE.re (.of_perm p.symm) (h2 j hj).1 fun v l2 hk => ⟨l2, .refl, hk⟩, (h2 j hj).2⟩) h3 h4
  | alt2 h1 h2 h3 h4 _ _ ih1 ih2 => exact .alt2 h1 h2 h3 h4 (ih1 p) (ih2 p)

/-- an effect that adds blocks: its number, the operation, what it tells of its result and its blocks -/
abbrev AdS := Nat × Oper × (Value → List Chunk → Prop)
abbrev plA (x : AdS) : PlanOp := (x.1, false, x.2.1)
def FLe (fr fr' : Fr) : Prop := ∀ d v, flook fr d = some v → flook fr' d = some v
structure IsAd (P : Program) (ro : Option Nat) (N : Nat) (fr : Fr) (l : List Chunk) (x : AdS) : Prop where
  law' : ∀ l', (∀ c, c ∈ l → c ∈ l') → OpE P ro N fr l' x.2.1 fun v l2 => ∃ cs, x.2.2 v cs ∧ l2 = cs ++ l'
  guard : x.2.1.guard = none
  dst : ∃ d, x.2.1.dst = some d ∧ Nat.blt d N = true ∧ flook fr d = none
theorem OpE.le {fr fr' : Fr} {l : List Chunk} {o : Oper} {K : Value → List Chunk → Prop} (h : FLe fr fr') (ho : OpE P ro N fr l o K) : OpE P ro N fr' l o K := ⟨ho.nodef, fun E a W hf hs => ho.val E a W (hf.sub h) hs⟩
theorem OpQ.le {fr fr' : Fr} {l : List Chunk} {o : Oper} {v : Value} (h : FLe fr fr') (ho : OpQ P ro N fr l o v) : OpQ P ro N fr' l o v := ⟨fun l' hl => (ho.run l' hl).le h⟩
theorem IsAd.law {fr : Fr} {l : List Chunk} {x : AdS} (h : IsAd P ro N fr l x) (fr' : Fr) (l' : List Chunk) (h1 : FLe fr fr') (h2 : ∀ c, c ∈ l → c ∈ l') : OpE P ro N fr' l' x.2.1 fun v l2 => ∃ cs, x.2.2 v cs ∧ l2 = cs ++ l' := (h.law' l' h2).le h1
def AddK : List AdS → Fr → List Chunk → (Fr → List Chunk → Prop) → Prop
  | [], fr, l, k => k fr l
  | x :: xs, fr, l, k => ∀ v cs, x.2.2 v cs → AddK xs (putF x.2.1.dst v fr) (cs ++ l) k
theorem AddK.mono {k k' : Fr → List Chunk → Prop} (h : ∀ fr l, k fr l → k' fr l) : ∀ {xs : List AdS} {fr : Fr} {l : List Chunk}, AddK xs fr l k → AddK xs fr l k'
  | [], _, _, hk => h _ _ hk
  | x :: xs, _, _, hk => fun v cs hx => AddK.mono h (hk v cs hx)
/-- k asks no more of other words' and blocks' order -/
def Inv (k : Fr → List Chunk → Prop) : Prop := ∀ fr fr' l l', FLe fr fr' → l.Perm l' → k fr l → k fr' l'
theorem flook_putF {d e : Nat} {v : Value} {fr : Fr} : flook (putF (some d) v fr) e = if d = e then some v else flook fr e := by
  show (bif Nat.beq d e then some v else flook fr e) = _
  by_cases h : d = e
  · subst h; simp
  · rw [if_neg h]; have : Nat.beq d e = false := by cases hb : Nat.beq d e; rfl; exact absurd (Nat.eq_of_beq_eq_true hb) h
    rw [this]; rfl
theorem FLe.put {fr fr' : Fr} (h : FLe fr fr') (d : Option Nat) (v : Value) : FLe (putF d v fr) (putF d v fr') := by
  cases d with
  | none => exact h
  | some d => intro e u hu; rw [flook_putF] at hu ⊢; split at hu <;> simp_all [FLe]
theorem AddK.inv {k : Fr → List Chunk → Prop} (hk : Inv k) : ∀ {xs : List AdS} {fr fr' : Fr} {l l' : List Chunk}, FLe fr fr' → l.Perm l' → AddK xs fr l k → AddK xs fr' l' k
  | [], _, _, _, _, h1, h2, h => hk _ _ _ _ h1 h2 h
  | x :: xs, _, _, _, _, h1, h2, h => fun v cs hx => AddK.inv hk (h1.put _ _) (h2.append_left cs) (h v cs hx)
theorem put_swap {d e : Nat} (h : d ≠ e) (u v : Value) (fr : Fr) : FLe (putF (some d) u (putF (some e) v fr)) (putF (some e) v (putF (some d) u fr)) := by
  intro k w hw
  simp only [flook_putF] at hw ⊢
  by_cases h1 : d = k
  · subst h1; rw [if_pos rfl] at hw; rw [if_neg (Ne.symm h), if_pos rfl]; exact hw
  · rw [if_neg h1] at hw; rw [if_neg h1]; exact hw
/-- the last one may come first -/
theorem AddK.first {k : Fr → List Chunk → Prop} (hk : Inv k) {a : AdS} {da : Nat} (ha : a.2.1.dst = some da) : ∀ {xs : List AdS} {fr : Fr} {l : List Chunk}, (∀ x, x ∈ xs → ∃ d, x.2.1.dst = some d ∧ d ≠ da) → AddK (xs ++ [a]) fr l k → AddK (a :: xs) fr l k
  | [], _, _, _, h => h
  | x :: xs, fr, l, hx, h => fun v cs hv u us hu => by
    have h1 := AddK.first hk ha (fun y hy => hx y (List.mem_cons_of_mem _ hy)) (h u us hu) v cs hv
    obtain ⟨d, hd, hne⟩ := hx x List.mem_cons_self
    refine AddK.inv hk ?_ ?_ h1
    · rw [hd, ha]; exact put_swap (Ne.symm hne) _ _ _
    · exact List.perm_append_comm_assoc cs us l
theorem pl_seqA {sp : Spec} {ds : List Deferred} {rest : List PlanOp} : ∀ (xs : List AdS) {fr0 fr : Fr} {l0 l : List Chunk}, FLe fr0 fr → (∀ c, c ∈ l0 → c ∈ l) → (∀ x, x ∈ xs → IsAd P ro N fr0 l0 x) → (xs.map fun x => x.2.1.dst).Nodup → (∀ x, x ∈ xs → ∀ d, x.2.1.dst = some d → flook fr0 d = none) → (∀ c, c ∈ R → c ∈ l0) → (∀ x, x ∈ sp → ∀ c, c ∈ x.2 → c ∈ l0) →
    AddK xs fr l (fun fr' l' => PlanS P ro N E ops Q R tbl none sp rest fr' ds l') → PlanS P ro N E ops Q R tbl none sp (xs.map plA ++ rest) fr ds l
  | [], _, _, _, _, _, _, _, _, _, _, _, h => h
  | x :: xs, fr0, fr, l0, l, h1, h2, hx, hn, hf, hR, hS, h => by
    have hI := hx x List.mem_cons_self
    obtain ⟨d, hd, hb, hfd⟩ := hI.dst
    refine .e (hI.law fr l h1 h2) hI.guard (by rw [hd]; exact hb) ?_ ?_ ?_
    · rintro v l' ⟨cs, _, rfl⟩ c hc; exact List.mem_append_right _ (h2 _ (hR c hc))
    · rintro v l' ⟨cs, _, rfl⟩ y hy _ c hc; exact List.mem_append_right _ (h2 _ (hS y hy c hc))
    · rintro v l' ⟨cs, hk, rfl⟩
      refine pl_seqA xs (fr0 := fr0) ?_ (fun c hc => List.mem_append_right _ (h2 c hc)) (fun y hy => hx y (List.mem_cons_of_mem _ hy)) (List.nodup_cons.1 hn).2 (fun y hy => hf y (List.mem_cons_of_mem _ hy)) hR hS (h v cs hk)
      intro e u hu
      show flook (putF x.2.1.dst v fr) e = _
      rw [hd, flook_putF]
      split
      · rename_i e1; subst e1; rw [hfd] at hu; cases hu
      · exact h1 e u hu
/-- quiet operations in a row -/
abbrev plQ (x : Nat × Oper) : PlanOp := (x.1, true, x.2)
def QK (P : Program) (ro : Option Nat) (N : Nat) (R : List Chunk) : List (Nat × Oper) → Fr → (Fr → Prop) → Prop
  | [], fr, k => k fr
  | x :: xs, fr, k => ∃ v d, OpQ P ro N fr R x.2 v ∧ x.2.guard = none ∧ x.2.dst = some d ∧ Nat.blt d N = true ∧ QK P ro N R xs ((d, v) :: fr) k
theorem QK.plan {sw : Sw} {sp : Spec} {ds : List Deferred} {rest : List PlanOp} {l : List Chunk} : ∀ {qs : List (Nat × Oper)} {fr : Fr}, QK P ro N R qs fr (fun fr' => PlanS P ro N E ops Q R tbl sw sp rest fr' ds l) → PlanS P ro N E ops Q R tbl sw sp (qs.map plQ ++ rest) fr ds l
  | [], _, h => h
  | x :: qs, fr, h => by
    obtain ⟨v, d, h1, h2, h3, h4, h5⟩ := h
    exact .q h1 h2 (by rw [h3]; exact h4) (by rw [h3]; exact QK.plan h5)
theorem QK.mono {k k' : Fr → Prop} (h : ∀ fr, k fr → k' fr) : ∀ {qs : List (Nat × Oper)} {fr : Fr}, QK P ro N R qs fr k → QK P ro N R qs fr k'
  | [], _, hk => h _ hk
  | x :: qs, _, ⟨v, d, h1, h2, h3, h4, h5⟩ => ⟨v, d, h1, h2, h3, h4, QK.mono h h5⟩
theorem QK.le {k : Fr → Prop} (hk : ∀ fr fr', FLe fr fr' → k fr → k fr') : ∀ {qs : List (Nat × Oper)} {fr fr' : Fr}, FLe fr fr' → QK P ro N R qs fr k → QK P ro N R qs fr' k
  | [], _, _, h, hq => hk _ _ h hq
  | x :: qs, _, _, h, ⟨v, d, h1, h2, h3, h4, h5⟩ => ⟨v, d, h1.le h, h2, h3, h4, QK.le hk (h.put (some d) v) h5⟩
theorem FLe.low {fr0 fr : Fr} {d : Nat} {v : Value} (h1 : FLe fr0 fr) (hd : flook fr0 d = none) : FLe fr0 (putF (some d) v fr) := fun e u hu => by
  rw [flook_putF]
  split
  · rename_i e1; subst e1; rw [hd] at hu; cases hu
  · exact h1 e u hu
theorem QK.low {fr0 : Fr} {k : Fr → Prop} : ∀ {qs : List (Nat × Oper)} {fr : Fr}, (∀ x, x ∈ qs → ∀ d, x.2.dst = some d → flook fr0 d = none) → FLe fr0 fr → QK P ro N R qs fr k → QK P ro N R qs fr (fun fr2 => FLe fr0 fr2 ∧ k fr2)
  | [], _, _, h, hk => ⟨h, hk⟩
  | x :: qs, _, hq, h, ⟨v, d, h1, h2, h3, h4, h5⟩ => ⟨v, d, h1, h2, h3, h4, QK.low (fun y hy => hq y (List.mem_cons_of_mem _ hy)) (h.low (hq x List.mem_cons_self d h3)) h5⟩
/-- a later addition may come first -/
theorem QK.first {k : Fr → List Chunk → Prop} (hk : Inv k) {a : AdS} {da : Nat} (ha : a.2.1.dst = some da) : ∀ {qs : List (Nat × Oper)} {fr : Fr} {l : List Chunk}, flook fr da = none → (∀ x, x ∈ qs → x.2.dst ≠ some da) → QK P ro N R qs fr (fun fr' => AddK [a] fr' l k) → AddK [a] fr l (fun fr' l' => QK P ro N R qs fr' (fun fr2 => k fr2 l'))
  | [], _, _, _, _, h => h
  | x :: qs, fr, l, hn, hx, ⟨v, d, h1, h2, h3, h4, h5⟩ => by
    have hne : d ≠ da := fun e => hx x List.mem_cons_self (by rw [h3, e])
    intro u us hu
    show QK P ro N R (x :: qs) (putF a.2.1.dst u fr) _
    rw [ha]
    refine ⟨v, d, h1.le ?_, h2, h3, h4, ?_⟩
    · intro e w hw
      rw [flook_putF]
      split
      · rename_i e1; subst e1; rw [hn] at hw; cases hw
      · exact hw
    · have h6 := QK.first hk ha (fr := (d, v) :: fr) (by show flook (putF (some d) v fr) da = none; rw [flook_putF, if_neg hne]; exact hn) (fun y hy => hx y (List.mem_cons_of_mem _ hy)) h5 u us hu
      have h7 : QK P ro N R qs (putF a.2.1.dst u ((d, v) :: fr)) (fun fr2 => k fr2 (us ++ l)) := h6
      rw [ha] at h7
      exact QK.le (fun fr fr' h h' => hk _ _ _ _ h (.refl _) h') (put_swap (Ne.symm hne) u v fr) h7
def lateOk (ops : Array Oper) (tbl : List (List Nat)) (qs : List PlanOp) (a : PlanOp) (rest : List PlanOp) : List PlanOp → Bool
  | [] => pairsOk ops tbl none rest
  | x :: xs => x.1 != a.1 && pairsOk ops tbl (some (xs.map fun y => (y.1, a.1))) (xs ++ (qs ++ a :: rest)) && pairsOk ops tbl none (x :: xs ++ (qs ++ rest)) && lateOk ops tbl qs a rest xs
theorem swIn_late {a : PlanOp} {rest : List PlanOp} (xs : List AdS) : swIn (some (xs.map fun y => (y.1, a.1))) (xs.map plA ++ rest) = true := by
  show (xs.map fun y => (y.1, a.1)).all _ = true
  rw [List.all_eq_true]
  intro p hp
  obtain ⟨y, hy, rfl⟩ := List.mem_map.1 hp
  rw [List.any_eq_true]
  exact ⟨plA y, List.mem_append_left _ (List.mem_map_of_mem hy), by simp⟩
theorem AddK.snoc {a : AdS} {k : Fr → List Chunk → Prop} : ∀ {xs : List AdS} {fr : Fr} {l : List Chunk}, AddK xs fr l (fun fr' l' => AddK [a] fr' l' k) → AddK (xs ++ [a]) fr l k
  | [], _, _, h => h
  | x :: xs, _, _, h => fun v cs hv => AddK.snoc (h v cs hv)
theorem AddK.none' {fr0 : Fr} {da : Nat} : ∀ {xs : List AdS} {fr : Fr} {l : List Chunk} {k : Fr → List Chunk → Prop}, flook fr da = none → (∀ x, x ∈ xs → ∃ d, x.2.1.dst = some d ∧ d ≠ da) → AddK xs fr l k → AddK xs fr l (fun fr' l' => flook fr' da = none ∧ k fr' l')
  | [], _, _, _, h, _, hk => ⟨h, hk⟩
  | x :: xs, fr, l, k, h, hx, hk => fun v cs hv => by
    obtain ⟨d, hd, hne⟩ := hx x List.mem_cons_self
    exact AddK.none' (fr0 := fr0) (by rw [hd, flook_putF, if_neg hne]; exact h) (fun y hy => hx y (List.mem_cons_of_mem _ hy)) (hk v cs hv)
theorem pl_lateA {sp : Spec} {ds : List Deferred} {rest : List PlanOp} {qs : List (Nat × Oper)} {a : AdS} {fr0 : Fr} {l0 : List Chunk} (hR : ∀ c, c ∈ R → c ∈ l0) (hS : ∀ x, x ∈ sp → ∀ c, c ∈ x.2 → c ∈ l0) (ha : IsAd P ro N fr0 l0 a) {da : Nat} (hda : a.2.1.dst = some da) (hq : ∀ x, x ∈ qs → x.2.dst ≠ some da) (hqf : ∀ x, x ∈ qs → ∀ d, x.2.dst = some d → flook fr0 d = none) : ∀ (xs : List AdS) {fr : Fr} {l : List Chunk}, FLe fr0 fr → flook fr da = none → (∀ c, c ∈ l0 → c ∈ l) → (∀ x, x ∈ xs → IsAd P ro N fr0 l0 x) → ((xs ++ [a]).map fun x => x.2.1.dst).Nodup → lateOk ops tbl (qs.map plQ) (plA a) rest (xs.map plA) = true →
    AddK xs fr l (fun fr1 l1 => QK P ro N R qs fr1 fun fr2 => AddK [a] fr2 l1 (fun fr' l' => PlanS P ro N E ops Q R tbl none sp rest fr' ds l')) → PlanS P ro N E ops Q R tbl (some (xs.map fun x => (x.1, a.1))) sp (xs.map plA ++ (qs.map plQ ++ plA a :: rest)) fr ds l := by
  have hInv : Inv (fun fr' l' => PlanS P ro N E ops Q R tbl none sp rest fr' ds l') := fun fr fr' l l' h1 h2 h => pl_perm h2 (.weak h1 h)
  obtain ⟨da', hda', hba, hfa⟩ := ha.dst
  obtain rfl : da = da' := by rw [hda] at hda'; cases hda'; rfl
  have low : ∀ {fr : Fr} {d : Nat} {v : Value}, FLe fr0 fr → flook fr0 d = none → FLe fr0 (putF (some d) v fr) := fun {fr d v} h1 hd => h1.low hd
  intro xs
  induction xs with
  | nil =>
    intro fr l h1 h0 h2 hx hn hok hk
    refine QK.plan (QK.mono ?_ (QK.low hqf h1 hk))
    · rintro fr2 ⟨hl2, hk2⟩
      have ho := ha.law fr2 l hl2 h2
      refine .alt (fun _ => a.2.1) (fun _ v l2 => ∃ cs, a.2.2 v cs ∧ l2 = cs ++ l) (fun _ => rest) (fun _ => none) (fun j hj => ?_) (fun j hj => ⟨ho, by rw [ha.guard]; rfl, by rw [hda]; exact hba⟩) (fun j hj => ?_) fun j hj => ?_
      · rcases hj with rfl | ⟨h, _⟩
        · exact ⟨.refl _, hok, rfl⟩
        · simp [swOk] at h
      · rintro v l' ⟨cs, _, rfl⟩
        exact ⟨fun c hc => List.mem_append_right _ (h2 _ (hR c hc)), fun y hy _ c hc => List.mem_append_right _ (h2 _ (hS y hy c hc))⟩
      · rintro v l' ⟨cs, hv, rfl⟩; exact hk2 v cs hv
  | cons x xs ih =>
    intro fr l h1 h0 h2 hx hn hok hk
    have hI := hx x List.mem_cons_self
    obtain ⟨d, hd, hb, hfd⟩ := hI.dst
    simp only [List.map_cons, lateOk, Bool.and_eq_true, bne_iff_ne, ne_eq] at hok
    obtain ⟨⟨⟨hne, hp1⟩, hp2⟩, hok⟩ := hok
    have hcand : ∀ j, Cand tbl (some ((x :: xs).map fun x => (x.1, a.1))) x.1 (xs.map plA ++ (qs.map plQ ++ plA a :: rest)) j → j = x.1 ∨ j = a.1 := fun j hj => by
      rcases hj with h | ⟨h, _⟩
      · exact .inl h
      · simp only [swOk, List.contains_iff_mem, List.mem_map, Prod.mk.injEq] at h
        obtain ⟨y, _, _, h⟩ := h
        exact .inr h.symm
    have hna : ∀ y, y ∈ x :: xs → ∃ d, y.2.1.dst = some d ∧ d ≠ da := fun y hy => by
      obtain ⟨d', hd', _⟩ := (hx y hy).dst
      refine ⟨d', hd', fun e => ?_⟩
      rw [List.map_append, List.nodup_append] at hn
      exact hn.2.2 y.2.1.dst (List.mem_map.2 ⟨y, hy, rfl⟩) a.2.1.dst (List.mem_map.2 ⟨a, List.mem_cons_self, rfl⟩) (by rw [hd', hda, e])
    refine .alt (fun k => if k = x.1 then x.2.1 else a.2.1) (fun k v l2 => if k = x.1 then ∃ cs, x.2.2 v cs ∧ l2 = cs ++ l else ∃ cs, a.2.2 v cs ∧ l2 = cs ++ l) (fun k => if k = x.1 then xs.map plA ++ (qs.map plQ ++ plA a :: rest) else (x :: xs).map plA ++ (qs.map plQ ++ rest)) (fun k => if k = x.1 then some (xs.map fun x => (x.1, a.1)) else none) (fun k hk => ?_) (fun k hk => ?_) (fun k hk => ?_) fun k hk => ?_
    all_goals rcases hcand k hk with h | h
    · subst h; simp only [if_true]
      exact ⟨.refl _, by rw [List.map_map] at hp1; exact hp1, swIn_late (a := plA a) xs⟩
    · subst h; simp only [if_neg (Ne.symm hne)]
      refine ⟨?_, hp2, rfl⟩
      show (plA a :: ((x :: xs).map plA ++ (qs.map plQ ++ rest))).Perm ((x :: xs).map plA ++ (qs.map plQ ++ plA a :: rest))
      rw [← List.append_assoc, ← List.append_assoc]
      exact List.perm_middle.symm
    · subst h; simp only [if_true]; exact ⟨hI.law fr l h1 h2, by rw [hI.guard]; rfl, by rw [hd]; exact hb⟩
    · subst h; simp only [if_neg (Ne.symm hne)]; exact ⟨ha.law fr l h1 h2, by rw [ha.guard]; rfl, by rw [hda]; exact hba⟩
    · subst h; simp only [if_true]
      rintro v l' ⟨cs, _, rfl⟩
      exact ⟨fun c hc => List.mem_append_right _ (h2 _ (hR c hc)), fun y hy _ c hc => List.mem_append_right _ (h2 _ (hS y hy c hc))⟩
    · subst h; simp only [if_neg (Ne.symm hne)]
      rintro v l' ⟨cs, _, rfl⟩
      exact ⟨fun c hc => List.mem_append_right _ (h2 _ (hR c hc)), fun y hy _ c hc => List.mem_append_right _ (h2 _ (hS y hy c hc))⟩
    · subst h; simp only [if_true]
      rintro v l' ⟨cs, hv, rfl⟩
      rename_i hk0
      obtain ⟨d', hd', hne'⟩ := hna x List.mem_cons_self
      exact ih (by rw [hd]; exact low h1 hfd) (by rw [hd', flook_putF, if_neg hne']; exact h0) (fun c hc => List.mem_append_right _ (h2 c hc)) (fun y hy => hx y (List.mem_cons_of_mem _ hy)) (List.nodup_cons.1 hn).2 hok (hk0 v cs hv)
    · subst h; simp only [if_neg (Ne.symm hne)]
      rintro v l' ⟨cs, hv, rfl⟩
      rename_i hk0
      rw [List.map_append, List.nodup_append] at hn
      refine pl_seqA (x :: xs) (by rw [hda]; exact low h1 hfa) (fun c hc => List.mem_append_right _ (h2 c hc)) hx hn.1 (fun y hy d hd => by obtain ⟨d', hd', _, h⟩ := (hx y hy).dst; rw [hd] at hd'; cases hd'; exact h) hR hS ?_
      have h8 := AddK.mono (fun fr l h => QK.first hInv hda h.1 hq h.2) (AddK.none' (fr0 := fr0) h0 hna hk0)
      have hInv2 : Inv (fun fr' l' => QK P ro N R qs fr' fun fr2 => PlanS P ro N E ops Q R tbl none sp rest fr2 ds l') := fun fr fr' l l' h1 h2 h => QK.le (fun _ _ h h' => .weak h h') h1 (QK.mono (fun _ h => pl_perm h2 h) h)
      have h9 := AddK.first hInv2 hda hna (AddK.snoc h8) v cs hv
      exact AddK.mono (fun _ _ h => QK.plan h) h9
def AllAd (P : Program) (ro : Option Nat) (N : Nat) (fr : Fr) (l : List Chunk) : List AdS → Prop
  | [] => True
  | x :: xs => IsAd P ro N fr l x ∧ AllAd P ro N fr l xs
theorem AllAd.mem {fr : Fr} {l : List Chunk} : ∀ {xs : List AdS}, AllAd P ro N fr l xs → ∀ x, x ∈ xs → IsAd P ro N fr l x
  | [], _, x, hx => by cases hx
  | y :: ys, h, x, hx => by
    rcases List.mem_cons.1 hx with rfl | hx
    · exact h.1
    · exact AllAd.mem h.2 x hx
def ndB : List (Option Nat) → Bool
  | [] => true
  | x :: xs => !xs.contains x && ndB xs
theorem ndB_spec : ∀ {xs : List (Option Nat)}, ndB xs = true → xs.Nodup
  | [], _ => List.nodup_nil
  | x :: xs, h => by
    simp only [ndB, Bool.and_eq_true, Bool.not_eq_true', List.contains_eq_mem, decide_eq_false_iff_not] at h
    exact List.nodup_cons.2 ⟨h.1, ndB_spec h.2⟩
def lkNone (fr : Fr) : List (Option Nat) → Bool
  | [] => true
  | some d :: r => (flook fr d).isNone && lkNone fr r
  | none :: r => lkNone fr r
theorem lkNone_spec {fr : Fr} : ∀ {xs : List (Option Nat)}, lkNone fr xs = true → ∀ d, some d ∈ xs → flook fr d = none
  | [], _, d, h => by cases h
  | some e :: r, h, d, hd => by
    simp only [lkNone, Bool.and_eq_true, Option.isNone_iff_eq_none] at h
    rcases List.mem_cons.1 hd with h2 | h2
    · cases h2; exact h.1
    · exact lkNone_spec h.2 d h2
  | none :: r, h, d, hd => by
    rcases List.mem_cons.1 hd with h2 | h2
    · cases h2
    · exact lkNone_spec (xs := r) h d h2
/-- effects that add blocks, one behind the other (xs), quiet ones behind them (qs), and one (a) that may come at any place among them -/
theorem pl_late {sp : Spec} {ds : List Deferred} {rest pl : List PlanOp} {L : List (Nat × Nat)} {fr : Fr} {l : List Chunk} (xs : List AdS) (qs : List (Nat × Oper)) (a : AdS) (da : Nat) (hL : xs.map (fun x => (x.1, a.1)) = L) (hpl : xs.map plA ++ (qs.map plQ ++ plA a :: rest) = pl) (hda : a.2.1.dst = some da) (hR : ∀ c, c ∈ R → c ∈ l) (hS : ∀ x, x ∈ sp → ∀ c, c ∈ x.2 → c ∈ l) (hx : AllAd P ro N fr l xs) (ha : IsAd P ro N fr l a) (hn : ndB ((xs ++ [a]).map fun x => x.2.1.dst) = true) (hok : lateOk ops tbl (qs.map plQ) (plA a) rest (xs.map plA) = true)
    (hqd : (qs.all fun x => x.2.dst != some da) = true) (hqf : lkNone fr (some da :: qs.map fun x => x.2.dst) = true)
    (hk : AddK xs fr l (fun fr1 l1 => QK P ro N R qs fr1 fun fr2 => AddK [a] fr2 l1 (fun fr' l' => PlanS P ro N E ops Q R tbl none sp rest fr' ds l'))) : PlanS P ro N E ops Q R tbl (some L) sp pl fr ds l := by
  subst hL hpl
  exact pl_lateA hR hS ha hda (fun x hx => by simpa using List.all_eq_true.1 hqd x hx) (fun x hx d hd => lkNone_spec hqf d (List.mem_cons_of_mem _ (List.mem_map.2 ⟨x, hx, hd⟩))) xs (fun _ _ h => h) (lkNone_spec hqf da List.mem_cons_self) (fun _ h => h) hx.mem (ndB_spec hn) hok hk
variable {fr : Fr} {l : List Chunk} {i d : Nat} {ty : TypeId} {pos : String} {aft : Array Edge} {x : Operand}
theorem ad_call {f : Nat} {xs : List Operand} {vs : List Value} {at_ : Array TypeId} {K : Value → List Chunk → Prop} (hx : ev fr x = some (.func (.func f) #[] #[])) (hy : evs fr xs = some vs) [c : EN P f] (h : ∀ l', (∀ c, c ∈ l → c ∈ l') → Fn P f vs l' fun v l2 => ∃ cs, K v cs ∧ l2 = cs ++ l') (hb : Nat.blt d N = true) (hf : flook fr d = none) : IsAd P ro N fr l (i, ⟨some d, .call { callee := .value x, args := xs.toArray, argTypes := at_ }, ty, pos, aft, none⟩, K) :=
  ⟨fun l' h2 => e_call0 hx hy (h l' h2), rfl, d, rfl, hb, hf⟩
theorem ad_alloc {t : TypeId} {zs : List Value} [c : ZV P t zs] (hb : Nat.blt d N = true) (hf : flook fr d = none) : IsAd P ro N fr l (i, ⟨some d, .alloc t, ty, pos, aft, none⟩, fun v cs => ∃ b, v = .pointer (some ⟨b, 0, none⟩) ∧ cs = [(b, .cells zs.toArray t (0, 0))]) :=
  ⟨fun l' h2 => e_alloc.mono (by rintro v l2 ⟨b, _, h3, h4⟩; exact ⟨_, ⟨b, h3, rfl⟩, h4⟩), rfl, d, rfl, hb, hf⟩
theorem ad_makeSlice {n : Nat} {T e kk yb : Nat} {zs xs : List Value} (hx : ev fr x = some (.int .i64 (n : Nat))) [c : ST P T e kk yb] [cz : ZV P e zs] (hzs : zs.length = kk) (hk : 0 < n * kk) (hn : n ≤ 1000000) (hby : yb ≤ 1000) (hxs : xs = (List.replicate n zs).flatten) (hb : Nat.blt d N = true) (hf : flook fr d = none) :
    IsAd P ro N fr l (i, ⟨some d, .makeSlice T x x, ty, pos, aft, none⟩, fun v cs => ∃ b, v = .slice (some ⟨b, 0, none⟩) n n ∧ cs = [(b, .cells (List.toArray xs) e (0, 0))]) :=
  ⟨fun l' h2 => (e_makeSlice hx hzs hk hn hby hxs).mono (by rintro v l2 ⟨b, _, h3, h4⟩; exact ⟨_, ⟨b, h3, rfl⟩, h4⟩), rfl, d, rfl, hb, hf⟩
end
end Go.Proofs.YtcjknmpogkofpaaGreat

/- realm.View. -/
-- GU
set_option linter.unusedVariables false
set_option linter.unusedSimpArgs false
namespace Go.Proofs.YtcjknmpogkofpaaGreat
open Go.RowKit
set_option maxRecDepth 20000
set_option pp.deepTerms false
set_option pp.deepTerms.threshold 4

abbrev rB (B b : Nat) : Chunk := (B, .cells #[pV b] 37 (0, 0))
theorem cells_any (b : Nat) (l : List Chunk) : Fn Tryz.prog 53 [pV b] l fun v l' => ∃ B, v = .func (.func 131) #[] #[pV B] ∧ l' = rB B b :: l := by
  refine fn_of_body Tryz.func53 rfl rfl fun E => ?_
  simp only [argF, Tryz.ntmps53]
  refine gzU ?_
  (first | refine t_e (e_box1 rfl rfl) rfl rfl rfl ?_ | refine t_e (e_boxA rfl) rfl rfl rfl ?_); rintro _ _ ⟨B, _, rfl, rfl⟩
  refine gzU ?_
  exact k_ret [] rfl .refl (by exact zRes) ⟨B, rfl, rfl⟩
theorem rng_take {n k : Nat} (h : k < n) : (List.range n).take (k + 1) = (List.range n).take k ++ [k] := by
  rw [List.take_range, List.take_range, Nat.min_eq_left (by omega), Nat.min_eq_left (by omega), List.range_succ]
theorem cells_iter (B b : Nat) (p : RP) (bv C cap : Nat) (hC : C ≤ 100) (hv : p.v = .slice (some ⟨bv, 0, none⟩) C cap) :
    IterS Tryz.prog 131 [pV B] (fun i : Nat => [.int .i64 i, .pointer (some ⟨bv, i * 1, none⟩)]) (fun xs => xs = List.range C) (fun pre => pre <+: List.range C) (fun _ l => rB B b ∈ l ∧ rlC b p ∈ l) := by
  refine ⟨fun r I Ix G0 hneed hY l G hG h0 => ?_⟩
  obtain ⟨n1, n2⟩ := hneed _ _ G hG h0
  simp only [rlC, hv] at hneed n2
  refine fn_of_body Tryz.func131 rfl rfl fun E => ?_
  simp only [argF, Tryz.ntmps131]
  refine gzU ?_
  refine k_loop (α := Nat × List Chunk) (fun x => [(0, .func (.yield r) #[] #[]), (1, pV B), (10, .int .i64 C), (11, .int .i64 x.1)]) (fun x => x.2 ++ G) (fun x => x.1 ≤ C ∧ I ((List.range C).take x.1) x.2) (fun x => C - x.1) (0, l) ⟨Nat.zero_le _, h0⟩ ⟨rfl, rfl, rfl, rfl, trivial⟩ .refl ?_
  clear n1 n2
  rintro ⟨k, l⟩ ⟨hk, hI⟩
  simp only at hk hI ⊢
  obtain ⟨n1, n2⟩ := hneed _ _ G hG hI
  by_cases hlt : k < C
  · refine gzU ?_
    have hy := hY ((List.range C).take k) k l G hG hI (by rw [← rng_take hlt]; exact List.take_prefix _ _)
    refine t_e (e_yield rfl rfl hy) rfl rfl rfl ?_
    rintro v l' ⟨l1, rfl, ⟨rfl, hI'⟩ | ⟨rfl, hx⟩⟩
    · refine gzU ?_
      exact k_next (k + 1, l1) ⟨by simp only; omega, by simp only; rw [rng_take hlt]; exact hI'⟩ (by simp only; omega) ⟨rfl, rfl, rfl, rfl, trivial⟩ .refl
    · refine gzU ?_
      exact k_ret [] rfl .refl (by exact zRes) ⟨l1, rfl, .inr ⟨_, by rw [← rng_take hlt]; exact List.take_prefix _ _, hx⟩⟩
  · obtain rfl : k = C := by omega
    rw [List.take_of_length_le (by simp)] at hI
    refine gzU ?_
    exact k_ret [] rfl .refl (by exact zRes) ⟨l, rfl, .inl ⟨_, rfl, hI⟩⟩
end Go.Proofs.YtcjknmpogkofpaaGreat

/- realm.View: all that is kept, in one value. -/
-- GU
set_option linter.unusedVariables false
set_option linter.unusedSimpArgs false
namespace Go.Proofs.YtcjknmpogkofpaaGreat
open Go.RowKit
set_option maxRecDepth 20000
set_option pp.deepTerms false
set_option pp.deepTerms.threshold 4

theorem LSet.mid : ∀ (A C : List Value) (x v : Value) {k : Nat}, A.length = k → LSet (A ++ x :: C) k v (A ++ v :: C)
  | [], C, x, v, _, h => by subst h; exact .zero
  | a :: A, C, x, v, _, h => by subst h; exact .succ (LSet.mid A C x v rfl)
theorem LGet.mid : ∀ (A C : List Value) (v : Value) {k : Nat}, A.length = k → LGet (A ++ v :: C) k v
  | [], C, v, _, h => by subst h; exact .zero
  | a :: A, C, v, _, h => by subst h; exact .succ (LGet.mid A C v rfl)
theorem LSetA.all : ∀ (B vs C : List Value), B.length = vs.length → LSetA (B ++ C) 0 vs (vs ++ C)
  | [], [], C, _ => .done
  | b :: B, v :: vs, C, h => .put (LSetA.all B vs C (by simpa using h))
  | [], v :: vs, C, h => by cases h
  | b :: B, [], C, h => by cases h
theorem LSetA.mid : ∀ (A B vs C : List Value) {k : Nat}, A.length = k → B.length = vs.length → LSetA (A ++ (B ++ C)) k vs (A ++ (vs ++ C))
  | [], B, vs, C, _, h, h2 => by subst h; exact LSetA.all B vs C h2
  | a :: A, B, vs, C, _, h, h2 => by subst h; exact .skip (LSetA.mid A B vs C rfl h2)
def plc (N : As.ASt) : List Value := (List.range 80).map N.at
theorem plc_len (N : As.ASt) : (plc N).length = 80 := by simp [plc]
theorem plc_cells (N : As.ASt) : N.cells.extract 0 80 = List.toArray (plc N) := by
  apply Array.ext_getElem?
  intro j
  rw [Array.getElem?_extract]
  unfold plc
  simp only [As.ASt.cells_size, List.getElem?_toArray, List.getElem?_map]
  by_cases h : j < 80
  · rw [if_pos (by omega), Nat.zero_add, As.ASt.cells_get N j (by omega), List.getElem?_range h]; rfl
  · rw [if_neg (by omega), List.getElem?_eq_none (by simp; omega)]; rfl
theorem plc_one (N : As.ASt) : ∀ v, v ∈ plc N → v.oneCell' = true := by
  intro v hv
  obtain ⟨j, hj, rfl⟩ := List.mem_map.1 hv
  unfold As.ASt.at
  repeat' split
  all_goals rfl
/-- a view's slices and their blocks -/
structure VwL where
  vo : Value
  vc : Value
  vt : Value
  vh : Value
  vr : Value
  vq : Value
  co : List Chunk
  cc : List Chunk
  ct : List Chunk
  ch : List Chunk
  cr : List Chunk
  cq : List Chunk
abbrev vwV (vo vc vt vh : Value) (N : As.ASt) (vr vq : Value) : List Value := vo :: vc :: vt :: vh :: (plc N ++ [vr, vq])
def quL (X : Nat → List Int) : List Int := Qu.allX X (Qu.fallT (Qu.neX X) 0)
structure IsVw (C : Nat) (R : RT) (x : VwL) : Prop where
  o : OwnSl 68 9 x.vo R.A.os.length (Ar.ocs R.A.os) x.co
  c : OwnSl 220 10 x.vc (usedD R.H.1).length (hcs (usedD R.H.1)) x.cc
  t : OwnSl 222 3 x.vt R.H.2.length (Tr.ncs R.H.2) x.ct
  h : OwnSl 76 24 x.vh R.T.length (Th.thcs R.T) x.ch
  r : OwnSl 3 1 x.vr C (List.replicate C (.int .i64 0)) x.cr
  q : OwnSl 3 1 x.vq (quL R.Q).length ((quL R.Q).map intQ) x.cq
abbrev vwC (B : Nat) (vo vc vt vh : Value) (N : As.ASt) (vr vq : Value) : Chunk := (B, .cells (List.toArray (vwV vo vc vt vh N vr vq)) 49 (0, 0))
def z80 : List Value := [.int .i64 0, .bool false, .int .i64 0, .int .i64 0, .int .i64 0, .int .i64 0, .int .i64 0, .int .i64 0, .int .i64 0, .int .i64 0]
def z80n : List Value := z80 ++ (z80 ++ (z80 ++ (z80 ++ (z80 ++ (z80 ++ (z80 ++ z80))))))
abbrev nilS : Value := .slice none 0 0
theorem vw_build {vo vc vt vh vq : Value} (N : As.ASt) (h1 : vo.oneCell' = true) (h2 : vc.oneCell' = true) (h3 : vt.oneCell' = true) (h4 : vh.oneCell' = true) (h5 : vq.oneCell' = true) : BuildS Tryz.prog 49 (nilS :: nilS :: nilS :: nilS :: (z80n ++ [nilS, nilS])) [(0, vo), (1, vc), (2, vt), (3, vh), (4, .agg (List.toArray (plc N))), (6, vq)] (vwV vo vc vt vh N nilS vq) := by
  refine .one inferInstance inferInstance h1 .zero (.one inferInstance inferInstance h2 (.succ .zero) (.one inferInstance inferInstance h3 (.succ (.succ .zero)) (.one inferInstance inferInstance h4 (.succ (.succ (.succ .zero))) (.agg inferInstance inferInstance (plc_len N) (LSetA.mid [vo, vc, vt, vh] z80n (plc N) [nilS, nilS] rfl (plc_len N).symm) (.one inferInstance inferInstance h5 ?_ .nil)))))
  have := LSet.mid (vo :: vc :: vt :: vh :: (plc N ++ [nilS])) [] nilS vq (k := 85) (by simp [plc_len])
  simpa [vwV] using this

theorem kv1 (m v rb z : Chunk) (cr cq ch ct cc co L : List Chunk) : Keep (m :: v :: (cr ++ rb :: (cq ++ (ch ++ (ct ++ (cc ++ (co ++ z :: L))))))) (z :: v :: m :: (co ++ (cc ++ (ct ++ (ch ++ (cr ++ (cq ++ L))))))) := keep_ac [rb]
theorem kv2 (m v z : Chunk) (L : List Chunk) : Keep (z :: v :: m :: L) ([m] ++ (z :: L)) := keep_ac [v]
set_option maxHeartbeats 4000000 in
theorem view_any (F C n : Nat) (R : RT) (b : Nat) (p : RP) (s : RL) (hR : IsRl F C n R p s) (hn : n ≤ 900) (hT : R.T.length ≤ 900000) (G : List Chunk) : Fn Tryz.prog 15 [pV b] (allL b p s R G) fun v l' =>
    ∃ x : VwL, v = .agg (List.toArray (vwV x.vo x.vc x.vt x.vh R.N x.vr x.vq)) ∧ IsVw C R x ∧ l' = x.co ++ (x.cc ++ (x.ct ++ (x.ch ++ (x.cr ++ (x.cq ++ allL b p s R G))))) := by
  obtain ⟨L, hL⟩ : ∃ L, L = allL b p s R G := ⟨_, rfl⟩
  have hmr : rlC b p ∈ L := by rw [hL]; exact .head _
  have hmn : As.asA p.n R.N ∈ L := by rw [hL]; exact .tail _ (.head _)
  have hma : ∀ c, c ∈ s.A → c ∈ L := fun c hc => by rw [hL]; unfold allL; simp [hc]
  have hmh : ∀ c, c ∈ s.H → c ∈ L := fun c hc => by rw [hL]; unfold allL; simp [hc]
  have hmt : ∀ c, c ∈ s.T → c ∈ L := fun c hc => by rw [hL]; unfold allL; simp [hc]
  have hmq : ∀ c, c ∈ s.Q → c ∈ L := fun c hc => by rw [hL]; unfold allL; simp [hc]
  have hmv : ∀ c, c ∈ s.V → c ∈ L := fun c hc => by rw [hL]; unfold allL; simp [hc]
  rw [← hL]
  obtain ⟨hs1, hs2, _⟩ := hR.inv.small (by omega)
  refine fn_of_body Tryz.func15 rfl rfl fun E => ?_
  simp only [argF, Tryz.ntmps15]
  refine gzU ?_
  refine t_e e_alloc rfl rfl rfl ?_; rintro _ _ ⟨b2, _, rfl, rfl⟩
  refine gzU ?_
  have hsub : ∀ (c : Chunk), c ∈ [rlC b p] → c ∈ (b2, Obj.cells (List.toArray (nilS :: nilS :: nilS :: nilS :: (z80n ++ [nilS, nilS]))) 49 (0, 0)) :: L := fun c hc => by rw [List.mem_singleton.1 hc]; exact .tail _ hmr
  refine c_drawL [(0, true), (1, true), (2, true), (3, true), (5, true), (6, true), (7, true), (8, true), (10, true), (11, true), (12, true), (13, true), (15, true), (16, true), (17, true), (18, true), (20, true), (21, true), (22, true), (23, true), (25, true), (26, true), (27, true), (28, true), (4, false), (9, false), (14, false), (19, false), (24, false), (29, false), (30, true), (31, false), (32, false)] [[], [0], [0, 1], [0, 1, 2], [0, 1, 2, 3], [], [5], [5, 6], [5, 6, 7], [0, 1, 2, 3, 4, 5, 6, 7, 8], [], [10], [10, 11], [10, 11, 12], [0, 1, 2, 3, 4, 5, 6, 7, 8, 9, 10, 11, 12, 13], [], [15], [15, 16], [15, 16, 17], [0, 1, 2, 3, 4, 5, 6, 7, 8, 9, 10, 11, 12, 13, 14, 15, 16, 17, 18], [], [20], [20, 21], [20, 21, 22], [0, 1, 2, 3, 4, 5, 6, 7, 8, 9, 10, 11, 12, 13, 14, 15, 16, 17, 18, 19, 20, 21, 22, 23], [], [25], [25, 26], [25, 26, 27], [0, 1, 2, 3, 4, 5, 6, 7, 8, 9, 10, 11, 12, 13, 14, 15, 16, 17, 18, 19, 20, 21, 22, 23, 24, 25, 26, 27, 28], [0, 1, 2, 3, 4, 5, 6, 7, 8, 9, 10, 11, 12, 13, 14, 15, 16, 17, 18, 19, 20, 21, 22, 23, 24, 25, 26, 27, 28, 29], [], [0, 1, 2, 3, 4, 5, 6, 7, 8, 9, 10, 11, 12, 13, 14, 15, 16, 17, 18, 19, 20, 21, 22, 23, 24, 25, 26, 27, 28, 29, 30, 31]] (some [(4, 31), (9, 31), (14, 31), (19, 31), (24, 31), (29, 31)]) ([rlC b p]) (by kernel_rfl) (by kernel_rfl) zAtt (hsub) ?_
  refine pzU ?_
  refine pl_late [(4, _, fun v cs => OwnSl 68 9 v R.A.os.length (Ar.ocs R.A.os) cs), (9, _, fun v cs => OwnSl 220 10 v (usedD R.H.1).length (hcs (usedD R.H.1)) cs), (14, _, fun v cs => OwnSl 222 3 v R.H.2.length (Tr.ncs R.H.2) cs), (19, _, fun v cs => OwnSl 76 24 v R.T.length (Th.thcs R.T) cs), (24, _, fun v cs => v = .agg (List.toArray (plc R.N)) ∧ cs = []), (29, _, fun v cs => OwnSl 3 1 v (quL R.Q).length ((quL R.Q).map intQ) cs)] [(30, _)] (31, _, fun v cs => ∃ b, v = .pointer (some ⟨b, 0, none⟩) ∧ cs = [(b, .cells (List.toArray (nilS :: nilS :: nilS :: nilS :: (z80n ++ [nilS, nilS]))) 49 (0, 0))]) 3 rfl rfl rfl hsub (fun _ h => by cases h) ⟨ad_call rfl rfl (fun l' hl => Ar.all_any p.a R.A s.A hR.ar l' fun c hc => hl _ (.tail _ (hma c hc))) rfl rfl, ad_call rfl rfl (fun l' hl => hused_any p.h R.H s.H hR.ho hs1 l' fun c hc => hl _ (.tail _ (hmh c hc))) rfl rfl, ad_call rfl rfl (fun l' hl => htree_any p.h R.H s.H hR.ho hs2 l' fun c hc => hl _ (.tail _ (hmh c hc))) rfl rfl, ad_call rfl rfl (fun l' hl => Th.all_any p.t R.T s.T hR.th hT l' fun c hc => hl _ (.tail _ (hmt c hc))) rfl rfl, ad_call rfl rfl (fun l' hl => (As.pools_any p.n R.N (plc R.N) (plc_cells R.N) (plc_len R.N) (plc_one R.N) l' (hl _ (.tail _ hmn))).mono fun v l2 h => ⟨[], ⟨h.1, rfl⟩, h.2⟩) rfl rfl, ad_call rfl rfl (fun l' hl => Qu.all_any p.q R.Q s.Q hR.qu (fun j hj => by have := hR.ql j hj; omega) l' fun c hc => hl _ (.tail _ (hmq c hc))) rfl rfl, trivial⟩ (ad_alloc rfl rfl) (by kernel_rfl) (by kernel_rfl) rfl rfl ?_
  intro vo co ho vc cc hc vt ct ht vh ch hh vp cp hp vq cq hq
  obtain ⟨rfl, rfl⟩ := hp
  refine ⟨_, _, q_build rfl (vw_build R.N ho.one hc.one ht.one hh.one hq.one), rfl, rfl, rfl, ?_⟩
  rintro v3 c3 ⟨b3, rfl, rfl⟩
  simp only [putF, AddK]
  simp only at ho hc ht hh hq
  apply pl_n
  · refine e_storeA (cs := List.toArray (nilS :: nilS :: nilS :: nilS :: (z80n ++ [nilS, nilS]))) (T := 49) (l' := vwC b3 vo vc vt vh R.N nilS vq :: (cq ++ (ch ++ (ct ++ (cc ++ (co ++ (b2, Obj.cells (List.toArray (nilS :: nilS :: nilS :: nilS :: (z80n ++ [nilS, nilS]))) 49 (0, 0)) :: L)))))) rfl rfl ?_ ?_ ?_ ?_
    · show (vwV vo vc vt vh R.N nilS vq).length = 86
      simp [plc_len]
    · intro v hv
      simp only [List.toList_toArray, List.mem_cons, List.mem_append, List.not_mem_nil, or_false] at hv
      rcases hv with rfl | rfl | rfl | rfl | hv | rfl | rfl
      · exact ho.one
      · exact hc.one
      · exact ht.one
      · exact hh.one
      · exact plc_one _ v hv
      · rfl
      · exact hq.one
    · rw [List.toList_toArray, As.setFrom_all _ _ (by simp [plc_len]; rfl)]
      exact .here
    · show 0 + 86 ≤ (nilS :: nilS :: nilS :: nilS :: (z80n ++ [nilS, nilS])).length
      decide
  · rfl
  · rfl
  · rintro _ _ ⟨_, rfl⟩ c hc; rw [List.mem_singleton.1 hc]; simp [hmr]
  rintro _ _ ⟨rfl, rfl⟩
  refine pzU ?_
  refine gzU ?_
  refine t_e (e_call0 rfl rfl (cells_any b _)) rfl rfl rfl ?_
  rintro _ _ ⟨B, rfl, rfl⟩
  refine gzU ?_
  obtain ⟨gL, hgl⟩ : ∃ gL, gL = cq ++ (ch ++ (ct ++ (cc ++ (co ++ (b2, Obj.cells (List.toArray (nilS :: nilS :: nilS :: nilS :: (z80n ++ [nilS, nilS]))) 49 (0, 0)) :: L)))) := ⟨_, rfl⟩
  have hLg : ∀ c, c ∈ L → c ∈ gL := fun c hc => by rw [hgl]; simp [hc]
  rw [← hgl]
  have hC1 := hR.c1
  rcases hR.cu.2 with ⟨_, h0, _⟩ | ⟨bv, cap, sp, hv, hV, _⟩
  · omega
  have hmB : ∀ c, c ∈ [rB B b, rlC b p] → c ∈ rB B b :: gL := fun c hc => by
    rcases List.mem_cons.1 hc with rfl | hc
    · exact .head _
    · rw [List.mem_singleton.1 hc]; exact .tail _ (hLg _ hmr)
  have hmc : (bv, Obj.cells (List.toArray (List.replicate C (.int .i64 0) ++ sp)) 3 (0, 0)) ∈ L := hmv _ (by rw [hV]; exact .head _)
  have h84 : ∀ (N : As.ASt), (vo :: vc :: vt :: vh :: plc N).length = 84 := fun N => by simp [plc_len]
  refine c_range (α := Nat) (ps := [42, 43]) (lb := [pV B]) rfl (cells_iter B b p bv C cap (by omega) hv) (fun _ => rfl) rfl
    (fun pre l => ∃ vr cr, OwnSl 3 1 vr pre.length (List.replicate pre.length (.int .i64 0)) cr ∧ l = vwC b3 vo vc vt vh R.N vr vq :: cr) (fun c pre l => False) [vwC b3 vo vc vt vh R.N nilS vq] (rB B b :: gL)
    (fun pre l2 X2 hX h => ⟨List.mem_append_right _ (hX _ (.head _)), List.mem_append_right _ (hX _ (.tail _ (hLg _ hmr)))⟩) (.of_perm (.swap _ _ _)) ⟨_, [], OwnSl.nil _ _, rfl⟩ ?_ ?_ ?_
  · rintro E r0 rec pre k l' T ⟨fn, tmps, D, rfl⟩ hT ⟨vr, cr, hown, rfl⟩ hsp
    have hk : k < C ∧ pre.length ≤ C := by
      have h1 := hsp.length_le
      have h2 : k ∈ List.range C := hsp.subset (List.mem_append_right _ (.head _))
      simp only [List.length_append, List.length_cons, List.length_nil, List.length_range] at h1
      exact ⟨List.mem_range.1 h2, by omega⟩
    have hv1 : vr.oneCell' = true := hown.one
    simp only [putPs, List.cons_append, List.nil_append]
    refine gzU ?_
    refine p_begin (.there (upd_mid _ _ _ _ _)) ?_
    generalize hX1 : (r0, Obj.loop (recOf fn tmps _ _ _ D .busy none)) :: T = X1
    have hmX : (bv, Obj.cells (List.toArray (List.replicate C (.int .i64 0) ++ sp)) 3 (0, 0)) ∈ X1 := by rw [← hX1]; exact .tail _ (hT _ (.tail _ (hLg _ hmc)))
    refine gzU ?_
    refine c_draw [(0, true), (1, true), (2, true), (3, true), (4, true), (5, false), (6, false), (7, true), (8, false)] [[], [0], [], [2], [2, 3], [2, 3, 4], [0, 1, 2, 3, 4, 5], [0, 1, 2, 3, 4, 5, 6], [0, 1, 2, 3, 4, 5, 6, 7]] ([]) (by kernel_rfl) (by kernel_rfl) zAtt zHR ?_
    refine pzU ?_
    apply pl_s (S := [vwC b3 vo vc vt vh R.N vr vq])
    · exact q_load rfl (.head _) (cell_get (LGet.mid (vo :: vc :: vt :: vh :: plc R.N) [vq] vr (h84 _)))
    · exact sing_mem (.head _)
    · rfl
    · rfl
    · rfl
    refine pzU ?_
    apply pl_s (S := [(bv, Obj.cells (List.toArray (List.replicate C (.int .i64 0) ++ sp)) 3 (0, 0))])
    · exact q_load (v := .int .i64 0) rfl (.head _) (by rw [List.getElem?_toArray, List.getElem?_append_left (by simp; omega), List.getElem?_replicate, if_pos (by omega)])
    · exact sing_mem (.tail _ (List.mem_append_right _ hmX))
    · rfl
    · rfl
    · rfl
    refine pzU ?_
    apply pl_eS
    · exact e_lit1 (v := .int .i64 0) rfl rfl
    · rfl
    · rfl
    · rfl
    · intro _ _ _ c hc; cases hc
    · rintro _ _ ⟨bl, _, rfl, rfl⟩ x hx _ c hc
      simp only [List.mem_cons, List.not_mem_nil, or_false] at hx
      rcases hx with rfl | rfl <;> simp only [List.mem_cons, List.not_mem_nil, or_false] at hc <;> subst hc
      · exact .tail _ (.tail _ (List.mem_append_right _ hmX))
      · exact .tail _ (.head _)
    rintro _ _ ⟨bl, _, rfl, rfl⟩
    refine pzU ?_
    apply pl_eS
    · apply e_appX (k := 1) (X := [vwC b3 vo vc vt vh R.N vr vq]) (cs := cr) (xs := List.replicate pre.length (.int .i64 0)) (n := pre.length) (zs := [.int .i64 0]) (ws := [.int .i64 0])
      · rfl
      · rfl
      · rfl
      · exact hown
      · rfl
      · simp [Value.oneCell']
      · omega
      · decide
    · rfl
    · rfl
    · rfl
    · intro _ _ _ c hc; cases hc
    · exact fun _ _ _ x hx ha => anc_all (by kernel_rfl) hx ha
    rintro v' _ ⟨c2, ho2, rfl⟩
    have hv1 : v'.oneCell' = true := ho2.one
    simp only [List.cons_append, List.nil_append]
    refine pzU ?_
    apply pl_nS
    · apply e_storeL (cs := vwV vo vc vt vh R.N vr vq) (cs' := vwV vo vc vt vh R.N v' vq)
      · rfl
      · rfl
      · exact hv1
      · exact .head _
      · exact LSet.mid (vo :: vc :: vt :: vh :: plc R.N) [vq] vr v' (h84 _)
      · exact .here
    · rfl
    · rfl
    · intro _ _ _ c hc; cases hc
    · exact fun _ _ _ x hx ha => anc_all (by kernel_rfl) hx ha
    rintro _ _ ⟨rfl, rfl⟩
    refine pzU ?_
    refine gzU ?_
    rw [← hX1]
    refine p_round _ (.refl) ⟨v', c2, ?_, rfl⟩
    rw [List.length_append, List.length_singleton, List.replicate_succ']
    exact ho2
  · rintro D xs l' rfl ⟨vr, cr, hown, rfl⟩
    rw [List.length_range] at hown
    have hv1 : vr.oneCell' = true := hown.one
    refine gzU ?_
    have hlv : (vwV vo vc vt vh R.N vr vq).length = 86 := by simp [plc_len]
    refine t_q (q_loadL rfl (.tail _ (.head _)) (As.LSub.of_all (n := 86) _ hlv)) rfl rfl rfl ?_
    rw [hgl]
    refine s_keep (kv1 ..) ?_
    apply t_n
    · refine e_storeA (cs := List.toArray (nilS :: nilS :: nilS :: nilS :: (z80n ++ [nilS, nilS]))) (T := 49) (l' := vwC b2 vo vc vt vh R.N vr vq :: vwC b3 vo vc vt vh R.N vr vq :: markC D :: (co ++ (cc ++ (ct ++ (ch ++ (cr ++ (cq ++ L))))))) rfl rfl hlv ?_ ?_ ?_
      · intro v hv
        simp only [List.toList_toArray, List.mem_cons, List.mem_append, List.not_mem_nil, or_false] at hv
        rcases hv with rfl | rfl | rfl | rfl | hv | rfl | rfl
        · exact ho.one
        · exact hc.one
        · exact ht.one
        · exact hh.one
        · exact plc_one _ v hv
        · exact hv1
        · exact hq.one
      · rw [List.toList_toArray, As.setFrom_all _ _ (by simp [plc_len]; rfl)]
        exact .here
      · show 0 + 86 ≤ (nilS :: nilS :: nilS :: nilS :: (z80n ++ [nilS, nilS])).length
        decide
    · rfl
    · rfl
    rintro _ _ ⟨rfl, rfl⟩
    refine gzU ?_
    exact k_ret2 [D] (vwC b2 vo vc vt vh R.N vr vq :: (co ++ (cc ++ (ct ++ (ch ++ (cr ++ (cq ++ L))))))) rfl (kv2 ..) (rs_cellA rfl (.head _) (As.LSub.of_all (n := 86) _ hlv) .nil) (.drop .refl) ⟨⟨vo, vc, vt, vh, vr, vq, co, cc, ct, ch, cr, cq⟩, rfl, ⟨ho, hc, ht, hh, hown, hq⟩, rfl⟩
  · rintro D c pre l' hsp h
    exact h.elim
end Go.Proofs.YtcjknmpogkofpaaGreat

/- realm.Space, kernel.Realm. -/
-- GU
set_option linter.unusedVariables false
set_option linter.unusedSimpArgs false
namespace Go.Proofs.YtcjknmpogkofpaaGreat
open Go.RowKit
set_option maxRecDepth 20000
set_option pp.deepTerms false
set_option pp.deepTerms.threshold 4

theorem krealm_any (B b : Nat) (l : List Chunk) (hm : knC B b ∈ l) : Fn Tryz.prog 13 [pV B] l fun v l' => v = pV b ∧ l' = l := by
  refine fn_of_body Tryz.func13 rfl rfl fun E => ?_
  simp only [argF, Tryz.ntmps13]
  refine gzU ?_
  exact k_ret [] rfl .refl (by exact zRes) ⟨rfl, rfl⟩
def spaceR (R : RT) (id : Int) : (Int × Int × Int) × Bool :=
  if (Th.findH R.T id).isSome = false then ((0, 0, 0), false)
  else if ¬ (getD' R.H.1 (id, 1)).2 = 0 ∨ ¬ (getD' R.H.1 (id, 1)).1.kind = 5 then ((0, 0, 0), false)
  else if (As.ofP R.N (getD' R.H.1 (id, 1)).1.obj).2.2 = false ∨ ¬ (Ar.getD' R.A (getD' R.H.1 (id, 1)).1.obj).1.kd = 5 then ((0, 0, 0), false)
  else (((getD' R.H.1 (id, 1)).1.obj, (As.ofP R.N (getD' R.H.1 (id, 1)).1.obj).1, (As.ofP R.N (getD' R.H.1 (id, 1)).1.obj).2.1), true)
set_option maxHeartbeats 4000000 in
theorem space_any (F C n : Nat) (R : RT) (b : Nat) (p : RP) (s : RL) (hR : IsRl F C n R p s) (id : Int) (L : List Chunk) (hL : ∀ c, c ∈ allL b p s R [] → c ∈ L) : Fn Tryz.prog 21 [pV b, .int .i64 id] L fun v l' =>
    v = .tuple #[.int .i64 (spaceR R id).1.1, .int .i64 (spaceR R id).1.2.1, .int .i64 (spaceR R id).1.2.2, .bool (spaceR R id).2] ∧ l' = L := by
  have hmr : rlC b p ∈ L := hL _ (.head _)
  have hmn : As.asA p.n R.N ∈ L := hL _ (.tail _ (.head _))
  have hma : ∀ c, c ∈ s.A → c ∈ L := fun c hc => hL _ (by unfold allL; simp [hc])
  have hmh : ∀ c, c ∈ s.H → c ∈ L := fun c hc => hL _ (by unfold allL; simp [hc])
  have hmt : ∀ c, c ∈ s.T → c ∈ L := fun c hc => hL _ (by unfold allL; simp [hc])
  refine fn_of_body Tryz.func21 rfl rfl fun E => ?_
  simp only [argF, Tryz.ntmps21]
  refine gzU ?_
  refine t_q (q_call rfl rfl (fun l hl => rthreads_any b p l (hl _ hmr))) rfl rfl rfl ?_
  refine gzU ?_
  refine t_q (q_call rfl rfl (fun l hl => Th.get_any p.t R.T s.T hR.th id l (fun c hc => hl _ (hmt c hc)))) rfl rfl rfl ?_
  obtain ⟨t, ht⟩ : ∃ t, t = (Th.findH R.T id).getD Th.thZ := ⟨_, rfl⟩
  rw [← ht]
  refine gzU ?_
  refine t_e e_alloc rfl rfl rfl ?_; rintro _ _ ⟨b8, _, rfl, rfl⟩
  refine gzU ?_
  cases hf : (Th.findH R.T id).isSome with
  | false =>
    refine gzU ?_
    exact k_ret [] rfl (l' := L) (.drop .refl) (by exact zRes) ⟨by simp [spaceR, hf, tup], rfl⟩
  | true =>
    refine gzU ?_
    refine t_q (q_call rfl rfl (fun l hl => hget_any p.h R.H s.H hR.ho (id, 1) l (fun c hc => hl _ (.tail _ (hmh c hc))))) rfl rfl rfl ?_
    obtain ⟨c, hc⟩ : ∃ c, c = getD' R.H.1 (id, 1) := ⟨_, rfl⟩
    rw [← hc]
    refine gzU ?_
    refine t_e e_alloc rfl rfl rfl ?_; rintro _ _ ⟨b10, _, rfl, rfl⟩
    refine gzU ?_
    by_cases h1 : c.2 = 0
    case neg =>
      refine gzU ?_
      exact k_ret [] rfl (l' := L) (.drop (.drop .refl)) (by exact zRes) ⟨by simp [spaceR, hf, tup, ← hc, h1], rfl⟩
    refine gzU ?_
    by_cases h2 : c.1.kind = 5
    case neg =>
      refine gzU ?_
      exact k_ret [] rfl (l' := L) (.drop (.drop .refl)) (by exact zRes) ⟨by simp [spaceR, hf, tup, ← hc, h1, h2], rfl⟩
    refine gzU ?_
    have hsub : ∀ x, x ∈ [rlC b p, As.asA p.n R.N, capC b10 c.1] → x ∈ capC b10 c.1 :: Th.thC b8 t :: L := fun x hx => by
      rcases List.mem_cons.1 hx with rfl | hx
      · exact .tail _ (.tail _ hmr)
      · rcases List.mem_cons.1 hx with rfl | hx
        · exact .tail _ (.tail _ hmn)
        · rw [List.mem_singleton.1 hx]; exact .head _
    refine c_draw [(0, true), (1, true), (2, true), (3, true), (4, true), (5, true), (6, true), (7, true), (8, true), (9, true), (10, true), (11, true), (12, true), (13, true)] [[], [0], [0, 1], [0, 1, 2], [], [4], [0, 1, 2, 3, 4, 5], [0, 1, 2, 3, 4, 5, 6], [0, 1, 2, 3, 4, 5, 6, 7], [0, 1, 2, 3, 4, 5, 6, 7], [0, 1, 2, 3, 4, 5, 6, 7], [0, 1, 2, 3, 4, 5, 6, 7, 8], [0, 1, 2, 3, 4, 5, 6, 7, 8, 9, 11], [0, 1, 2, 3, 4, 5, 6, 7, 8, 9, 10, 11, 12]] ([rlC b p, As.asA p.n R.N, capC b10 c.1]) (by kernel_rfl) (by kernel_rfl) zAtt (hsub) ?_
    refine pzU ?_
    apply pl_q
    · exact q_call rfl rfl (fun l hl => As.of_any p.n R.N c.1.obj l (hl _ (.tail _ (.head _))))
    · rfl
    · rfl
    · rfl
    obtain ⟨o, ho⟩ : ∃ o, o = As.ofP R.N c.1.obj := ⟨_, rfl⟩
    rw [← ho]
    refine pzU ?_
    refine gzU ?_
    have hsub2 : ∀ x, x ∈ rlC b p :: capC b10 c.1 :: s.A → x ∈ capC b10 c.1 :: Th.thC b8 t :: L := fun x hx => by
      rcases List.mem_cons.1 hx with rfl | hx
      · exact .tail _ (.tail _ hmr)
      · rcases List.mem_cons.1 hx with rfl | hx
        · exact .head _
        · exact .tail _ (.tail _ (hma x hx))
    refine c_draw [(0, true), (1, true), (2, true), (3, true), (4, true), (5, true), (6, true), (7, true), (8, true), (9, true), (10, false), (11, false), (12, true)] [[], [0], [0, 1], [0, 1, 2], [], [4], [0, 1, 2, 3, 4, 5], [0, 1, 2, 3, 4, 5, 6], [0, 1, 2, 3, 4, 5, 6, 7], [0, 1, 2, 3, 4, 5, 6, 7], [], [0, 1, 2, 3, 4, 5, 6, 7, 8, 10], [0, 1, 2, 3, 4, 5, 6, 7, 8, 9, 10, 11]] (rlC b p :: capC b10 c.1 :: s.A) (by kernel_rfl) (by kernel_rfl) zAtt (hsub2) ?_
    refine pzU ?_
    apply pl_q
    · exact q_call rfl rfl (fun l hl => Ar.get_any p.a R.A s.A hR.ar c.1.obj l (fun x hx => hl _ (.tail _ (.tail _ hx))))
    · rfl
    · rfl
    · rfl
    obtain ⟨y, hy⟩ : ∃ y, y = Ar.getD' R.A c.1.obj := ⟨_, rfl⟩
    rw [← hy]
    refine pzU ?_
    apply pl_e
    · exact e_alloc
    · rfl
    · rfl
    · rfl
    · rintro _ _ ⟨_, _, _, rfl⟩ x hx; exact .tail _ (hsub2 x hx)
    rintro _ _ ⟨b15, _, rfl, rfl⟩
    apply pl_n
    · exact e_storeLA (cs' := Ar.obC y.1) rfl rfl rfl (by simp [Value.oneCell']) (.head _) (by repeat (first | apply LSetA.done | apply LSetA.put)) .here
    · rfl
    · rfl
    · rintro _ _ ⟨_, rfl⟩ x hx; exact .tail _ (hsub2 x hx)
    rintro _ _ ⟨rfl, rfl⟩
    refine pzU ?_
    cases h3 : o.2.2 with
    | false =>
      refine gzU ?_
      exact k_ret [] rfl (l' := L) (.drop (.drop (.drop .refl))) (by exact zRes) ⟨by simp [spaceR, hf, tup, ← hc, h1, h2, ← ho, h3], rfl⟩
    | true =>
      refine gzU ?_
      by_cases h4 : y.1.kd = 5
      case neg =>
        refine gzU ?_
        exact k_ret [] rfl (l' := L) (.drop (.drop (.drop .refl))) (by exact zRes) ⟨by simp [spaceR, hf, tup, ← hc, h1, h2, ← ho, h3, ← hy, h4], rfl⟩
      refine gzU ?_
      exact k_ret [] rfl (l' := L) (.drop (.drop (.drop .refl))) (by exact zRes) ⟨by simp [spaceR, hf, tup, ← hc, h1, h2, ← ho, h3, ← hy, h4], rfl⟩
end Go.Proofs.YtcjknmpogkofpaaGreat

/- The plain law of BootApart. -/
set_option linter.unusedVariables false
set_option linter.unusedSimpArgs false
namespace Go.Proofs.YtcjknmpogkofpaaGreat
open Go.RowKit
set_option maxRecDepth 100000

def thsB (F T : Nat) (sh : Bool) : List Int := (bootO F T sh).map OwT.th
def objsOk : Ar.OL → Int → Option Int
  | [], e => some e
  | o :: r, e => if o.fi = e ∧ 0 ≤ o.fr ∧ o.fr ≤ 64 then objsOk r (e + o.fr) else none
def apartB (F T : Nat) (sh : Bool) : Bool :=
  let R := bootR F T sh
  let th := thsB F T sh
  decide (R.T.length ≤ 3) && decide (1 ≤ R.A.os.length) && (match objsOk R.A.os 0 with | some e => decide (e ≤ F) && decide ((F : Int) - e < T) | none => false) && decide ((quL R.Q).length = T) && decide (th.length = T) &&
    (List.range T).all (fun i => (spaceR R (th.getD i 0)).2 && (Th.findH R.T (th.getD i 0)).isSome && decide (((Th.findH R.T (th.getD i 0)).getD Th.thZ).st = 1) && decide ((spaceR R (th.getD i 0)).1.2.1 ≠ 0) && decide ((spaceR R (th.getD i 0)).1.2.2 ≠ 0) &&
      (List.range i).all fun j => decide ((spaceR R (th.getD j 0)).1.2.1 ≠ (spaceR R (th.getD i 0)).1.2.1))
theorem apart_all : ((List.range 4).all fun T => (List.range 65).all fun F => T == 0 || decide (F < 11 * T) || (apartB F T false && apartB F T true)) = true := by decide +kernel
theorem apart_any {F T : Nat} (sh : Bool) (hT1 : 1 ≤ T) (hT : T ≤ 3) (hF : 11 * T ≤ F) (hF2 : F ≤ 64) : apartB F T sh = true := by
  have h := List.all_eq_true.1 (List.all_eq_true.1 apart_all T (List.mem_range.2 (by omega))) F (List.mem_range.2 (by omega))
  simp only [Bool.or_eq_true, Bool.and_eq_true, beq_iff_eq, decide_eq_true_eq] at h
  rcases h with (h | h) | ⟨h1, h2⟩
  · omega
  · omega
  · cases sh
    · exact h1
    · exact h2
structure ApF (F T : Nat) (sh : Bool) : Prop where
  t3 : (bootR F T sh).T.length ≤ 3
  o1 : 1 ≤ (bootR F T sh).A.os.length
  e : ∃ e, objsOk (bootR F T sh).A.os 0 = some e ∧ e ≤ F ∧ F - e < T
  q : (quL (bootR F T sh).Q).length = T
  th : (thsB F T sh).length = T
  each : ∀ i, i < T → ∃ a n m t, spaceR (bootR F T sh) ((thsB F T sh).getD i 0) = ((a, n, m), true) ∧ n ≠ 0 ∧ m ≠ 0 ∧ Th.findH (bootR F T sh).T ((thsB F T sh).getD i 0) = some t ∧ t.st = 1 ∧ ∀ j, j < i → ∃ a' n' m' f', spaceR (bootR F T sh) ((thsB F T sh).getD j 0) = ((a', n', m'), f') ∧ n' ≠ n
theorem apart_facts {F T : Nat} (sh : Bool) (hT1 : 1 ≤ T) (hT : T ≤ 3) (hF : 11 * T ≤ F) (hF2 : F ≤ 64) : ApF F T sh := by
  have h := apart_any sh hT1 hT hF hF2
  unfold apartB at h
  obtain ⟨R, hR⟩ : ∃ R, R = bootR F T sh := ⟨_, rfl⟩
  obtain ⟨th, hth⟩ : ∃ th, th = thsB F T sh := ⟨_, rfl⟩
  simp only [← hR, ← hth, Bool.and_eq_true, decide_eq_true_eq, List.all_eq_true, List.mem_range] at h
  obtain ⟨⟨⟨⟨⟨h1, h2⟩, h3⟩, h4⟩, h5⟩, h6⟩ := h
  refine ⟨by rw [← hR]; exact h1, by rw [← hR]; exact h2, ?_, by rw [← hR]; exact h4, by rw [← hth]; exact h5, fun i hi => ?_⟩
  · rw [← hR]
    split at h3
    · rename_i e he
      simp only [Bool.and_eq_true, decide_eq_true_eq] at h3
      exact ⟨e, he, h3⟩
    · cases h3
  · rw [← hR, ← hth]
    obtain ⟨⟨⟨⟨⟨k1, k2⟩, k3⟩, k4⟩, k5⟩, k6⟩ := h6 i hi
    obtain ⟨t, ht⟩ := Option.isSome_iff_exists.1 k2
    rw [ht] at k3
    exact ⟨_, _, _, t, by rw [← k1], k4, k5, ht, k3, fun j hj => ⟨_, _, _, _, rfl, k6 j hj⟩⟩
theorem objs_le : ∀ {os : Ar.OL} {x e : Int}, objsOk os x = some e → x ≤ e
  | [], x, e, h => by cases h; exact Int.le_refl _
  | o :: r, x, e, h => by
    unfold objsOk at h
    split at h
    · have := objs_le h; omega
    · cases h
theorem objs_step {os : Ar.OL} {i : Nat} {o : Ar.ObT} {x e : Int} (ho : os[i]? = some o) (h : objsOk (os.drop i) x = some e) : o.fi = x ∧ 0 ≤ o.fr ∧ o.fr ≤ 64 ∧ objsOk (os.drop (i + 1)) (x + o.fr) = some e := by
  have e1 : os.drop i = o :: os.drop (i + 1) := by
    obtain ⟨hl, hx⟩ := List.getElem?_eq_some_iff.1 ho
    rw [List.drop_eq_getElem_cons hl, hx]
  rw [e1] at h
  unfold objsOk at h
  split at h
  · rename_i hc; exact ⟨hc.1, hc.2.1, hc.2.2, h⟩
  · cases h
end Go.Proofs.YtcjknmpogkofpaaGreat
