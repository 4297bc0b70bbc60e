/- realm: its state as plain data and its blocks; New. realm: the parts; Make. boot: the things that are laid out; the closure that lays one. boot.things. boot.lay. boot.share. realm.State (Ready), kernel.New. boot.May. boot.New. Laws that the statement's proof leans on. -/
import Derived.Test.YtcjknmpogkofpaaGreatBa5
import Derived.Test.YtcjknmpogkofpaaGreatBa6
import Derived.Test.YtcjknmpogkofpaaGreatBa7
import Derived.Test.YtcjknmpogkofpaaGreatBa8
import Derived.Test.YtcjknmpogkofpaaGreatBa11
/- realm: its state as plain data and its blocks; New. -/
-- GU
set_option linter.unusedVariables false
set_option linter.unusedSimpArgs false
namespace Go.Proofs.YtcjknmpogkofpaaGreat
open Go.RowKit
set_option maxRecDepth 20000
set_option pp.deepTerms false
set_option pp.deepTerms.threshold 4

/-- all that a realm keeps, but memory, cores -/
structure RT where
  A : Ar.ArT
  H : HS
  N : As.ASt
  T : Th.TL
  Q : Nat → List Int
  E : En.DE
/-- where the parts lie -/
structure RP where
  m : Nat
  c : Nat
  a : Nat
  h : Nat
  n : Nat
  t : Nat
  q : Nat
  e : Nat
  v : Value
/-- their blocks -/
structure RL where
  M : List Chunk
  C : List Chunk
  A : List Chunk
  H : List Chunk
  T : List Chunk
  Q : List Chunk
  E : List Chunk
  V : List Chunk
abbrev pV (b : Nat) : Value := .pointer (some ⟨b, 0, none⟩)
abbrev rlC (b : Nat) (p : RP) : Chunk := (b, .cells (List.toArray [pV p.m, pV p.c, pV p.a, pV p.h, pV p.n, pV p.t, pV p.q, pV p.e, p.v]) 128 (0, 0))
def allL (b : Nat) (p : RP) (s : RL) (R : RT) (G : List Chunk) : List Chunk := rlC b p :: As.asA p.n R.N :: (s.M ++ (s.C ++ (s.A ++ (s.H ++ (s.T ++ (s.Q ++ (s.E ++ (s.V ++ G))))))))
structure IsRl (F C k : Nat) (R : RT) (p : RP) (s : RL) : Prop where
  mem : IsM p.m F s.M
  co : IsCo p.c C s.C
  ar : Ar.IsA p.a R.A s.A
  an : R.A.n = F
  ho : IsH p.h R.H s.H
  inv : InvH R.H k
  giv : ∀ n, n < 32 → 0 ≤ R.N.given n ∧ R.N.given n ≤ k
  th : Th.IsX p.t R.T s.T
  qu : Qu.IsQ p.q R.Q s.Q
  ql : ∀ n, n < 8 → (R.Q n).length ≤ k
  en : En.IsE p.e R.E s.E
  cu : OwnSl 3 1 p.v C (List.replicate C (.int .i64 0)) s.V
  c1 : 1 ≤ C ∧ C ≤ 3
def newR (F : Nat) : RT := ⟨⟨F, fun _ => 0, []⟩, ([], []), As.ASt.zero, [], Qu.noX, []⟩
theorem rep_flat (z : Value) (n : Nat) : List.replicate n z = (List.replicate n [z]).flatten := by
  induction n with
  | zero => rfl
  | succ n ih => rw [List.replicate_succ, List.replicate_succ, List.flatten_cons, ← ih]; rfl
theorem ok_nil (s : slT) : okD [] s = false := by
  unfold okD sizeD
  rw [show findK Prod.fst ([] : SD) s.1 = none from rfl]
  by_cases h : 0 ≤ s.2
  · rw [decide_eq_true h, decide_eq_false (by simp only; omega)]; rfl
  · rw [decide_eq_false h]; rfl
theorem inv0 : InvH ([], []) 0 :=
  ⟨.none, List.Pairwise.nil, fun x hx => absurd hx (by simp), fun s => ⟨fun h => absurd h (by rw [Tr.hasD_no.2 fun x hx => absurd hx (by simp)]; decide), fun h => absurd h.1 (by rw [ok_nil]; decide)⟩, by simp⟩
set_option maxHeartbeats 4000000 in
theorem rnew_any (F C : Nat) (hF : 1 ≤ F ∧ F ≤ 64) (hC : 1 ≤ C ∧ C ≤ 3) (G : List Chunk) : Fn Tryz.prog 24 [.int .i64 (F : Nat), .int .i64 (C : Nat)] G fun v l' => ∃ b p s X, v = .tuple #[pV b, .int .i64 0] ∧ IsRl F C 0 (newR F) p s ∧ l' = allL b p s (newR F) (X ++ G) := by
  refine fn_of_body Tryz.func24 rfl rfl fun E => ?_
  simp only [argF, Tryz.ntmps24]
  refine gzU ?_
  refine t_e (e_call0 rfl rfl (mnew_any F hF.1 hF.2 _)) rfl rfl rfl ?_
  rintro _ _ ⟨bm, rfl, lm, hM, rfl⟩
  refine gzU ?_
  refine t_e (e_call0 rfl rfl (cnew_any C hC.1 hC.2 _)) rfl rfl rfl ?_
  rintro _ _ ⟨bc, rfl, lc, X, hCo, rfl⟩
  refine gzU ?_
  refine t_e (e_call0 rfl rfl (Ar.new_any F _)) rfl rfl rfl ?_
  rintro _ _ (⟨h, _⟩ | ⟨_, ba, la, rfl, hA, rfl⟩)
  · exact absurd ⟨by omega, by omega⟩ h
  refine gzU ?_
  refine c_drawL [(0, true), (1, true), (2, true), (8, true), (3, false), (4, false), (5, false), (6, false), (7, false), (9, false), (10, true), (11, false), (12, true), (13, true)] [[], [], [], [], [3], [3, 4], [3, 4, 5], [3, 4, 5, 6], [], [8], [0, 1, 2, 3, 4, 5, 6, 7, 8, 9], [0, 1, 2, 3, 4, 5, 6, 7, 8, 9, 10], [0, 1, 2, 3, 4, 5, 6, 7, 8, 9, 10, 11], [0, 1, 2, 3, 4, 5, 6, 7, 8, 9, 10, 11, 12]] (some [(3, 9), (4, 9), (5, 9), (6, 9), (7, 9)]) ([]) (by kernel_rfl) (by kernel_rfl) zAtt zHR ?_
  refine pzU ?_
  apply pl_two [(3, false), (4, false), (5, false), (6, false), (7, false), (9, false), (10, true), (11, false), (12, true), (13, true)] [(9, false), (3, false), (4, false), (5, false), (6, false), (7, false), (10, true), (11, false), (12, true), (13, true)] 3 9 (some [(4, 9), (5, 9), (6, 9), (7, 9)]) none
  · exact zAtt
  · exact zAtt
  · exact ((List.Perm.swap _ _ _).trans (List.Perm.cons _ ((List.Perm.swap _ _ _).trans (List.Perm.cons _ ((List.Perm.swap _ _ _).trans (List.Perm.cons _ ((List.Perm.swap _ _ _).trans (List.Perm.cons _ (List.Perm.swap _ _ _)))))))))
  · kernel_rfl
  · exact e_call0 rfl rfl (hnew_any _)
  · rfl
  · rfl
  · intro _ _ _ c hc; cases hc
  · intro _ _ _ x hx; cases hx
  · exact e_makeSlice (n := C) (kk := 1) (zs := [.int .i64 0]) (xs := List.replicate C (.int .i64 0)) rfl rfl (by omega) (by omega) (by decide) (rep_flat _ _)
  · rfl
  · rfl
  · intro _ _ _ c hc; cases hc
  · intro _ _ _ x hx; cases hx
  · rintro _ _ ⟨bh, rfl, lh, hH, rfl⟩
    apply pl_two [(4, false), (5, false), (6, false), (7, false), (9, false), (10, true), (11, false), (12, true), (13, true)] [(9, false), (4, false), (5, false), (6, false), (7, false), (10, true), (11, false), (12, true), (13, true)] 4 9 (some [(5, 9), (6, 9), (7, 9)]) none
    · exact zAtt
    · exact zAtt
    · exact ((List.Perm.swap _ _ _).trans (List.Perm.cons _ ((List.Perm.swap _ _ _).trans (List.Perm.cons _ ((List.Perm.swap _ _ _).trans (List.Perm.cons _ (List.Perm.swap _ _ _)))))))
    · kernel_rfl
    · exact e_call0 rfl rfl (As.new_any _)
    · rfl
    · rfl
    · intro _ _ _ c hc; cases hc
    · intro _ _ _ x hx; cases hx
    · exact e_makeSlice (n := C) (kk := 1) (zs := [.int .i64 0]) (xs := List.replicate C (.int .i64 0)) rfl rfl (by omega) (by omega) (by decide) (rep_flat _ _)
    · rfl
    · rfl
    · intro _ _ _ c hc; cases hc
    · intro _ _ _ x hx; cases hx
    · rintro _ _ ⟨bn, _, rfl, rfl⟩
      apply pl_two [(5, false), (6, false), (7, false), (9, false), (10, true), (11, false), (12, true), (13, true)] [(9, false), (5, false), (6, false), (7, false), (10, true), (11, false), (12, true), (13, true)] 5 9 (some [(6, 9), (7, 9)]) none
      · exact zAtt
      · exact zAtt
      · exact ((List.Perm.swap _ _ _).trans (List.Perm.cons _ ((List.Perm.swap _ _ _).trans (List.Perm.cons _ (List.Perm.swap _ _ _)))))
      · kernel_rfl
      · exact e_call0 rfl rfl (Th.new_any _)
      · rfl
      · rfl
      · intro _ _ _ c hc; cases hc
      · intro _ _ _ x hx; cases hx
      · exact e_makeSlice (n := C) (kk := 1) (zs := [.int .i64 0]) (xs := List.replicate C (.int .i64 0)) rfl rfl (by omega) (by omega) (by decide) (rep_flat _ _)
      · rfl
      · rfl
      · intro _ _ _ c hc; cases hc
      · intro _ _ _ x hx; cases hx
      · rintro _ _ ⟨bt, rfl, lt, hT, rfl⟩
        apply pl_two [(6, false), (7, false), (9, false), (10, true), (11, false), (12, true), (13, true)] [(9, false), (6, false), (7, false), (10, true), (11, false), (12, true), (13, true)] 6 9 (some [(7, 9)]) none
        · exact zAtt
        · exact zAtt
        · exact ((List.Perm.swap _ _ _).trans (List.Perm.cons _ (List.Perm.swap _ _ _)))
        · kernel_rfl
        · exact e_call0 rfl rfl (Qu.new_any _)
        · rfl
        · rfl
        · intro _ _ _ c hc; cases hc
        · intro _ _ _ x hx; cases hx
        · exact e_makeSlice (n := C) (kk := 1) (zs := [.int .i64 0]) (xs := List.replicate C (.int .i64 0)) rfl rfl (by omega) (by omega) (by decide) (rep_flat _ _)
        · rfl
        · rfl
        · intro _ _ _ c hc; cases hc
        · intro _ _ _ x hx; cases hx
        · rintro _ _ ⟨bq, rfl, lq, hQ, rfl⟩
          apply pl_two [(7, false), (9, false), (10, true), (11, false), (12, true), (13, true)] [(9, false), (7, false), (10, true), (11, false), (12, true), (13, true)] 7 9 none none
          · exact zAtt
          · exact zAtt
          · exact (List.Perm.swap _ _ _)
          · kernel_rfl
          · exact e_call0 rfl rfl (En.new_any _)
          · rfl
          · rfl
          · intro _ _ _ c hc; cases hc
          · intro _ _ _ x hx; cases hx
          · exact e_makeSlice (n := C) (kk := 1) (zs := [.int .i64 0]) (xs := List.replicate C (.int .i64 0)) rfl rfl (by omega) (by omega) (by decide) (rep_flat _ _)
          · rfl
          · rfl
          · intro _ _ _ c hc; cases hc
          · intro _ _ _ x hx; cases hx
          · rintro _ _ ⟨be, rfl, le, hE, rfl⟩
            apply pl_e
            · exact e_makeSlice (n := C) (kk := 1) (zs := [.int .i64 0]) (xs := List.replicate C (.int .i64 0)) rfl rfl (by omega) (by omega) (by decide) (rep_flat _ _)
            · rfl
            · rfl
            · rfl
            · intro _ _ _ c hc; cases hc
            rintro _ _ ⟨bv, hbv, rfl, rfl⟩
            refine pzU ?_
            apply pl_e
            · exact e_boxA rfl
            · rfl
            · rfl
            · rfl
            · intro _ _ _ c hc; cases hc
            rintro _ _ ⟨b, hb, rfl, rfl⟩
            refine pzU ?_
            refine gzU ?_
            exact k_ret [] rfl (l' := allL b ⟨bm, bc, ba, bh, bn, bt, bq, be, .slice (some ⟨bv, 0, none⟩) C C⟩ ⟨lm, lc, la, lh, lt, lq, le, [(bv, .cells (List.toArray (List.replicate C (.int .i64 0))) 3 (0, 0))]⟩ (newR F) (X ++ G)) (by unfold allL; dsimp only [rlC, newR, As.asA, pV]; simp only [List.getElem_toArray, List.getElem_cons_zero]; exact keep_ac []) (by exact zRes) ⟨b, _, _, X, rfl, ⟨hM, hCo, hA, rfl, hH, inv0, fun n _ => by simp [newR, As.ASt.zero], hT, hQ, fun n _ => by simp [newR, Qu.noX], hE, OwnSl.lit (by omega) (by simp) (by omega), hC⟩, rfl⟩
          · rintro _ _ ⟨bv, hbv, rfl, rfl⟩
            apply pl_e
            · exact e_call0 rfl rfl (En.new_any _)
            · rfl
            · rfl
            · rfl
            · intro _ _ _ c hc; cases hc
            rintro _ _ ⟨be, rfl, le, hE, rfl⟩
            refine pzU ?_
            apply pl_e
            · exact e_boxA rfl
            · rfl
            · rfl
            · rfl
            · intro _ _ _ c hc; cases hc
            rintro _ _ ⟨b, hb, rfl, rfl⟩
            refine pzU ?_
            refine gzU ?_
            exact k_ret [] rfl (l' := allL b ⟨bm, bc, ba, bh, bn, bt, bq, be, .slice (some ⟨bv, 0, none⟩) C C⟩ ⟨lm, lc, la, lh, lt, lq, le, [(bv, .cells (List.toArray (List.replicate C (.int .i64 0))) 3 (0, 0))]⟩ (newR F) (X ++ G)) (by unfold allL; dsimp only [rlC, newR, As.asA, pV]; simp only [List.getElem_toArray, List.getElem_cons_zero]; exact keep_ac []) (by exact zRes) ⟨b, _, _, X, rfl, ⟨hM, hCo, hA, rfl, hH, inv0, fun n _ => by simp [newR, As.ASt.zero], hT, hQ, fun n _ => by simp [newR, Qu.noX], hE, OwnSl.lit (by omega) (by simp) (by omega), hC⟩, rfl⟩
        · rintro _ _ ⟨bv, hbv, rfl, rfl⟩
          apply pl_e
          · exact e_call0 rfl rfl (Qu.new_any _)
          · rfl
          · rfl
          · rfl
          · intro _ _ _ c hc; cases hc
          rintro _ _ ⟨bq, rfl, lq, hQ, rfl⟩
          refine pzU ?_
          apply pl_e
          · exact e_call0 rfl rfl (En.new_any _)
          · rfl
          · rfl
          · rfl
          · intro _ _ _ c hc; cases hc
          rintro _ _ ⟨be, rfl, le, hE, rfl⟩
          refine pzU ?_
          apply pl_e
          · exact e_boxA rfl
          · rfl
          · rfl
          · rfl
          · intro _ _ _ c hc; cases hc
          rintro _ _ ⟨b, hb, rfl, rfl⟩
          refine pzU ?_
          refine gzU ?_
          exact k_ret [] rfl (l' := allL b ⟨bm, bc, ba, bh, bn, bt, bq, be, .slice (some ⟨bv, 0, none⟩) C C⟩ ⟨lm, lc, la, lh, lt, lq, le, [(bv, .cells (List.toArray (List.replicate C (.int .i64 0))) 3 (0, 0))]⟩ (newR F) (X ++ G)) (by unfold allL; dsimp only [rlC, newR, As.asA, pV]; simp only [List.getElem_toArray, List.getElem_cons_zero]; exact keep_ac []) (by exact zRes) ⟨b, _, _, X, rfl, ⟨hM, hCo, hA, rfl, hH, inv0, fun n _ => by simp [newR, As.ASt.zero], hT, hQ, fun n _ => by simp [newR, Qu.noX], hE, OwnSl.lit (by omega) (by simp) (by omega), hC⟩, rfl⟩
      · rintro _ _ ⟨bv, hbv, rfl, rfl⟩
        apply pl_e
        · exact e_call0 rfl rfl (Th.new_any _)
        · rfl
        · rfl
        · rfl
        · intro _ _ _ c hc; cases hc
        rintro _ _ ⟨bt, rfl, lt, hT, rfl⟩
        refine pzU ?_
        apply pl_e
        · exact e_call0 rfl rfl (Qu.new_any _)
        · rfl
        · rfl
        · rfl
        · intro _ _ _ c hc; cases hc
        rintro _ _ ⟨bq, rfl, lq, hQ, rfl⟩
        refine pzU ?_
        apply pl_e
        · exact e_call0 rfl rfl (En.new_any _)
        · rfl
        · rfl
        · rfl
        · intro _ _ _ c hc; cases hc
        rintro _ _ ⟨be, rfl, le, hE, rfl⟩
        refine pzU ?_
        apply pl_e
        · exact e_boxA rfl
        · rfl
        · rfl
        · rfl
        · intro _ _ _ c hc; cases hc
        rintro _ _ ⟨b, hb, rfl, rfl⟩
        refine pzU ?_
        refine gzU ?_
        exact k_ret [] rfl (l' := allL b ⟨bm, bc, ba, bh, bn, bt, bq, be, .slice (some ⟨bv, 0, none⟩) C C⟩ ⟨lm, lc, la, lh, lt, lq, le, [(bv, .cells (List.toArray (List.replicate C (.int .i64 0))) 3 (0, 0))]⟩ (newR F) (X ++ G)) (by unfold allL; dsimp only [rlC, newR, As.asA, pV]; simp only [List.getElem_toArray, List.getElem_cons_zero]; exact keep_ac []) (by exact zRes) ⟨b, _, _, X, rfl, ⟨hM, hCo, hA, rfl, hH, inv0, fun n _ => by simp [newR, As.ASt.zero], hT, hQ, fun n _ => by simp [newR, Qu.noX], hE, OwnSl.lit (by omega) (by simp) (by omega), hC⟩, rfl⟩
    · rintro _ _ ⟨bv, hbv, rfl, rfl⟩
      apply pl_e
      · exact e_call0 rfl rfl (As.new_any _)
      · rfl
      · rfl
      · rfl
      · intro _ _ _ c hc; cases hc
      rintro _ _ ⟨bn, _, rfl, rfl⟩
      refine pzU ?_
      apply pl_e
      · exact e_call0 rfl rfl (Th.new_any _)
      · rfl
      · rfl
      · rfl
      · intro _ _ _ c hc; cases hc
      rintro _ _ ⟨bt, rfl, lt, hT, rfl⟩
      refine pzU ?_
      apply pl_e
      · exact e_call0 rfl rfl (Qu.new_any _)
      · rfl
      · rfl
      · rfl
      · intro _ _ _ c hc; cases hc
      rintro _ _ ⟨bq, rfl, lq, hQ, rfl⟩
      refine pzU ?_
      apply pl_e
      · exact e_call0 rfl rfl (En.new_any _)
      · rfl
      · rfl
      · rfl
      · intro _ _ _ c hc; cases hc
      rintro _ _ ⟨be, rfl, le, hE, rfl⟩
      refine pzU ?_
      apply pl_e
      · exact e_boxA rfl
      · rfl
      · rfl
      · rfl
      · intro _ _ _ c hc; cases hc
      rintro _ _ ⟨b, hb, rfl, rfl⟩
      refine pzU ?_
      refine gzU ?_
      exact k_ret [] rfl (l' := allL b ⟨bm, bc, ba, bh, bn, bt, bq, be, .slice (some ⟨bv, 0, none⟩) C C⟩ ⟨lm, lc, la, lh, lt, lq, le, [(bv, .cells (List.toArray (List.replicate C (.int .i64 0))) 3 (0, 0))]⟩ (newR F) (X ++ G)) (by unfold allL; dsimp only [rlC, newR, As.asA, pV]; simp only [List.getElem_toArray, List.getElem_cons_zero]; exact keep_ac []) (by exact zRes) ⟨b, _, _, X, rfl, ⟨hM, hCo, hA, rfl, hH, inv0, fun n _ => by simp [newR, As.ASt.zero], hT, hQ, fun n _ => by simp [newR, Qu.noX], hE, OwnSl.lit (by omega) (by simp) (by omega), hC⟩, rfl⟩
  · rintro _ _ ⟨bv, hbv, rfl, rfl⟩
    apply pl_e
    · exact e_call0 rfl rfl (hnew_any _)
    · rfl
    · rfl
    · rfl
    · intro _ _ _ c hc; cases hc
    rintro _ _ ⟨bh, rfl, lh, hH, rfl⟩
    refine pzU ?_
    apply pl_e
    · exact e_call0 rfl rfl (As.new_any _)
    · rfl
    · rfl
    · rfl
    · intro _ _ _ c hc; cases hc
    rintro _ _ ⟨bn, _, rfl, rfl⟩
    refine pzU ?_
    apply pl_e
    · exact e_call0 rfl rfl (Th.new_any _)
    · rfl
    · rfl
    · rfl
    · intro _ _ _ c hc; cases hc
    rintro _ _ ⟨bt, rfl, lt, hT, rfl⟩
    refine pzU ?_
    apply pl_e
    · exact e_call0 rfl rfl (Qu.new_any _)
    · rfl
    · rfl
    · rfl
    · intro _ _ _ c hc; cases hc
    rintro _ _ ⟨bq, rfl, lq, hQ, rfl⟩
    refine pzU ?_
    apply pl_e
    · exact e_call0 rfl rfl (En.new_any _)
    · rfl
    · rfl
    · rfl
    · intro _ _ _ c hc; cases hc
    rintro _ _ ⟨be, rfl, le, hE, rfl⟩
    refine pzU ?_
    apply pl_e
    · exact e_boxA rfl
    · rfl
    · rfl
    · rfl
    · intro _ _ _ c hc; cases hc
    rintro _ _ ⟨b, hb, rfl, rfl⟩
    refine pzU ?_
    refine gzU ?_
    exact k_ret [] rfl (l' := allL b ⟨bm, bc, ba, bh, bn, bt, bq, be, .slice (some ⟨bv, 0, none⟩) C C⟩ ⟨lm, lc, la, lh, lt, lq, le, [(bv, .cells (List.toArray (List.replicate C (.int .i64 0))) 3 (0, 0))]⟩ (newR F) (X ++ G)) (by unfold allL; dsimp only [rlC, newR, As.asA, pV]; simp only [List.getElem_toArray, List.getElem_cons_zero]; exact keep_ac []) (by exact zRes) ⟨b, _, _, X, rfl, ⟨hM, hCo, hA, rfl, hH, inv0, fun n _ => by simp [newR, As.ASt.zero], hT, hQ, fun n _ => by simp [newR, Qu.noX], hE, OwnSl.lit (by omega) (by simp) (by omega), hC⟩, rfl⟩
end Go.Proofs.YtcjknmpogkofpaaGreat

/- realm: the parts; Make. -/
-- GU
set_option linter.unusedVariables false
set_option linter.unusedSimpArgs false
namespace Go.Proofs.YtcjknmpogkofpaaGreat
open Go.RowKit
set_option maxRecDepth 20000
set_option pp.deepTerms false
set_option pp.deepTerms.threshold 4

theorem rarena_any (b : Nat) (p : RP) (l : List Chunk) (hm : rlC b p ∈ l) : Fn Tryz.prog 75 [pV b] l fun v l' => v = pV p.a ∧ l' = l := by
  refine fn_of_body Tryz.func75 rfl rfl fun E => ?_
  simp only [argF, Tryz.ntmps75]
  refine gzU ?_
  exact k_ret [] rfl .refl (by exact zRes) ⟨rfl, rfl⟩
theorem rhold_any (b : Nat) (p : RP) (l : List Chunk) (hm : rlC b p ∈ l) : Fn Tryz.prog 83 [pV b] l fun v l' => v = pV p.h ∧ l' = l := by
  refine fn_of_body Tryz.func83 rfl rfl fun E => ?_
  simp only [argF, Tryz.ntmps83]
  refine gzU ?_
  exact k_ret [] rfl .refl (by exact zRes) ⟨rfl, rfl⟩
theorem rasids_any (b : Nat) (p : RP) (l : List Chunk) (hm : rlC b p ∈ l) : Fn Tryz.prog 86 [pV b] l fun v l' => v = pV p.n ∧ l' = l := by
  refine fn_of_body Tryz.func86 rfl rfl fun E => ?_
  simp only [argF, Tryz.ntmps86]
  refine gzU ?_
  exact k_ret [] rfl .refl (by exact zRes) ⟨rfl, rfl⟩
theorem rthreads_any (b : Nat) (p : RP) (l : List Chunk) (hm : rlC b p ∈ l) : Fn Tryz.prog 22 [pV b] l fun v l' => v = pV p.t ∧ l' = l := by
  refine fn_of_body Tryz.func22 rfl rfl fun E => ?_
  simp only [argF, Tryz.ntmps22]
  refine gzU ?_
  exact k_ret [] rfl .refl (by exact zRes) ⟨rfl, rfl⟩
/-- an object is made -/
def makeR (R : RT) (k s f : Int) : (Int × Int) × RT :=
  if (Ar.addD R.A k s f).1.2 = 0 then
    (((Ar.addD R.A k s f).1.1, 0), ⟨(Ar.addD R.A k s f).2, (if 0 < Ar.slotsD k s then ((addN R.H.1 (Ar.addD R.A k s f).1.1 (Ar.slotsD k s)).2, R.H.2) else R.H), R.N, (if k = 9 then (Th.addD R.T (Ar.addD R.A k s f).1.1).2 else R.T), R.Q, (if k = 8 then (En.addD R.E (Ar.addD R.A k s f).1.1).2 else R.E)⟩)
  else ((0, (Ar.addD R.A k s f).1.2), { R with A := (Ar.addD R.A k s f).2 })
theorem add_n (S : Ar.ArT) (k s f : Int) : (Ar.addD S k s f).2.n = S.n := by unfold Ar.addD; split <;> rfl
theorem add_rng {S : Ar.ArT} {k s f : Int} (h : (Ar.addD S k s f).1.2 = 0) : 0 ≤ f ∧ f ≤ S.n - Ar.framesD k s ∧ 1 ≤ Ar.framesD k s := by
  have h1 := Ar.frames_rng k s
  unfold Ar.addD at h
  by_cases h0 : Ar.addE S k s f = 0
  · unfold Ar.addE at h0
    by_cases h2 : Ar.framesD k s = 0
    · rw [if_pos h2] at h0; omega
    · rw [if_neg h2] at h0
      by_cases h3 : f < 0 ∨ f > S.n - Ar.framesD k s
      · rw [if_pos h3] at h0; omega
      · omega
  · rw [if_neg h0] at h; exact absurd h h0
theorem IsRl.mono {F C k m : Nat} {R : RT} {p : RP} {s : RL} (h : IsRl F C k R p s) (hm : k ≤ m) : IsRl F C m R p s :=
  ⟨h.mem, h.co, h.ar, h.an, h.ho, h.inv.mono hm, fun n hn => by have := h.giv n hn; omega, h.th, h.qu, fun n hn => Nat.le_trans (h.ql n hn) hm, h.en, h.cu, h.c1⟩
set_option maxHeartbeats 4000000 in
theorem make_any (F C n : Nat) (R : RT) (b : Nat) (p : RP) (s : RL) (hR : IsRl F C n R p s) (hn : n ≤ 900) (k z f : Int) (G : List Chunk) : Fn Tryz.prog 26 [pV b, .int .i64 k, .int .i64 z, .int .i64 f] (allL b p s R G) fun v l' =>
    v = .tuple #[.int .i64 (makeR R k z f).1.1, .int .i64 (makeR R k z f).1.2] ∧ ∃ s' X, IsRl F C (n + 1) (makeR R k z f).2 p s' ∧ l' = allL b p s' (makeR R k z f).2 (X ++ G) := by
  have hF := hR.mem.2.1
  refine fn_of_body Tryz.func26 rfl rfl fun E => ?_
  simp only [argF, Tryz.ntmps26]
  unfold allL
  refine gzU ?_
  refine t_e (e_call0 rfl rfl (rarena_any b p _ (.head _))) rfl rfl rfl ?_
  rintro _ _ ⟨rfl, rfl⟩
  refine gzU ?_
  refine s_keep (l' := s.A ++ (rlC b p :: As.asA p.n R.N :: (s.M ++ (s.C ++ (s.H ++ (s.T ++ (s.Q ++ (s.E ++ (s.V ++ G))))))))) (keep_ac []) ?_
  refine t_e (e_call0 rfl rfl (Ar.add_any p.a R.A s.A hR.ar k z f _)) rfl rfl rfl ?_
  rintro _ _ ⟨rfl, lA, hA, rfl⟩
  refine s_keep (l' := rlC b p :: As.asA p.n R.N :: (s.M ++ (s.C ++ (lA ++ (s.H ++ (s.T ++ (s.Q ++ (s.E ++ (s.V ++ G))))))))) (keep_ac []) ?_
  obtain ⟨id, hid⟩ : ∃ x, x = (Ar.addD R.A k z f).1.1 := ⟨_, rfl⟩
  obtain ⟨er, her⟩ : ∃ x, x = (Ar.addD R.A k z f).1.2 := ⟨_, rfl⟩
  have hAn : (Ar.addD R.A k z f).2.n = F := by rw [add_n]; exact hR.an
  rw [← hid, ← her]
  have hmk : makeR R k z f = if er = 0 then ((id, 0), (⟨(Ar.addD R.A k z f).2, (if 0 < Ar.slotsD k z then ((addN R.H.1 id (Ar.slotsD k z)).2, R.H.2) else R.H), R.N, (if k = 9 then (Th.addD R.T id).2 else R.T), R.Q, (if k = 8 then (En.addD R.E id).2 else R.E)⟩ : RT)) else ((0, er), { R with A := (Ar.addD R.A k z f).2 }) := by unfold makeR; rw [← hid, ← her]
  by_cases he : er = 0
  · rw [if_pos he] at hmk
    rw [hmk]
    obtain ⟨r1, r2, r3⟩ := add_rng (her.symm.trans he)
    rw [hR.an] at r2
    obtain ⟨f', rfl⟩ : ∃ f' : Nat, f = f' := ⟨f.toNat, by omega⟩
    obtain ⟨fr, hfr⟩ : ∃ fr : Nat, Ar.framesD k z = fr := ⟨(Ar.framesD k z).toNat, by omega⟩
    refine gzU ?_
    by_cases h1 : k = 1
    · have hs0 : Ar.slotsD k z = 0 := by unfold Ar.slotsD; rw [if_neg (by omega), if_neg (by omega)]
      have hs : ¬ 0 < Ar.slotsD k z := by omega
      have hH0 : (if 0 < Ar.slotsD k z then ((addN R.H.1 id (Ar.slotsD k z)).2, R.H.2) else R.H) = R.H := if_neg hs
      have hT0 : (if k = 9 then (Th.addD R.T id).2 else R.T) = R.T := if_neg (by omega)
      have hE0 : (if k = 8 then (En.addD R.E id).2 else R.E) = R.E := if_neg (by omega)
      rw [hH0, hT0, hE0]
      refine gzU ?_
      refine t_e (e_call0 rfl rfl (Ar.slots_any k z _)) rfl rfl rfl ?_
      rintro _ _ ⟨rfl, rfl⟩
      refine gzU ?_
      refine gzU ?_
      refine k_ret [] rfl (l' := allL b p ⟨s.M, s.C, lA, s.H, s.T, s.Q, s.E, s.V⟩ ⟨(Ar.addD R.A k z (f' : Nat)).2, R.H, R.N, R.T, R.Q, R.E⟩ (([]) ++ G)) (by unfold allL; exact keep_ac []) (by exact zRes) ?_
      refine ⟨rfl, ⟨s.M, s.C, lA, s.H, s.T, s.Q, s.E, s.V⟩, [], ?_, rfl⟩
      exact ⟨hR.mem, hR.co, hA, hAn, hR.ho, hR.inv.mono (by omega), fun j hj => by have := hR.giv j hj; simp only; omega, hR.th, hR.qu, fun j hj => Nat.le_trans (hR.ql j hj) (by omega), hR.en, hR.cu, hR.c1⟩
    refine gzU ?_
    refine c_keep (l' := s.M ++ (rlC b p :: As.asA p.n R.N :: (s.C ++ (lA ++ (s.H ++ (s.T ++ (s.Q ++ (s.E ++ (s.V ++ G))))))))) (keep_ac []) ?_
    refine c_draw [(0, true), (1, true), (2, true), (3, true), (4, true), (5, true), (6, true), (7, true), (8, false)] [[], [0], [0, 1], [0, 1, 2], [], [], [], [5, 6], [0, 1, 2, 3, 4, 5, 6, 7]] ([rlC b p]) (by kernel_rfl) (by kernel_rfl) zAtt ((sing_mem (List.mem_append_right _ (.head _)))) ?_
    refine pzU ?_
    apply pl_q
    · exact q_call rfl rfl (fun l hl => Ar.frames_any k z l)
    · rfl
    · rfl
    · rfl
    refine pzU ?_
    apply pl_e
    · exact e_call0 rfl rfl (by rw [hfr]; exact mzero_any p.m F f' fr s.M hR.mem (by omega) (by omega) _)
    · rfl
    · rfl
    · rfl
    · rintro _ _ ⟨_, X, rfl⟩; exact sing_mem (List.mem_append_right _ (List.mem_append_right _ (.head _)))
    rintro _ _ ⟨rfl, X, rfl⟩
    refine pzU ?_
    refine gzU ?_
    refine t_e (e_call0 rfl rfl (Ar.slots_any k z _)) rfl rfl rfl ?_
    rintro _ _ ⟨rfl, rfl⟩
    refine gzU ?_
    by_cases hs : 0 < Ar.slotsD k z
    · by_cases h9 : k = 9
      · have hH0 : (if 0 < Ar.slotsD k z then ((addN R.H.1 id (Ar.slotsD k z)).2, R.H.2) else R.H) = ((addN R.H.1 id (Ar.slotsD k z)).2, R.H.2) := if_pos hs
        have hT0 : (if k = 9 then (Th.addD R.T id).2 else R.T) = (Th.addD R.T id).2 := if_pos (by omega)
        have hE0 : (if k = 8 then (En.addD R.E id).2 else R.E) = R.E := if_neg (by omega)
        rw [hH0, hT0, hE0]
        refine gzU ?_
        refine s_keep (l' := rlC b p :: As.asA p.n R.N :: (s.M ++ (s.C ++ (lA ++ (s.H ++ (s.T ++ (s.Q ++ (s.E ++ (s.V ++ (X ++ G)))))))))) (keep_ac []) ?_
        refine gzU ?_
        refine s_keep (l' := s.H ++ (rlC b p :: As.asA p.n R.N :: (s.M ++ (s.C ++ (lA ++ (s.T ++ (s.Q ++ (s.E ++ (s.V ++ (X ++ G)))))))))) (keep_ac []) ?_
        refine t_e (e_call0 rfl rfl (haddN_any p.h R.H s.H hR.ho id (Ar.slotsD k z) _)) rfl rfl rfl ?_
        rintro _ _ ⟨rfl, lH, hH, rfl⟩
        refine s_keep (l' := rlC b p :: As.asA p.n R.N :: (s.M ++ (s.C ++ (lA ++ (lH ++ (s.T ++ (s.Q ++ (s.E ++ (s.V ++ (X ++ G)))))))))) (keep_ac []) ?_
        refine gzU ?_
        refine s_keep (l' := s.T ++ (rlC b p :: As.asA p.n R.N :: (s.M ++ (s.C ++ (lA ++ (lH ++ (s.Q ++ (s.E ++ (s.V ++ (X ++ G)))))))))) (keep_ac []) ?_
        refine t_e (e_call0 rfl rfl (Th.add_any p.t R.T s.T hR.th id _)) rfl rfl rfl ?_
        rintro _ _ ⟨rfl, lT, hT, rfl⟩
        refine gzU ?_
        refine k_ret [] rfl (l' := allL b p ⟨s.M, s.C, lA, lH, lT, s.Q, s.E, s.V⟩ ⟨(Ar.addD R.A k z (f' : Nat)).2, ((addN R.H.1 id (Ar.slotsD k z)).2, R.H.2), R.N, (Th.addD R.T id).2, R.Q, R.E⟩ ((X) ++ G)) (by unfold allL; exact keep_ac []) (by exact zRes) ?_
        refine ⟨rfl, ⟨s.M, s.C, lA, lH, lT, s.Q, s.E, s.V⟩, X, ?_, rfl⟩
        exact ⟨hR.mem, hR.co, hA, hAn, hH, hR.inv.add _ _, fun j hj => by have := hR.giv j hj; simp only; omega, hT, hR.qu, fun j hj => Nat.le_trans (hR.ql j hj) (by omega), hR.en, hR.cu, hR.c1⟩
      by_cases h8 : k = 8
      · have hH0 : (if 0 < Ar.slotsD k z then ((addN R.H.1 id (Ar.slotsD k z)).2, R.H.2) else R.H) = ((addN R.H.1 id (Ar.slotsD k z)).2, R.H.2) := if_pos hs
        have hT0 : (if k = 9 then (Th.addD R.T id).2 else R.T) = R.T := if_neg (by omega)
        have hE0 : (if k = 8 then (En.addD R.E id).2 else R.E) = (En.addD R.E id).2 := if_pos (by omega)
        rw [hH0, hT0, hE0]
        refine gzU ?_
        refine s_keep (l' := rlC b p :: As.asA p.n R.N :: (s.M ++ (s.C ++ (lA ++ (s.H ++ (s.T ++ (s.Q ++ (s.E ++ (s.V ++ (X ++ G)))))))))) (keep_ac []) ?_
        refine gzU ?_
        refine s_keep (l' := s.H ++ (rlC b p :: As.asA p.n R.N :: (s.M ++ (s.C ++ (lA ++ (s.T ++ (s.Q ++ (s.E ++ (s.V ++ (X ++ G)))))))))) (keep_ac []) ?_
        refine t_e (e_call0 rfl rfl (haddN_any p.h R.H s.H hR.ho id (Ar.slotsD k z) _)) rfl rfl rfl ?_
        rintro _ _ ⟨rfl, lH, hH, rfl⟩
        refine s_keep (l' := rlC b p :: As.asA p.n R.N :: (s.M ++ (s.C ++ (lA ++ (lH ++ (s.T ++ (s.Q ++ (s.E ++ (s.V ++ (X ++ G)))))))))) (keep_ac []) ?_
        refine gzU ?_
        refine s_keep (l' := s.E ++ (rlC b p :: As.asA p.n R.N :: (s.M ++ (s.C ++ (lA ++ (lH ++ (s.T ++ (s.Q ++ (s.V ++ (X ++ G)))))))))) (keep_ac []) ?_
        refine t_e (e_call0 rfl rfl (En.add_any p.e R.E s.E id hR.en _)) rfl rfl rfl ?_
        rintro _ _ ⟨rfl, lE, hE, rfl⟩
        refine gzU ?_
        refine k_ret [] rfl (l' := allL b p ⟨s.M, s.C, lA, lH, s.T, s.Q, lE, s.V⟩ ⟨(Ar.addD R.A k z (f' : Nat)).2, ((addN R.H.1 id (Ar.slotsD k z)).2, R.H.2), R.N, R.T, R.Q, (En.addD R.E id).2⟩ ((X) ++ G)) (by unfold allL; exact keep_ac []) (by exact zRes) ?_
        refine ⟨rfl, ⟨s.M, s.C, lA, lH, s.T, s.Q, lE, s.V⟩, X, ?_, rfl⟩
        exact ⟨hR.mem, hR.co, hA, hAn, hH, hR.inv.add _ _, fun j hj => by have := hR.giv j hj; simp only; omega, hR.th, hR.qu, fun j hj => Nat.le_trans (hR.ql j hj) (by omega), hE, hR.cu, hR.c1⟩
      have hH0 : (if 0 < Ar.slotsD k z then ((addN R.H.1 id (Ar.slotsD k z)).2, R.H.2) else R.H) = ((addN R.H.1 id (Ar.slotsD k z)).2, R.H.2) := if_pos hs
      have hT0 : (if k = 9 then (Th.addD R.T id).2 else R.T) = R.T := if_neg (by omega)
      have hE0 : (if k = 8 then (En.addD R.E id).2 else R.E) = R.E := if_neg (by omega)
      rw [hH0, hT0, hE0]
      refine gzU ?_
      refine s_keep (l' := rlC b p :: As.asA p.n R.N :: (s.M ++ (s.C ++ (lA ++ (s.H ++ (s.T ++ (s.Q ++ (s.E ++ (s.V ++ (X ++ G)))))))))) (keep_ac []) ?_
      refine gzU ?_
      refine s_keep (l' := s.H ++ (rlC b p :: As.asA p.n R.N :: (s.M ++ (s.C ++ (lA ++ (s.T ++ (s.Q ++ (s.E ++ (s.V ++ (X ++ G)))))))))) (keep_ac []) ?_
      refine t_e (e_call0 rfl rfl (haddN_any p.h R.H s.H hR.ho id (Ar.slotsD k z) _)) rfl rfl rfl ?_
      rintro _ _ ⟨rfl, lH, hH, rfl⟩
      refine gzU ?_
      refine k_ret [] rfl (l' := allL b p ⟨s.M, s.C, lA, lH, s.T, s.Q, s.E, s.V⟩ ⟨(Ar.addD R.A k z (f' : Nat)).2, ((addN R.H.1 id (Ar.slotsD k z)).2, R.H.2), R.N, R.T, R.Q, R.E⟩ ((X) ++ G)) (by unfold allL; exact keep_ac []) (by exact zRes) ?_
      refine ⟨rfl, ⟨s.M, s.C, lA, lH, s.T, s.Q, s.E, s.V⟩, X, ?_, rfl⟩
      exact ⟨hR.mem, hR.co, hA, hAn, hH, hR.inv.add _ _, fun j hj => by have := hR.giv j hj; simp only; omega, hR.th, hR.qu, fun j hj => Nat.le_trans (hR.ql j hj) (by omega), hR.en, hR.cu, hR.c1⟩
    · by_cases h9 : k = 9
      · have hH0 : (if 0 < Ar.slotsD k z then ((addN R.H.1 id (Ar.slotsD k z)).2, R.H.2) else R.H) = R.H := if_neg hs
        have hT0 : (if k = 9 then (Th.addD R.T id).2 else R.T) = (Th.addD R.T id).2 := if_pos (by omega)
        have hE0 : (if k = 8 then (En.addD R.E id).2 else R.E) = R.E := if_neg (by omega)
        rw [hH0, hT0, hE0]
        refine gzU ?_
        refine s_keep (l' := rlC b p :: As.asA p.n R.N :: (s.M ++ (s.C ++ (lA ++ (s.H ++ (s.T ++ (s.Q ++ (s.E ++ (s.V ++ (X ++ G)))))))))) (keep_ac []) ?_
        refine gzU ?_
        refine s_keep (l' := s.T ++ (rlC b p :: As.asA p.n R.N :: (s.M ++ (s.C ++ (lA ++ (s.H ++ (s.Q ++ (s.E ++ (s.V ++ (X ++ G)))))))))) (keep_ac []) ?_
        refine t_e (e_call0 rfl rfl (Th.add_any p.t R.T s.T hR.th id _)) rfl rfl rfl ?_
        rintro _ _ ⟨rfl, lT, hT, rfl⟩
        refine gzU ?_
        refine k_ret [] rfl (l' := allL b p ⟨s.M, s.C, lA, s.H, lT, s.Q, s.E, s.V⟩ ⟨(Ar.addD R.A k z (f' : Nat)).2, R.H, R.N, (Th.addD R.T id).2, R.Q, R.E⟩ ((X) ++ G)) (by unfold allL; exact keep_ac []) (by exact zRes) ?_
        refine ⟨rfl, ⟨s.M, s.C, lA, s.H, lT, s.Q, s.E, s.V⟩, X, ?_, rfl⟩
        exact ⟨hR.mem, hR.co, hA, hAn, hR.ho, hR.inv.mono (by omega), fun j hj => by have := hR.giv j hj; simp only; omega, hT, hR.qu, fun j hj => Nat.le_trans (hR.ql j hj) (by omega), hR.en, hR.cu, hR.c1⟩
      by_cases h8 : k = 8
      · have hH0 : (if 0 < Ar.slotsD k z then ((addN R.H.1 id (Ar.slotsD k z)).2, R.H.2) else R.H) = R.H := if_neg hs
        have hT0 : (if k = 9 then (Th.addD R.T id).2 else R.T) = R.T := if_neg (by omega)
        have hE0 : (if k = 8 then (En.addD R.E id).2 else R.E) = (En.addD R.E id).2 := if_pos (by omega)
        rw [hH0, hT0, hE0]
        refine gzU ?_
        refine s_keep (l' := rlC b p :: As.asA p.n R.N :: (s.M ++ (s.C ++ (lA ++ (s.H ++ (s.T ++ (s.Q ++ (s.E ++ (s.V ++ (X ++ G)))))))))) (keep_ac []) ?_
        refine gzU ?_
        refine s_keep (l' := s.E ++ (rlC b p :: As.asA p.n R.N :: (s.M ++ (s.C ++ (lA ++ (s.H ++ (s.T ++ (s.Q ++ (s.V ++ (X ++ G)))))))))) (keep_ac []) ?_
        refine t_e (e_call0 rfl rfl (En.add_any p.e R.E s.E id hR.en _)) rfl rfl rfl ?_
        rintro _ _ ⟨rfl, lE, hE, rfl⟩
        refine gzU ?_
        refine k_ret [] rfl (l' := allL b p ⟨s.M, s.C, lA, s.H, s.T, s.Q, lE, s.V⟩ ⟨(Ar.addD R.A k z (f' : Nat)).2, R.H, R.N, R.T, R.Q, (En.addD R.E id).2⟩ ((X) ++ G)) (by unfold allL; exact keep_ac []) (by exact zRes) ?_
        refine ⟨rfl, ⟨s.M, s.C, lA, s.H, s.T, s.Q, lE, s.V⟩, X, ?_, rfl⟩
        exact ⟨hR.mem, hR.co, hA, hAn, hR.ho, hR.inv.mono (by omega), fun j hj => by have := hR.giv j hj; simp only; omega, hR.th, hR.qu, fun j hj => Nat.le_trans (hR.ql j hj) (by omega), hE, hR.cu, hR.c1⟩
      have hH0 : (if 0 < Ar.slotsD k z then ((addN R.H.1 id (Ar.slotsD k z)).2, R.H.2) else R.H) = R.H := if_neg hs
      have hT0 : (if k = 9 then (Th.addD R.T id).2 else R.T) = R.T := if_neg (by omega)
      have hE0 : (if k = 8 then (En.addD R.E id).2 else R.E) = R.E := if_neg (by omega)
      rw [hH0, hT0, hE0]
      refine gzU ?_
      refine gzU ?_
      refine k_ret [] rfl (l' := allL b p ⟨s.M, s.C, lA, s.H, s.T, s.Q, s.E, s.V⟩ ⟨(Ar.addD R.A k z (f' : Nat)).2, R.H, R.N, R.T, R.Q, R.E⟩ ((X) ++ G)) (by unfold allL; exact keep_ac []) (by exact zRes) ?_
      refine ⟨rfl, ⟨s.M, s.C, lA, s.H, s.T, s.Q, s.E, s.V⟩, X, ?_, rfl⟩
      exact ⟨hR.mem, hR.co, hA, hAn, hR.ho, hR.inv.mono (by omega), fun j hj => by have := hR.giv j hj; simp only; omega, hR.th, hR.qu, fun j hj => Nat.le_trans (hR.ql j hj) (by omega), hR.en, hR.cu, hR.c1⟩
  · rw [if_neg he] at hmk
    rw [hmk]
    refine gzU ?_
    exact k_ret [] rfl (l' := allL b p ⟨s.M, s.C, lA, s.H, s.T, s.Q, s.E, s.V⟩ { R with A := (Ar.addD R.A k z f).2 } ([] ++ G)) (by unfold allL; exact keep_ac []) (by exact zRes) ⟨rfl, _, _, (⟨hR.mem, hR.co, hA, hAn, hR.ho, hR.inv, hR.giv, hR.th, hR.qu, hR.ql, hR.en, hR.cu, hR.c1⟩ : IsRl F C n { R with A := (Ar.addD R.A k z f).2 } p ⟨s.M, s.C, lA, s.H, s.T, s.Q, s.E, s.V⟩).mono (by omega), rfl⟩
end Go.Proofs.YtcjknmpogkofpaaGreat

/- boot: the things that are laid out; the closure that lays one. -/
-- GU
set_option linter.unusedVariables false
set_option linter.unusedSimpArgs false
namespace Go.Proofs.YtcjknmpogkofpaaGreat
open Go.RowKit
set_option maxRecDepth 20000
set_option pp.deepTerms false
set_option pp.deepTerms.threshold 4

/-- kinds and sizes laid one behind the other -/
def layT : Int → List (Int × Int) → List (Int × Int × Int)
  | _, [] => []
  | f, x :: r => (x.1, x.2, f) :: layT (f + Ar.framesD x.1 x.2) r
def layN : Int → List (Int × Int) → Int
  | f, [] => f
  | f, x :: r => layN (f + Ar.framesD x.1 x.2) r
theorem layN_app (a b : List (Int × Int)) : ∀ f, layN f (a ++ b) = layN (layN f a) b := by
  induction a with
  | nil => intro f; rfl
  | cons x r ih => intro f; exact ih _
theorem layT_len : ∀ (L : List (Int × Int)) (f : Int), (layT f L).length = L.length
  | [], _ => rfl
  | x :: r, f => by show (layT _ r).length + 1 = r.length + 1; rw [layT_len r]
theorem layT_get : ∀ (L : List (Int × Int)) (f : Int) (m : Nat), (layT f L)[m]? = L[m]?.map fun x => (x.1, x.2, layN f (L.take m))
  | [], _, m => by simp [layT]
  | x :: r, f, 0 => rfl
  | x :: r, f, m + 1 => by
    show (layT (f + Ar.framesD x.1 x.2) r)[m]? = _
    rw [layT_get r]; rfl
theorem layN_take {L : List (Int × Int)} {m : Nat} {x : Int × Int} (h : L[m]? = some x) (f : Int) : layN f (L.take (m + 1)) = layN f (L.take m) + Ar.framesD x.1 x.2 := by
  rw [List.take_add_one, h, layN_app]; rfl
theorem layT_take {L : List (Int × Int)} {m : Nat} {x : Int × Int} (h : L[m]? = some x) (f : Int) : (layT f L).take (m + 1) = (layT f L).take m ++ [(x.1, x.2, layN f (L.take m))] := by
  rw [List.take_add_one, layT_get, h]; rfl
abbrev thV1 (x : Int × Int × Int) : Value := .agg (List.toArray [.int .i64 x.1, .int .i64 x.2.1, .int .i64 x.2.2])
abbrev fiC (B : Nat) (f : Int) : Chunk := (B, .cells (List.toArray [.int .i64 f]) 3 (0, 0))
abbrev yiC (B r : Nat) : Chunk := (B, .cells (List.toArray [.func (.yield r) #[] #[]]) 181 (0, 0))
set_option maxHeartbeats 1000000 in
theorem lay1_any (r : Nat) (k z f : Int) (hf : 0 ≤ f ∧ f ≤ 1000000) (B3 B2 : Nat) (l G : List Chunk) (J1 J2 : List Chunk → Prop) (hy : ∀ G2, (∀ c, c ∈ G → c ∈ G2) → YieldS Tryz.prog r [thV1 (k, z, f)] (l ++ G2) (fun v l' => ∃ l1, l' = l1 ++ G2 ∧ ((v = .bool true ∧ J1 l1) ∨ (v = .bool false ∧ J2 l1)))) :
    Fn Tryz.prog 73 [.int .i64 k, .int .i64 z, pV B3, pV B2] (fiC B3 f :: yiC B2 r :: (l ++ G)) fun v l' => ∃ l1 X bb, l' = fiC B3 (f + Ar.framesD k z) :: yiC B2 r :: (l1 ++ (X ++ G)) ∧ v = .bool bb ∧ ((bb = true ∧ J1 l1) ∨ (bb = false ∧ J2 l1)) := by
  have hfr := Ar.frames_rng k z
  refine fn_of_body Tryz.func73 rfl rfl fun E => ?_
  simp only [argF, Tryz.ntmps73]
  refine gzU ?_
  refine t_e e_alloc rfl rfl rfl ?_; rintro _ _ ⟨b7, _, rfl, rfl⟩
  refine gzU ?_
  refine c_draw [(0, true), (1, true), (2, true), (3, true), (4, true), (5, false)] [[], [], [], [1, 2], [0, 1, 2, 3], [0, 1, 2, 3, 4]] ([]) (by kernel_rfl) (by kernel_rfl) zAtt zHR ?_
  refine pzU ?_
  apply pl_s (S := [fiC B3 f]); (· exact zLd); (· exact sing_mem (.tail _ (.head _))); (· rfl); (· rfl); (· rfl)
  refine pzU ?_
  apply pl_q
  · exact q_call rfl rfl (fun l hl => Ar.frames_any k z l)
  · rfl
  · rfl
  · rfl
  refine pzU ?_
  apply pl_nS
  · exact e_storeL rfl rfl rfl (by exact zMem) .zero (by exact zUpd)
  (· rfl); (· rfl); (· intro _ _ _ c hc; cases hc); (· exact fun _ _ _ x hx ha => anc_all (by kernel_rfl) hx ha)
  rintro _ _ ⟨rfl, rfl⟩
  refine pzU ?_
  refine gzU ?_
  refine s_keep (l' := l ++ ((b7, .cells (List.toArray [.int .i64 k, .int .i64 z, .int .i64 f]) 88 (0, 0)) :: fiC B3 (f + Ar.framesD k z) :: yiC B2 r :: G)) (Keep.of_perm (List.perm_append_comm_assoc [_, _, _] l G)) ?_
  refine t_e (e_yield rfl rfl (hy _ fun c hc => .tail _ (.tail _ (.tail _ hc)))) rfl rfl rfl ?_
  rintro v _ ⟨l1, rfl, hJ⟩
  obtain ⟨bb, rfl, hK⟩ : ∃ bb, v = .bool bb ∧ ((bb = true ∧ J1 l1) ∨ (bb = false ∧ J2 l1)) := by
    rcases hJ with ⟨rfl, h⟩ | ⟨rfl, h⟩
    · exact ⟨true, rfl, .inl ⟨rfl, h⟩⟩
    · exact ⟨false, rfl, .inr ⟨rfl, h⟩⟩
  refine gzU ?_
  refine k_ret [] rfl (l' := fiC B3 (f + Ar.framesD k z) :: yiC B2 r :: (l1 ++ ([(b7, .cells (List.toArray [.int .i64 k, .int .i64 z, .int .i64 f]) 88 (0, 0))] ++ G))) (keep_ac []) (by exact zRes) ?_
  exact ⟨l1, _, bb, rfl, rfl, hK⟩
/-- the kinds and sizes of all things but the untypeds -/
def kzs (T : Nat) (sh : Bool) : List (Int × Int) := (List.replicate T [(9, 0), (2, 4), (5, 0), (6, 0)]).flatten ++ (if sh then [(8, 0)] else [])
def unt (F T : Nat) (sh : Bool) : Int := ((F : Int) - layN 0 (kzs T sh)) / T
def kzF (F T : Nat) (sh : Bool) : List (Int × Int) := kzs T sh ++ List.replicate T (1, unt F T sh)
def thingsL (F T : Nat) (sh : Bool) : List (Int × Int × Int) := layT 0 (kzF F T sh)
def fstN (F T : Nat) (sh : Bool) (m : Nat) : Int := layN 0 ((kzF F T sh).take m)
abbrev cfC (B F C T : Nat) (sh : Bool) : Chunk := (B, .cells (List.toArray [.int .i64 F, .int .i64 C, .int .i64 T, .bool sh]) 23 (0, 0))
theorem layN_rng : ∀ (L : List (Int × Int)) (f : Int), 0 ≤ f → 0 ≤ layN f L ∧ layN f L ≤ f + 64 * L.length
  | [], f, h => by show 0 ≤ f ∧ f ≤ f + 64 * 0; omega
  | x :: r, f, h => by
    have h1 := Ar.frames_rng x.1 x.2
    have h2 := layN_rng r (f + Ar.framesD x.1 x.2) (by omega)
    show 0 ≤ layN _ r ∧ layN _ r ≤ f + 64 * ((r.length + 1 : Nat) : Int)
    omega
theorem flat4 : ∀ (T i j : Nat), i < T → j < 4 → ((List.replicate T [((9 : Int), (0 : Int)), (2, 4), (5, 0), (6, 0)]).flatten)[4 * i + j]? = [((9 : Int), (0 : Int)), (2, 4), (5, 0), (6, 0)][j]?
  | 0, i, j, h, _ => by omega
  | T + 1, 0, j, _, hj => by
    rw [List.replicate_succ, List.flatten_cons, Nat.mul_zero, Nat.zero_add, List.getElem?_append_left (by simpa using hj)]
  | T + 1, i + 1, j, h, hj => by
    rw [List.replicate_succ, List.flatten_cons, show 4 * (i + 1) + j = (4 * i + j) + 4 by omega, List.getElem?_append_right (by simp)]
    exact flat4 T i j (by omega) hj
theorem flat4_len (T : Nat) : ((List.replicate T [((9 : Int), (0 : Int)), (2, 4), (5, 0), (6, 0)]).flatten).length = 4 * T := by
  induction T with
  | zero => rfl
  | succ T ih => rw [List.replicate_succ, List.flatten_cons, List.length_append, ih]; simp; omega
theorem kzs_len (T : Nat) (sh : Bool) : (kzs T sh).length = 4 * T + sh.toNat := by
  unfold kzs; rw [List.length_append, flat4_len]; cases sh <;> rfl
theorem kzF_len (F T : Nat) (sh : Bool) : (kzF F T sh).length = 5 * T + sh.toNat := by
  unfold kzF; rw [List.length_append, kzs_len, List.length_replicate]; omega
theorem kz_four {F T : Nat} {sh : Bool} {i j : Nat} (hi : i < T) (hj : j < 4) : (kzF F T sh)[4 * i + j]? = [((9 : Int), (0 : Int)), (2, 4), (5, 0), (6, 0)][j]? := by
  unfold kzF
  rw [List.getElem?_append_left (by rw [kzs_len]; omega)]
  unfold kzs
  rw [List.getElem?_append_left (by rw [flat4_len]; omega)]
  exact flat4 T i j hi hj
theorem kz_end {F T : Nat} : (kzF F T true)[4 * T]? = some (8, 0) := by
  unfold kzF
  rw [List.getElem?_append_left (by rw [kzs_len]; simp)]
  unfold kzs
  rw [List.getElem?_append_right (by rw [flat4_len]; omega), flat4_len, Nat.sub_self]; rfl
theorem kz_unt {F T : Nat} {sh : Bool} {i : Nat} (hi : i < T) : (kzF F T sh)[4 * T + sh.toNat + i]? = some (1, unt F T sh) := by
  unfold kzF
  rw [List.getElem?_append_right (by rw [kzs_len]; omega), kzs_len, Nat.add_sub_cancel_left, List.getElem?_replicate, if_pos hi]
theorem kz_take (F T : Nat) (sh : Bool) : (kzF F T sh).take (4 * T + sh.toNat) = kzs T sh := by
  unfold kzF
  rw [← kzs_len, List.take_left]
end Go.Proofs.YtcjknmpogkofpaaGreat

/- boot.things. -/
-- GU
set_option linter.unusedVariables false
set_option linter.unusedSimpArgs false
namespace Go.Proofs.YtcjknmpogkofpaaGreat
open Go.RowKit
set_option maxRecDepth 20000
set_option pp.deepTerms false
set_option pp.deepTerms.threshold 4

theorem keep_in {L1 G G' : List Chunk} (h : Keep G G') : Keep (L1 ++ G) (L1 ++ G') := by
  obtain ⟨X, hX⟩ := h
  exact ⟨X, (hX.append_left L1).trans (List.perm_append_comm_assoc L1 X G')⟩
theorem lay_m {F T : Nat} {sh : Bool} (hT : T ≤ 3) {m : Nat} {k z : Int} (hm : (kzF F T sh)[m]? = some (k, z)) {r : Nat} {I Ix : List (Int × Int × Int) → List Chunk → Prop} {G0 : List Chunk}
    (hY : ∀ pre x l G, (∀ c, c ∈ G0 → c ∈ G) → I pre l → pre ++ [x] <+: thingsL F T sh → YieldS Tryz.prog r [thV1 x] (l ++ G) (fun v l' => ∃ l1, l' = l1 ++ G ∧ ((v = .bool true ∧ I (pre ++ [x]) l1) ∨ (v = .bool false ∧ Ix (pre ++ [x]) l1))))
    {l G : List Chunk} (hG : ∀ c, c ∈ G0 → c ∈ G) (hI : I ((thingsL F T sh).take m) l) (B3 B2 : Nat) :
    Fn Tryz.prog 73 [.int .i64 k, .int .i64 z, pV B3, pV B2] (fiC B3 (fstN F T sh m) :: yiC B2 r :: (l ++ G)) fun v l' => ∃ l1 X bb, l' = fiC B3 (fstN F T sh (m + 1)) :: yiC B2 r :: (l1 ++ (X ++ G)) ∧ v = .bool bb ∧ ((bb = true ∧ I ((thingsL F T sh).take (m + 1)) l1) ∨ (bb = false ∧ Ix ((thingsL F T sh).take (m + 1)) l1)) := by
  have e1 : (thingsL F T sh).take (m + 1) = (thingsL F T sh).take m ++ [(k, z, fstN F T sh m)] := layT_take hm 0
  have e2 : fstN F T sh (m + 1) = fstN F T sh m + Ar.framesD k z := layN_take hm 0
  rw [e1, e2]
  have hb : 0 ≤ fstN F T sh m ∧ fstN F T sh m ≤ 1000000 := by
    have h1 := layN_rng ((kzF F T sh).take m) 0 (Int.le_refl 0)
    have h2 : ((kzF F T sh).take m).length ≤ 16 := by
      rw [List.length_take, kzF_len]
      have : sh.toNat ≤ 1 := by cases sh <;> decide
      omega
    unfold fstN; omega
  exact lay1_any r k z _ hb B3 B2 l G _ _ fun G2 hG2 => hY _ (k, z, fstN F T sh m) l G2 (fun c hc => hG2 c (hG c hc)) hI (by rw [← e1]; exact List.take_prefix _ _)
theorem things_any (F C T : Nat) (sh : Bool) (l : List Chunk) : Fn Tryz.prog 25 [.agg (List.toArray [.int .i64 F, .int .i64 C, .int .i64 T, .bool sh])] l fun v l' => ∃ B1, v = .func (.func 72) #[] #[pV B1] ∧ l' = cfC B1 F C T sh :: l := by
  refine fn_of_body Tryz.func25 rfl rfl fun E => ?_
  simp only [argF, Tryz.ntmps25]
  refine gzU ?_
  refine t_e (e_boxA rfl) rfl rfl rfl ?_
  rintro _ _ ⟨B1, _, rfl, rfl⟩
  refine gzU ?_
  exact k_ret [] rfl .refl (by exact zRes) ⟨B1, rfl, rfl⟩
set_option maxHeartbeats 4000000 in
theorem things_iter (B1 F C T : Nat) (sh : Bool) (hT1 : 1 ≤ T) (hT : T ≤ 3) (hF : 11 * T ≤ F) (hF2 : F ≤ 64) : IterM Tryz.prog 72 [pV B1] (fun x => [thV1 x]) (fun xs => xs = thingsL F T sh) (fun pre => pre <+: thingsL F T sh) (fun _ _ => True) [cfC B1 F C T sh] := by
  refine ⟨fun r I Ix G0 hneed hY l G hG h0 => ?_⟩
  refine fn_of_body Tryz.func72 rfl rfl fun E => ?_
  simp only [argF, Tryz.ntmps72]
  refine gzU ?_
  refine t_e (e_box1 rfl rfl) rfl rfl rfl ?_
  rintro _ _ ⟨B2, _, rfl, rfl⟩
  refine gzU ?_
  refine t_e e_alloc rfl rfl rfl ?_; rintro _ _ ⟨B3, _, rfl, rfl⟩
  have hmc : cfC B1 F C T sh ∈ l ++ ([cfC B1 F C T sh] ++ G) := List.mem_append_right _ (.head _)
  refine gzU ?_
  refine k_loop (α := Nat × List Chunk × List Chunk) (fun x => [(1, pV B1), (3, pV B3), (4, .func (.func 73) #[] #[pV B3, pV B2]), (8, .int .i64 T), (9, .int .i64 x.1)]) (fun x => fiC B3 (fstN F T sh (4 * x.1)) :: yiC B2 r :: (x.2.1 ++ (x.2.2 ++ (cfC B1 F C T sh :: G)))) (fun x => x.1 ≤ T ∧ I ((thingsL F T sh).take (4 * x.1)) x.2.1) (fun x => T - x.1) (0, l, []) ⟨Nat.zero_le _, h0⟩ ⟨rfl, rfl, rfl, rfl, rfl, trivial⟩ .refl ?_
  rintro ⟨i, l0, X0⟩ ⟨hi, hI0⟩
  simp only at hi hI0 ⊢
  have hmc : cfC B1 F C T sh ∈ l0 ++ (X0 ++ (cfC B1 F C T sh :: G)) := List.mem_append_right _ (List.mem_append_right _ (.head _))
  by_cases hlt : i < T
  · refine gzU ?_
    refine t_e (e_call rfl rfl (lay_m (F := F) (sh := sh) hT (m := 4 * i + 0) (kz_four hlt (by decide)) hY (G := X0 ++ (cfC B1 F C T sh :: G)) (fun c hc => List.mem_append_right _ ((.tail _ (hG c hc)))) hI0 B3 B2)) rfl rfl rfl ?_
    rintro _ _ ⟨l1, X1, bb, rfl, rfl, hbb⟩
    rcases hbb.symm with ⟨rfl, hx⟩ | ⟨rfl, hI1⟩
    · refine gzU ?_
      exact k_ret [] rfl (l' := l1 ++ G) (.drop (.drop (keep_in (Keep.dropL X1 (Keep.dropL X0 ((.drop .refl))))))) (by exact zRes) ⟨l1, rfl, .inr ⟨_, List.take_prefix _ _, hx⟩⟩
    refine gzU ?_
    refine t_eh (e_call rfl rfl (lay_m (F := F) (sh := sh) hT (m := 4 * i + 1) (kz_four hlt (by decide)) hY (G := X1 ++ (X0 ++ (cfC B1 F C T sh :: G))) (fun c hc => List.mem_append_right _ (List.mem_append_right _ ((.tail _ (hG c hc))))) hI1 B3 B2)) rfl rfl rfl ?_
    rintro _ _ ⟨l2, X2, bb, rfl, rfl, hbb⟩
    rcases hbb.symm with ⟨rfl, hx⟩ | ⟨rfl, hI2⟩
    · refine gzU ?_
      exact k_ret [] rfl (l' := l2 ++ G) (.drop (.drop (keep_in (Keep.dropL X2 (Keep.dropL X1 (Keep.dropL X0 ((.drop .refl)))))))) (by exact zRes) ⟨l2, rfl, .inr ⟨_, List.take_prefix _ _, hx⟩⟩
    refine gzU ?_
    refine t_eh (e_call rfl rfl (lay_m (F := F) (sh := sh) hT (m := 4 * i + 2) (kz_four hlt (by decide)) hY (G := X2 ++ (X1 ++ (X0 ++ (cfC B1 F C T sh :: G)))) (fun c hc => List.mem_append_right _ (List.mem_append_right _ (List.mem_append_right _ ((.tail _ (hG c hc)))))) hI2 B3 B2)) rfl rfl rfl ?_
    rintro _ _ ⟨l3, X3, bb, rfl, rfl, hbb⟩
    rcases hbb.symm with ⟨rfl, hx⟩ | ⟨rfl, hI3⟩
    · refine gzU ?_
      exact k_ret [] rfl (l' := l3 ++ G) (.drop (.drop (keep_in (Keep.dropL X3 (Keep.dropL X2 (Keep.dropL X1 (Keep.dropL X0 ((.drop .refl))))))))) (by exact zRes) ⟨l3, rfl, .inr ⟨_, List.take_prefix _ _, hx⟩⟩
    refine gzU ?_
    refine t_eh (e_call rfl rfl (lay_m (F := F) (sh := sh) hT (m := 4 * i + 3) (kz_four hlt (by decide)) hY (G := X3 ++ (X2 ++ (X1 ++ (X0 ++ (cfC B1 F C T sh :: G))))) (fun c hc => List.mem_append_right _ (List.mem_append_right _ (List.mem_append_right _ (List.mem_append_right _ ((.tail _ (hG c hc))))))) hI3 B3 B2)) rfl rfl rfl ?_
    rintro _ _ ⟨l4, X4, bb, rfl, rfl, hbb⟩
    rcases hbb.symm with ⟨rfl, hx⟩ | ⟨rfl, hI4⟩
    · refine gzU ?_
      exact k_ret [] rfl (l' := l4 ++ G) (.drop (.drop (keep_in (Keep.dropL X4 (Keep.dropL X3 (Keep.dropL X2 (Keep.dropL X1 (Keep.dropL X0 ((.drop .refl)))))))))) (by exact zRes) ⟨l4, rfl, .inr ⟨_, List.take_prefix _ _, hx⟩⟩
    refine gzU ?_
    exact k_next (i + 1, l4, X4 ++ (X3 ++ (X2 ++ (X1 ++ X0)))) ⟨by simp only; omega, hI4⟩ (by simp only; omega) ⟨rfl, rfl, rfl, rfl, rfl, trivial⟩ (by simp only [List.append_assoc]; exact .refl)
  · obtain rfl : i = T := by omega
    have hv : layN 0 (kzs i sh) = 7 * i + sh.toNat := by
      have h3 : i = 1 ∨ i = 2 ∨ i = 3 := by omega
      rcases h3 with rfl | rfl | rfl <;> cases sh <;> rfl
    cases sh with
    | true =>
      have hv : layN 0 (kzs i true) = 7 * i + 1 := hv
      refine gzU ?_
      refine t_eh (e_call rfl rfl (lay_m (F := F) (sh := true) hT (m := 4 * i) kz_end hY (G := X0 ++ (cfC B1 F C i true :: G)) (fun c hc => List.mem_append_right _ ((.tail _ (hG c hc)))) hI0 B3 B2)) rfl rfl rfl ?_
      rintro _ _ ⟨l1, X1, bb, rfl, rfl, hbb⟩
      rcases hbb.symm with ⟨rfl, hx⟩ | ⟨rfl, hI1⟩
      · refine gzU ?_
        exact k_ret [] rfl (l' := l1 ++ G) (.drop (.drop (keep_in (Keep.dropL X1 (Keep.dropL X0 ((.drop .refl))))))) (by exact zRes) ⟨l1, rfl, .inr ⟨_, List.take_prefix _ _, hx⟩⟩
      refine gzU ?_
      have hfe : fstN F i true (4 * i + 1) = layN 0 (kzs i true) := by rw [← kz_take F i true]; rfl
      have hu : ((F : Int) - fstN F i true (4 * i + 1)) / i = unt F i true := by rw [hfe]; rfl
      have hmd : cfC B1 F C i true ∈ l1 ++ (X1 ++ (X0 ++ (cfC B1 F C i true :: G))) := List.mem_append_right _ (List.mem_append_right _ (List.mem_append_right _ (.head _)))
      refine gzU ?_
      rw [hu]
      refine gzU ?_
      refine k_loop (α := Nat × List Chunk × List Chunk) (fun x => [(4, .func (.func 73) #[] #[pV B3, pV B2]), (5, .int .i64 (unt F i true)), (45, .int .i64 i), (46, .int .i64 x.1)]) (fun x => fiC B3 (fstN F i true ((4 * i + 1) + x.1)) :: yiC B2 r :: (x.2.1 ++ (x.2.2 ++ (cfC B1 F C i true :: G)))) (fun x => x.1 ≤ i ∧ I ((thingsL F i true).take ((4 * i + 1) + x.1)) x.2.1) (fun x => i - x.1) (0, l1, X1 ++ X0) ⟨Nat.zero_le _, hI1⟩ ⟨rfl, rfl, rfl, rfl, trivial⟩ (by simp only [List.append_assoc]; exact .refl) ?_
      rintro ⟨j, l7, X7⟩ ⟨hj, hI7⟩
      simp only at hj hI7 ⊢
      by_cases hlt2 : j < i
      · refine gzU ?_
        refine t_e (e_call rfl rfl (lay_m (F := F) (sh := true) hT (m := (4 * i + 1) + j) (kz_unt (sh := true) hlt2) hY (G := X7 ++ (cfC B1 F C i true :: G)) (fun c hc => List.mem_append_right _ (.tail _ (hG c hc))) hI7 B3 B2)) rfl rfl rfl ?_
        rintro _ _ ⟨l8, X8, bb, rfl, rfl, hbb⟩
        rcases hbb.symm with ⟨rfl, hx⟩ | ⟨rfl, hI8⟩
        · refine gzU ?_
          exact k_ret [] rfl (l' := l8 ++ G) (.drop (.drop (keep_in (Keep.dropL X8 (Keep.dropL X7 ((.drop .refl))))))) (by exact zRes) ⟨l8, rfl, .inr ⟨_, List.take_prefix _ _, hx⟩⟩
        refine gzU ?_
        exact k_next (j + 1, l8, X8 ++ X7) ⟨by simp only; omega, hI8⟩ (by simp only; omega) ⟨rfl, rfl, rfl, rfl, trivial⟩ (by simp only [List.append_assoc]; exact .refl)
      · obtain rfl : j = i := by omega
        have hall : (thingsL F j true).take ((4 * j + 1) + j) = thingsL F j true := List.take_of_length_le (by unfold thingsL; rw [layT_len, kzF_len]; simp only [Bool.toNat_true, Bool.toNat_false]; omega)
        rw [hall] at hI7
        refine gzU ?_
        exact k_ret [] rfl (l' := l7 ++ G) (.drop (.drop (keep_in (Keep.dropL X7 (.drop .refl))))) (by exact zRes) ⟨l7, rfl, .inl ⟨_, rfl, hI7⟩⟩
    | false =>
      have hv : layN 0 (kzs i false) = 7 * i := by simpa using hv
      have hfe : fstN F i false (4 * i) = layN 0 (kzs i false) := by rw [← kz_take F i false]; rfl
      have hu : ((F : Int) - fstN F i false (4 * i)) / i = unt F i false := by rw [hfe]; rfl
      have hmd : cfC B1 F C i false ∈ l0 ++ (X0 ++ (cfC B1 F C i false :: G)) := List.mem_append_right _ (List.mem_append_right _ (.head _))
      refine gzU ?_
      rw [hu]
      refine gzU ?_
      refine k_loop (α := Nat × List Chunk × List Chunk) (fun x => [(4, .func (.func 73) #[] #[pV B3, pV B2]), (5, .int .i64 (unt F i false)), (45, .int .i64 i), (46, .int .i64 x.1)]) (fun x => fiC B3 (fstN F i false ((4 * i) + x.1)) :: yiC B2 r :: (x.2.1 ++ (x.2.2 ++ (cfC B1 F C i false :: G)))) (fun x => x.1 ≤ i ∧ I ((thingsL F i false).take ((4 * i) + x.1)) x.2.1) (fun x => i - x.1) (0, l0, X0) ⟨Nat.zero_le _, hI0⟩ ⟨rfl, rfl, rfl, rfl, trivial⟩ (by simp only [List.append_assoc]; exact .refl) ?_
      rintro ⟨j, l7, X7⟩ ⟨hj, hI7⟩
      simp only at hj hI7 ⊢
      by_cases hlt2 : j < i
      · refine gzU ?_
        refine t_e (e_call rfl rfl (lay_m (F := F) (sh := false) hT (m := (4 * i) + j) (kz_unt (sh := false) hlt2) hY (G := X7 ++ (cfC B1 F C i false :: G)) (fun c hc => List.mem_append_right _ (.tail _ (hG c hc))) hI7 B3 B2)) rfl rfl rfl ?_
        rintro _ _ ⟨l8, X8, bb, rfl, rfl, hbb⟩
        rcases hbb.symm with ⟨rfl, hx⟩ | ⟨rfl, hI8⟩
        · refine gzU ?_
          exact k_ret [] rfl (l' := l8 ++ G) (.drop (.drop (keep_in (Keep.dropL X8 (Keep.dropL X7 ((.drop .refl))))))) (by exact zRes) ⟨l8, rfl, .inr ⟨_, List.take_prefix _ _, hx⟩⟩
        refine gzU ?_
        exact k_next (j + 1, l8, X8 ++ X7) ⟨by simp only; omega, hI8⟩ (by simp only; omega) ⟨rfl, rfl, rfl, rfl, trivial⟩ (by simp only [List.append_assoc]; exact .refl)
      · obtain rfl : j = i := by omega
        have hall : (thingsL F j false).take ((4 * j) + j) = thingsL F j false := List.take_of_length_le (by unfold thingsL; rw [layT_len, kzF_len]; simp only [Bool.toNat_true, Bool.toNat_false]; omega)
        rw [hall] at hI7
        refine gzU ?_
        exact k_ret [] rfl (l' := l7 ++ G) (.drop (.drop (keep_in (Keep.dropL X7 (.drop .refl))))) (by exact zRes) ⟨l7, rfl, .inl ⟨_, rfl, hI7⟩⟩
end Go.Proofs.YtcjknmpogkofpaaGreat

/- boot.lay. -/
-- GU
set_option linter.unusedVariables false
set_option linter.unusedSimpArgs false
namespace Go.Proofs.YtcjknmpogkofpaaGreat
open Go.RowKit
set_option maxRecDepth 20000
set_option pp.deepTerms false
set_option pp.deepTerms.threshold 4

/-- a thread's first objects -/
structure OwT where
  th : Int
  nd : Int
  rt : Int
  pl : Int
  un : Int
abbrev owL (o : OwT) : List Value := [.int .i64 o.th, .int .i64 o.nd, .int .i64 o.rt, .int .i64 o.pl, .int .i64 o.un]
abbrev owC (B : Nat) (o : OwT) : Chunk := (B, .cells (List.toArray (owL o)) 92 (0, 0))
abbrev capX (k o b : Int) : CapT := ⟨k, o, 0, 0, 0, b, 0, 0⟩
theorem capX_w (k o b : Int) : CapW (capX k o b) := ⟨Int.le_refl 0, by show (0 : Int) ≤ 9223372036854775807; decide⟩
def layH (H : HS) (o : OwT) (first : Bool) : HS :=
  let H1 := (rootH H (o.nd, 1) (capX 2 o.nd 8)).2
  let H2 := (rootH H1 (o.nd, 2) (capX 9 o.th 0)).2
  let H3 := (rootH H2 (o.nd, 3) (capX 1 o.un 0)).2
  let H4 := (rootH H3 (o.nd, 4) (capX 5 o.rt 0)).2
  let H5 := if first then (rootH H4 (o.nd, 5) (capX 7 0 0)).2 else H4
  let H6 := (rootH H5 (o.nd, 6) (capX 6 o.pl 0)).2
  let H7 := (derH H6 (o.nd, 1) (o.th, 0) (copyC (atD H6.1 (o.nd, 1)) 7)).2
  (derH H7 (o.nd, 4) (o.th, 1) (copyC (atD H7.1 (o.nd, 4)) 7)).2
def layR (R : RT) (o : OwT) (first : Bool) : RT := { R with H := layH R.H o first, N := (As.assignP (As.addP R.N o.pl).2.2 o.pl o.rt).2.2.2 }
theorem bat_any (o : OwT) (B : Nat) (i : Int) (l : List Chunk) (hm : owC B o ∈ l) : Fn Tryz.prog 82 [.int .i64 i, pV B] l fun v l' => v = .agg (List.toArray (encT (o.nd, i))) ∧ l' = l := by
  refine fn_of_body Tryz.func82 rfl rfl fun E => ?_
  simp only [argF, Tryz.ntmps82]
  refine gzU ?_
  refine t_e e_alloc rfl rfl rfl ?_; rintro _ _ ⟨b3, _, rfl, rfl⟩
  refine gzU ?_
  exact k_ret2 [] ((b3, .cells (List.toArray (encT (o.nd, i))) 109 (0, 0)) :: l) rfl (l' := l) (by exact zKeep) (by exact zRes) (by exact zKeep) ⟨rfl, rfl⟩
theorem giv_add (s : As.ASt) (o : Int) (n : Nat) : (As.addP s o).2.2.given n = s.given n := by
  unfold As.addP
  repeat' split
  all_goals rfl
theorem giv_asg {s : As.ASt} {k : Nat} (h : ∀ n, n < 32 → 0 ≤ s.given n ∧ s.given n ≤ k) (o r : Int) : ∀ n, n < 32 → 0 ≤ (As.assignP s o r).2.2.2.given n ∧ (As.assignP s o r).2.2.2.given n ≤ (k + 1 : Nat) := by
  intro n hn
  have h0 := h n hn
  unfold As.assignP
  repeat' split
  all_goals first
    | (simp only; omega)
    | (simp only [As.ASt.give]
       unfold As.upd
       split <;> first | omega | (rename_i e; rw [← e]; omega))
set_option maxHeartbeats 4000000 in
theorem blay_any (F C n : Nat) (R : RT) (b : Nat) (p : RP) (s : RL) (hR : IsRl F C n R p s) (hn : n ≤ 900) (o : OwT) (first : Bool) (G : List Chunk) : Fn Tryz.prog 27 [pV b, .agg (List.toArray (owL o)), .bool first] (allL b p s R G) fun v l' =>
    v = .tuple #[] ∧ ∃ s' X, IsRl F C (n + 8) (layR R o first) p s' ∧ l' = allL b p s' (layR R o first) (X ++ G) := by
  refine fn_of_body Tryz.func27 rfl rfl fun E => ?_
  simp only [argF, Tryz.ntmps27]
  unfold allL
  refine gzU ?_
  refine t_e (e_boxA rfl) rfl rfl rfl ?_
  rintro _ _ ⟨b4, _, rfl, rfl⟩
  refine gzU ?_
  have hsubR : ∀ (lq : List Chunk) (c : Chunk), c ∈ [rlC b p, owC b4 o] → c ∈ lq ++ (owC b4 o :: rlC b p :: As.asA p.n R.N :: (s.M ++ (s.C ++ (s.A ++ (s.T ++ (s.Q ++ (s.E ++ (s.V ++ G)))))))) := fun lq c hc => by
    rcases List.mem_cons.1 hc with rfl | hc
    · exact List.mem_append_right _ (.tail _ (.head _))
    · rw [List.mem_singleton.1 hc]; exact List.mem_append_right _ (.head _)
  cases first with
  | true =>
    refine c_keep (l' := s.H ++ (owC b4 o :: rlC b p :: As.asA p.n R.N :: (s.M ++ (s.C ++ (s.A ++ (s.T ++ (s.Q ++ (s.E ++ (s.V ++ G))))))))) (by dsimp only [owC, owL]; exact keep_ac []) ?_
    refine c_draw [(0, true), (1, true), (2, true), (3, true), (4, true), (5, true), (6, true), (7, false)] [[], [0], [], [0, 1, 2], [], [4], [4, 5], [0, 1, 2, 3, 4, 5, 6]] ([rlC b p, owC b4 o]) (by kernel_rfl) (by kernel_rfl) zAtt (hsubR _) ?_
    refine pzU ?_
    apply pl_q
    · exact q_call rfl rfl (fun l hl => rhold_any b p l (hl _ (.head _)))
    · rfl
    · rfl
    · rfl
    refine pzU ?_
    apply pl_q
    · exact q_callC rfl rfl (fun l hl => bat_any o b4 1 l (hl _ (.tail _ (.head _))))
    · rfl
    · rfl
    · rfl
    refine pzU ?_
    apply pl_e
    · exact e_call0 rfl rfl (hroot_any p.h R.H (n) (hR.inv) s.H hR.ho (o.nd, 1) (capX 2 o.nd 8) _)
    · rfl
    · rfl
    · rfl
    · rintro _ _ ⟨_, _, _, rfl⟩; exact hsubR _
    rintro _ _ ⟨rfl, lH1, hq1, rfl⟩
    refine pzU ?_
    refine gzU ?_
    obtain ⟨H1, hH1⟩ : ∃ x, x = (rootH R.H (o.nd, 1) (capX 2 o.nd 8)).2 := ⟨_, rfl⟩
    have hI1 : InvH H1 (n + 1) := by rw [hH1]; exact InvH.root (hR.inv) _ _ (capX_w _ _ _)
    rw [← hH1] at hq1
    refine c_draw [(0, true), (1, true), (2, true), (3, true), (4, true), (5, true), (6, true), (7, false)] [[], [0], [], [0, 1, 2], [], [4], [4, 5], [0, 1, 2, 3, 4, 5, 6]] ([rlC b p, owC b4 o]) (by kernel_rfl) (by kernel_rfl) zAtt (hsubR _) ?_
    refine pzU ?_
    apply pl_q
    · exact q_call rfl rfl (fun l hl => rhold_any b p l (hl _ (.head _)))
    · rfl
    · rfl
    · rfl
    refine pzU ?_
    apply pl_q
    · exact q_callC rfl rfl (fun l hl => bat_any o b4 2 l (hl _ (.tail _ (.head _))))
    · rfl
    · rfl
    · rfl
    refine pzU ?_
    apply pl_e
    · exact e_call0 rfl rfl (hroot_any p.h H1 (n + 1) (hI1) lH1 hq1 (o.nd, 2) (capX 9 o.th 0) _)
    · rfl
    · rfl
    · rfl
    · rintro _ _ ⟨_, _, _, rfl⟩; exact hsubR _
    rintro _ _ ⟨rfl, lH2, hq2, rfl⟩
    refine pzU ?_
    refine gzU ?_
    obtain ⟨H2, hH2⟩ : ∃ x, x = (rootH H1 (o.nd, 2) (capX 9 o.th 0)).2 := ⟨_, rfl⟩
    have hI2 : InvH H2 (n + 1 + 1) := by rw [hH2]; exact InvH.root (hI1) _ _ (capX_w _ _ _)
    rw [← hH2] at hq2
    refine c_draw [(0, true), (1, true), (2, true), (3, true), (4, true), (5, true), (6, true), (7, false)] [[], [0], [], [0, 1, 2], [], [4], [4, 5], [0, 1, 2, 3, 4, 5, 6]] ([rlC b p, owC b4 o]) (by kernel_rfl) (by kernel_rfl) zAtt (hsubR _) ?_
    refine pzU ?_
    apply pl_q
    · exact q_call rfl rfl (fun l hl => rhold_any b p l (hl _ (.head _)))
    · rfl
    · rfl
    · rfl
    refine pzU ?_
    apply pl_q
    · exact q_callC rfl rfl (fun l hl => bat_any o b4 3 l (hl _ (.tail _ (.head _))))
    · rfl
    · rfl
    · rfl
    refine pzU ?_
    apply pl_e
    · exact e_call0 rfl rfl (hroot_any p.h H2 (n + 1 + 1) (hI2) lH2 hq2 (o.nd, 3) (capX 1 o.un 0) _)
    · rfl
    · rfl
    · rfl
    · rintro _ _ ⟨_, _, _, rfl⟩; exact hsubR _
    rintro _ _ ⟨rfl, lH3, hq3, rfl⟩
    refine pzU ?_
    refine gzU ?_
    obtain ⟨H3, hH3⟩ : ∃ x, x = (rootH H2 (o.nd, 3) (capX 1 o.un 0)).2 := ⟨_, rfl⟩
    have hI3 : InvH H3 (n + 1 + 1 + 1) := by rw [hH3]; exact InvH.root (hI2) _ _ (capX_w _ _ _)
    rw [← hH3] at hq3
    refine c_draw [(0, true), (1, true), (2, true), (3, true), (4, true), (5, true), (6, true), (7, false)] [[], [0], [], [0, 1, 2], [], [4], [4, 5], [0, 1, 2, 3, 4, 5, 6]] ([rlC b p, owC b4 o]) (by kernel_rfl) (by kernel_rfl) zAtt (hsubR _) ?_
    refine pzU ?_
    apply pl_q
    · exact q_call rfl rfl (fun l hl => rhold_any b p l (hl _ (.head _)))
    · rfl
    · rfl
    · rfl
    refine pzU ?_
    apply pl_q
    · exact q_callC rfl rfl (fun l hl => bat_any o b4 4 l (hl _ (.tail _ (.head _))))
    · rfl
    · rfl
    · rfl
    refine pzU ?_
    apply pl_e
    · exact e_call0 rfl rfl (hroot_any p.h H3 (n + 1 + 1 + 1) (hI3) lH3 hq3 (o.nd, 4) (capX 5 o.rt 0) _)
    · rfl
    · rfl
    · rfl
    · rintro _ _ ⟨_, _, _, rfl⟩; exact hsubR _
    rintro _ _ ⟨rfl, lH4, hq4, rfl⟩
    refine pzU ?_
    refine gzU ?_
    obtain ⟨H4, hH4⟩ : ∃ x, x = (rootH H3 (o.nd, 4) (capX 5 o.rt 0)).2 := ⟨_, rfl⟩
    have hI4 : InvH H4 (n + 1 + 1 + 1 + 1) := by rw [hH4]; exact InvH.root (hI3) _ _ (capX_w _ _ _)
    rw [← hH4] at hq4
    refine t_q (q_call rfl rfl (fun l hl => rhold_any b p l (hl _ (hsubR _ _ (.head _))))) rfl rfl rfl ?_
    refine gzU ?_
    refine t_q (q_callC rfl rfl (fun l hl => bat_any o b4 5 l (hl _ (hsubR _ _ (.tail _ (.head _)))))) rfl rfl rfl ?_
    refine gzU ?_
    refine t_e (e_call0 rfl rfl (hroot_any p.h H4 (n + 1 + 1 + 1 + 1) (hI4) lH4 hq4 (o.nd, 5) (capX 7 0 0) _)) rfl rfl rfl ?_
    rintro _ _ ⟨rfl, lH5, hq5, rfl⟩
    obtain ⟨H5, hH5⟩ : ∃ x, x = (rootH H4 (o.nd, 5) (capX 7 0 0)).2 := ⟨_, rfl⟩
    have hI5 : InvH H5 (n + 1 + 1 + 1 + 1 + 1) := by rw [hH5]; exact InvH.root (hI4) _ _ (capX_w _ _ _)
    rw [← hH5] at hq5
    refine gzU ?_
    refine c_draw [(0, true), (1, true), (2, true), (3, true), (4, true), (5, true), (6, true), (7, false)] [[], [0], [], [0, 1, 2], [], [4], [4, 5], [0, 1, 2, 3, 4, 5, 6]] ([rlC b p, owC b4 o]) (by kernel_rfl) (by kernel_rfl) zAtt (hsubR _) ?_
    refine pzU ?_
    apply pl_q
    · exact q_call rfl rfl (fun l hl => rhold_any b p l (hl _ (.head _)))
    · rfl
    · rfl
    · rfl
    refine pzU ?_
    apply pl_q
    · exact q_callC rfl rfl (fun l hl => bat_any o b4 6 l (hl _ (.tail _ (.head _))))
    · rfl
    · rfl
    · rfl
    refine pzU ?_
    apply pl_e
    · exact e_call0 rfl rfl (hroot_any p.h H5 (n + 1 + 1 + 1 + 1 + 1) (hI5) lH5 hq5 (o.nd, 6) (capX 6 o.pl 0) _)
    · rfl
    · rfl
    · rfl
    · rintro _ _ ⟨_, _, _, rfl⟩; exact hsubR _
    rintro _ _ ⟨rfl, lH6, hq6, rfl⟩
    refine pzU ?_
    refine gzU ?_
    obtain ⟨H6, hH6⟩ : ∃ x, x = (rootH H5 (o.nd, 6) (capX 6 o.pl 0)).2 := ⟨_, rfl⟩
    have hI6 : InvH H6 (n + 1 + 1 + 1 + 1 + 1 + 1) := by rw [hH6]; exact InvH.root (hI5) _ _ (capX_w _ _ _)
    rw [← hH6] at hq6
    refine c_draw [(0, true), (1, true), (2, true), (3, true), (4, true), (5, true), (6, true), (7, false)] [[], [0], [], [0, 1, 2], [], [4], [4, 5], [0, 1, 2, 3, 4, 5, 6]] ([rlC b p, owC b4 o]) (by kernel_rfl) (by kernel_rfl) zAtt (hsubR _) ?_
    refine pzU ?_
    apply pl_q
    · exact q_call rfl rfl (fun l hl => rhold_any b p l (hl _ (.head _)))
    · rfl
    · rfl
    · rfl
    refine pzU ?_
    apply pl_q
    · exact q_callC rfl rfl (fun l hl => bat_any o b4 1 l (hl _ (.tail _ (.head _))))
    · rfl
    · rfl
    · rfl
    refine pzU ?_
    apply pl_e
    · exact e_call0 rfl rfl (hcopy_any p.h H6 (n + 1 + 1 + 1 + 1 + 1 + 1) (hI6) (by omega) lH6 hq6 (o.nd, 1) (o.th, 0) 7 _)
    · rfl
    · rfl
    · rfl
    · rintro _ _ ⟨_, _, _, rfl⟩; exact hsubR _
    rintro _ _ ⟨rfl, lH7, hq7, rfl⟩
    refine pzU ?_
    refine gzU ?_
    obtain ⟨H7, hH7⟩ : ∃ x, x = (derH H6 (o.nd, 1) (o.th, 0) (copyC (atD H6.1 (o.nd, 1)) 7)).2 := ⟨_, rfl⟩
    have hI7 : InvH H7 (n + 1 + 1 + 1 + 1 + 1 + 1 + 1) := by rw [hH7]; exact InvH.der (hI6) _ _ _ (copy_w (hI6.at _).2 _)
    rw [← hH7] at hq7
    refine c_draw [(0, true), (1, true), (2, true), (3, true), (4, true), (5, true), (6, true), (7, false)] [[], [0], [], [0, 1, 2], [], [4], [4, 5], [0, 1, 2, 3, 4, 5, 6]] ([rlC b p, owC b4 o]) (by kernel_rfl) (by kernel_rfl) zAtt (hsubR _) ?_
    refine pzU ?_
    apply pl_q
    · exact q_call rfl rfl (fun l hl => rhold_any b p l (hl _ (.head _)))
    · rfl
    · rfl
    · rfl
    refine pzU ?_
    apply pl_q
    · exact q_callC rfl rfl (fun l hl => bat_any o b4 4 l (hl _ (.tail _ (.head _))))
    · rfl
    · rfl
    · rfl
    refine pzU ?_
    apply pl_e
    · exact e_call0 rfl rfl (hcopy_any p.h H7 (n + 1 + 1 + 1 + 1 + 1 + 1 + 1) (hI7) (by omega) lH7 hq7 (o.nd, 4) (o.th, 1) 7 _)
    · rfl
    · rfl
    · rfl
    · rintro _ _ ⟨_, _, _, rfl⟩; exact hsubR _
    rintro _ _ ⟨rfl, lH8, hq8, rfl⟩
    refine pzU ?_
    refine gzU ?_
    obtain ⟨H8, hH8⟩ : ∃ x, x = (derH H7 (o.nd, 4) (o.th, 1) (copyC (atD H7.1 (o.nd, 4)) 7)).2 := ⟨_, rfl⟩
    have hI8 : InvH H8 (n + 1 + 1 + 1 + 1 + 1 + 1 + 1 + 1) := by rw [hH8]; exact InvH.der (hI7) _ _ _ (copy_w (hI7.at _).2 _)
    rw [← hH8] at hq8
    have hsubA : ∀ (N : As.ASt) (c : Chunk), c ∈ [rlC b p, owC b4 o] → c ∈ As.asA p.n N :: (lH8 ++ (owC b4 o :: rlC b p :: (s.M ++ (s.C ++ (s.A ++ (s.T ++ (s.Q ++ (s.E ++ (s.V ++ G))))))))) := fun N c hc => by
      rcases List.mem_cons.1 hc with rfl | hc
      · exact .tail _ (List.mem_append_right _ (.tail _ (.head _)))
      · rw [List.mem_singleton.1 hc]; exact .tail _ (List.mem_append_right _ (.head _))
    refine c_keep (l' := As.asA p.n R.N :: (lH8 ++ (owC b4 o :: rlC b p :: (s.M ++ (s.C ++ (s.A ++ (s.T ++ (s.Q ++ (s.E ++ (s.V ++ G)))))))))) (keep_ac []) ?_
    refine c_draw [(0, true), (1, true), (2, true), (3, true), (4, false)] [[], [0], [], [2], [0, 1, 2, 3]] ([rlC b p, owC b4 o]) (by kernel_rfl) (by kernel_rfl) zAtt (hsubA _) ?_
    refine pzU ?_
    apply pl_q
    · exact q_call rfl rfl (fun l hl => rasids_any b p l (hl _ (.head _)))
    · rfl
    · rfl
    · rfl
    refine pzU ?_
    apply pl_e
    · exact e_call0 rfl rfl (As.addPool_any p.n R.N o.pl _)
    · rfl
    · rfl
    · rfl
    · rintro _ _ ⟨_, rfl⟩; exact hsubA _
    rintro _ _ ⟨rfl, rfl⟩
    refine pzU ?_
    refine gzU ?_
    refine c_draw [(0, true), (1, true), (2, true), (3, true), (4, true), (5, true), (6, false)] [[], [0], [], [2], [], [4], [0, 1, 2, 3, 4, 5]] ([rlC b p, owC b4 o]) (by kernel_rfl) (by kernel_rfl) zAtt (hsubA _) ?_
    refine pzU ?_
    apply pl_q
    · exact q_call rfl rfl (fun l hl => rasids_any b p l (hl _ (.head _)))
    · rfl
    · rfl
    · rfl
    refine pzU ?_
    apply pl_e
    · exact e_call0 rfl rfl (As.assign_any p.n (As.addP R.N o.pl).2.2 o.pl o.rt _ (fun n hn => by rw [giv_add]; have := hR.giv n hn; omega))
    · rfl
    · rfl
    · rfl
    · rintro _ _ ⟨_, rfl⟩; exact hsubA _
    rintro _ _ ⟨rfl, rfl⟩
    refine pzU ?_
    refine gzU ?_
    refine k_ret [] rfl (l' := allL b p ⟨s.M, s.C, s.A, lH8, s.T, s.Q, s.E, s.V⟩ (layR R o true) ([owC b4 o] ++ G)) (by unfold allL; dsimp only [layR]; exact keep_ac []) (by exact zRes) ⟨rfl, ⟨s.M, s.C, s.A, lH8, s.T, s.Q, s.E, s.V⟩, [owC b4 o], ?_, rfl⟩
    have hL : layH R.H o true = H8 := by
      simp only [layH, if_true]
      rw [← hH1, ← hH2, ← hH3, ← hH4, ← hH5, ← hH6, ← hH7, ← hH8]
    unfold layR
    rw [hL]
    clear hH1 hH2 hH3 hH4 hH5 hH6 hH7 hH8
    exact ⟨hR.mem, hR.co, hR.ar, hR.an, hq8, hI8.mono (by omega), fun i hi => by have := giv_asg (s := (As.addP R.N o.pl).2.2) (k := n) (fun n hn => by rw [giv_add]; exact hR.giv n hn) o.pl o.rt i hi; simp only; omega, hR.th, hR.qu, fun j hj => Nat.le_trans (hR.ql j hj) (by omega), hR.en, hR.cu, hR.c1⟩
  | false =>
    refine c_keep (l' := s.H ++ (owC b4 o :: rlC b p :: As.asA p.n R.N :: (s.M ++ (s.C ++ (s.A ++ (s.T ++ (s.Q ++ (s.E ++ (s.V ++ G))))))))) (by dsimp only [owC, owL]; exact keep_ac []) ?_
    refine c_draw [(0, true), (1, true), (2, true), (3, true), (4, true), (5, true), (6, true), (7, false)] [[], [0], [], [0, 1, 2], [], [4], [4, 5], [0, 1, 2, 3, 4, 5, 6]] ([rlC b p, owC b4 o]) (by kernel_rfl) (by kernel_rfl) zAtt (hsubR _) ?_
    refine pzU ?_
    apply pl_q
    · exact q_call rfl rfl (fun l hl => rhold_any b p l (hl _ (.head _)))
    · rfl
    · rfl
    · rfl
    refine pzU ?_
    apply pl_q
    · exact q_callC rfl rfl (fun l hl => bat_any o b4 1 l (hl _ (.tail _ (.head _))))
    · rfl
    · rfl
    · rfl
    refine pzU ?_
    apply pl_e
    · exact e_call0 rfl rfl (hroot_any p.h R.H (n) (hR.inv) s.H hR.ho (o.nd, 1) (capX 2 o.nd 8) _)
    · rfl
    · rfl
    · rfl
    · rintro _ _ ⟨_, _, _, rfl⟩; exact hsubR _
    rintro _ _ ⟨rfl, lH1, hq1, rfl⟩
    refine pzU ?_
    refine gzU ?_
    obtain ⟨H1, hH1⟩ : ∃ x, x = (rootH R.H (o.nd, 1) (capX 2 o.nd 8)).2 := ⟨_, rfl⟩
    have hI1 : InvH H1 (n + 1) := by rw [hH1]; exact InvH.root (hR.inv) _ _ (capX_w _ _ _)
    rw [← hH1] at hq1
    refine c_draw [(0, true), (1, true), (2, true), (3, true), (4, true), (5, true), (6, true), (7, false)] [[], [0], [], [0, 1, 2], [], [4], [4, 5], [0, 1, 2, 3, 4, 5, 6]] ([rlC b p, owC b4 o]) (by kernel_rfl) (by kernel_rfl) zAtt (hsubR _) ?_
    refine pzU ?_
    apply pl_q
    · exact q_call rfl rfl (fun l hl => rhold_any b p l (hl _ (.head _)))
    · rfl
    · rfl
    · rfl
    refine pzU ?_
    apply pl_q
    · exact q_callC rfl rfl (fun l hl => bat_any o b4 2 l (hl _ (.tail _ (.head _))))
    · rfl
    · rfl
    · rfl
    refine pzU ?_
    apply pl_e
    · exact e_call0 rfl rfl (hroot_any p.h H1 (n + 1) (hI1) lH1 hq1 (o.nd, 2) (capX 9 o.th 0) _)
    · rfl
    · rfl
    · rfl
    · rintro _ _ ⟨_, _, _, rfl⟩; exact hsubR _
    rintro _ _ ⟨rfl, lH2, hq2, rfl⟩
    refine pzU ?_
    refine gzU ?_
    obtain ⟨H2, hH2⟩ : ∃ x, x = (rootH H1 (o.nd, 2) (capX 9 o.th 0)).2 := ⟨_, rfl⟩
    have hI2 : InvH H2 (n + 1 + 1) := by rw [hH2]; exact InvH.root (hI1) _ _ (capX_w _ _ _)
    rw [← hH2] at hq2
    refine c_draw [(0, true), (1, true), (2, true), (3, true), (4, true), (5, true), (6, true), (7, false)] [[], [0], [], [0, 1, 2], [], [4], [4, 5], [0, 1, 2, 3, 4, 5, 6]] ([rlC b p, owC b4 o]) (by kernel_rfl) (by kernel_rfl) zAtt (hsubR _) ?_
    refine pzU ?_
    apply pl_q
    · exact q_call rfl rfl (fun l hl => rhold_any b p l (hl _ (.head _)))
    · rfl
    · rfl
    · rfl
    refine pzU ?_
    apply pl_q
    · exact q_callC rfl rfl (fun l hl => bat_any o b4 3 l (hl _ (.tail _ (.head _))))
    · rfl
    · rfl
    · rfl
    refine pzU ?_
    apply pl_e
    · exact e_call0 rfl rfl (hroot_any p.h H2 (n + 1 + 1) (hI2) lH2 hq2 (o.nd, 3) (capX 1 o.un 0) _)
    · rfl
    · rfl
    · rfl
    · rintro _ _ ⟨_, _, _, rfl⟩; exact hsubR _
    rintro _ _ ⟨rfl, lH3, hq3, rfl⟩
    refine pzU ?_
    refine gzU ?_
    obtain ⟨H3, hH3⟩ : ∃ x, x = (rootH H2 (o.nd, 3) (capX 1 o.un 0)).2 := ⟨_, rfl⟩
    have hI3 : InvH H3 (n + 1 + 1 + 1) := by rw [hH3]; exact InvH.root (hI2) _ _ (capX_w _ _ _)
    rw [← hH3] at hq3
    refine c_draw [(0, true), (1, true), (2, true), (3, true), (4, true), (5, true), (6, true), (7, false)] [[], [0], [], [0, 1, 2], [], [4], [4, 5], [0, 1, 2, 3, 4, 5, 6]] ([rlC b p, owC b4 o]) (by kernel_rfl) (by kernel_rfl) zAtt (hsubR _) ?_
    refine pzU ?_
    apply pl_q
    · exact q_call rfl rfl (fun l hl => rhold_any b p l (hl _ (.head _)))
    · rfl
    · rfl
    · rfl
    refine pzU ?_
    apply pl_q
    · exact q_callC rfl rfl (fun l hl => bat_any o b4 4 l (hl _ (.tail _ (.head _))))
    · rfl
    · rfl
    · rfl
    refine pzU ?_
    apply pl_e
    · exact e_call0 rfl rfl (hroot_any p.h H3 (n + 1 + 1 + 1) (hI3) lH3 hq3 (o.nd, 4) (capX 5 o.rt 0) _)
    · rfl
    · rfl
    · rfl
    · rintro _ _ ⟨_, _, _, rfl⟩; exact hsubR _
    rintro _ _ ⟨rfl, lH4, hq4, rfl⟩
    refine pzU ?_
    refine gzU ?_
    obtain ⟨H4, hH4⟩ : ∃ x, x = (rootH H3 (o.nd, 4) (capX 5 o.rt 0)).2 := ⟨_, rfl⟩
    have hI4 : InvH H4 (n + 1 + 1 + 1 + 1) := by rw [hH4]; exact InvH.root (hI3) _ _ (capX_w _ _ _)
    rw [← hH4] at hq4
    refine c_draw [(0, true), (1, true), (2, true), (3, true), (4, true), (5, true), (6, true), (7, false)] [[], [0], [], [0, 1, 2], [], [4], [4, 5], [0, 1, 2, 3, 4, 5, 6]] ([rlC b p, owC b4 o]) (by kernel_rfl) (by kernel_rfl) zAtt (hsubR _) ?_
    refine pzU ?_
    apply pl_q
    · exact q_call rfl rfl (fun l hl => rhold_any b p l (hl _ (.head _)))
    · rfl
    · rfl
    · rfl
    refine pzU ?_
    apply pl_q
    · exact q_callC rfl rfl (fun l hl => bat_any o b4 6 l (hl _ (.tail _ (.head _))))
    · rfl
    · rfl
    · rfl
    refine pzU ?_
    apply pl_e
    · exact e_call0 rfl rfl (hroot_any p.h H4 (n + 1 + 1 + 1 + 1) (hI4) lH4 hq4 (o.nd, 6) (capX 6 o.pl 0) _)
    · rfl
    · rfl
    · rfl
    · rintro _ _ ⟨_, _, _, rfl⟩; exact hsubR _
    rintro _ _ ⟨rfl, lH6, hq6, rfl⟩
    refine pzU ?_
    refine gzU ?_
    obtain ⟨H6, hH6⟩ : ∃ x, x = (rootH H4 (o.nd, 6) (capX 6 o.pl 0)).2 := ⟨_, rfl⟩
    have hI6 : InvH H6 (n + 1 + 1 + 1 + 1 + 1) := by rw [hH6]; exact InvH.root (hI4) _ _ (capX_w _ _ _)
    rw [← hH6] at hq6
    refine c_draw [(0, true), (1, true), (2, true), (3, true), (4, true), (5, true), (6, true), (7, false)] [[], [0], [], [0, 1, 2], [], [4], [4, 5], [0, 1, 2, 3, 4, 5, 6]] ([rlC b p, owC b4 o]) (by kernel_rfl) (by kernel_rfl) zAtt (hsubR _) ?_
    refine pzU ?_
    apply pl_q
    · exact q_call rfl rfl (fun l hl => rhold_any b p l (hl _ (.head _)))
    · rfl
    · rfl
    · rfl
    refine pzU ?_
    apply pl_q
    · exact q_callC rfl rfl (fun l hl => bat_any o b4 1 l (hl _ (.tail _ (.head _))))
    · rfl
    · rfl
    · rfl
    refine pzU ?_
    apply pl_e
    · exact e_call0 rfl rfl (hcopy_any p.h H6 (n + 1 + 1 + 1 + 1 + 1) (hI6) (by omega) lH6 hq6 (o.nd, 1) (o.th, 0) 7 _)
    · rfl
    · rfl
    · rfl
    · rintro _ _ ⟨_, _, _, rfl⟩; exact hsubR _
    rintro _ _ ⟨rfl, lH7, hq7, rfl⟩
    refine pzU ?_
    refine gzU ?_
    obtain ⟨H7, hH7⟩ : ∃ x, x = (derH H6 (o.nd, 1) (o.th, 0) (copyC (atD H6.1 (o.nd, 1)) 7)).2 := ⟨_, rfl⟩
    have hI7 : InvH H7 (n + 1 + 1 + 1 + 1 + 1 + 1) := by rw [hH7]; exact InvH.der (hI6) _ _ _ (copy_w (hI6.at _).2 _)
    rw [← hH7] at hq7
    refine c_draw [(0, true), (1, true), (2, true), (3, true), (4, true), (5, true), (6, true), (7, false)] [[], [0], [], [0, 1, 2], [], [4], [4, 5], [0, 1, 2, 3, 4, 5, 6]] ([rlC b p, owC b4 o]) (by kernel_rfl) (by kernel_rfl) zAtt (hsubR _) ?_
    refine pzU ?_
    apply pl_q
    · exact q_call rfl rfl (fun l hl => rhold_any b p l (hl _ (.head _)))
    · rfl
    · rfl
    · rfl
    refine pzU ?_
    apply pl_q
    · exact q_callC rfl rfl (fun l hl => bat_any o b4 4 l (hl _ (.tail _ (.head _))))
    · rfl
    · rfl
    · rfl
    refine pzU ?_
    apply pl_e
    · exact e_call0 rfl rfl (hcopy_any p.h H7 (n + 1 + 1 + 1 + 1 + 1 + 1) (hI7) (by omega) lH7 hq7 (o.nd, 4) (o.th, 1) 7 _)
    · rfl
    · rfl
    · rfl
    · rintro _ _ ⟨_, _, _, rfl⟩; exact hsubR _
    rintro _ _ ⟨rfl, lH8, hq8, rfl⟩
    refine pzU ?_
    refine gzU ?_
    obtain ⟨H8, hH8⟩ : ∃ x, x = (derH H7 (o.nd, 4) (o.th, 1) (copyC (atD H7.1 (o.nd, 4)) 7)).2 := ⟨_, rfl⟩
    have hI8 : InvH H8 (n + 1 + 1 + 1 + 1 + 1 + 1 + 1) := by rw [hH8]; exact InvH.der (hI7) _ _ _ (copy_w (hI7.at _).2 _)
    rw [← hH8] at hq8
    have hsubA : ∀ (N : As.ASt) (c : Chunk), c ∈ [rlC b p, owC b4 o] → c ∈ As.asA p.n N :: (lH8 ++ (owC b4 o :: rlC b p :: (s.M ++ (s.C ++ (s.A ++ (s.T ++ (s.Q ++ (s.E ++ (s.V ++ G))))))))) := fun N c hc => by
      rcases List.mem_cons.1 hc with rfl | hc
      · exact .tail _ (List.mem_append_right _ (.tail _ (.head _)))
      · rw [List.mem_singleton.1 hc]; exact .tail _ (List.mem_append_right _ (.head _))
    refine c_keep (l' := As.asA p.n R.N :: (lH8 ++ (owC b4 o :: rlC b p :: (s.M ++ (s.C ++ (s.A ++ (s.T ++ (s.Q ++ (s.E ++ (s.V ++ G)))))))))) (keep_ac []) ?_
    refine c_draw [(0, true), (1, true), (2, true), (3, true), (4, false)] [[], [0], [], [2], [0, 1, 2, 3]] ([rlC b p, owC b4 o]) (by kernel_rfl) (by kernel_rfl) zAtt (hsubA _) ?_
    refine pzU ?_
    apply pl_q
    · exact q_call rfl rfl (fun l hl => rasids_any b p l (hl _ (.head _)))
    · rfl
    · rfl
    · rfl
    refine pzU ?_
    apply pl_e
    · exact e_call0 rfl rfl (As.addPool_any p.n R.N o.pl _)
    · rfl
    · rfl
    · rfl
    · rintro _ _ ⟨_, rfl⟩; exact hsubA _
    rintro _ _ ⟨rfl, rfl⟩
    refine pzU ?_
    refine gzU ?_
    refine c_draw [(0, true), (1, true), (2, true), (3, true), (4, true), (5, true), (6, false)] [[], [0], [], [2], [], [4], [0, 1, 2, 3, 4, 5]] ([rlC b p, owC b4 o]) (by kernel_rfl) (by kernel_rfl) zAtt (hsubA _) ?_
    refine pzU ?_
    apply pl_q
    · exact q_call rfl rfl (fun l hl => rasids_any b p l (hl _ (.head _)))
    · rfl
    · rfl
    · rfl
    refine pzU ?_
    apply pl_e
    · exact e_call0 rfl rfl (As.assign_any p.n (As.addP R.N o.pl).2.2 o.pl o.rt _ (fun n hn => by rw [giv_add]; have := hR.giv n hn; omega))
    · rfl
    · rfl
    · rfl
    · rintro _ _ ⟨_, rfl⟩; exact hsubA _
    rintro _ _ ⟨rfl, rfl⟩
    refine pzU ?_
    refine gzU ?_
    refine k_ret [] rfl (l' := allL b p ⟨s.M, s.C, s.A, lH8, s.T, s.Q, s.E, s.V⟩ (layR R o false) ([owC b4 o] ++ G)) (by unfold allL; dsimp only [layR]; exact keep_ac []) (by exact zRes) ⟨rfl, ⟨s.M, s.C, s.A, lH8, s.T, s.Q, s.E, s.V⟩, [owC b4 o], ?_, rfl⟩
    have hL : layH R.H o false = H8 := by
      simp only [layH, Bool.false_eq_true, if_false]
      rw [← hH1, ← hH2, ← hH3, ← hH4, ← hH6, ← hH7, ← hH8]
    unfold layR
    rw [hL]
    clear hH1 hH2 hH3 hH4 hH6 hH7 hH8
    exact ⟨hR.mem, hR.co, hR.ar, hR.an, hq8, hI8.mono (by omega), fun i hi => by have := giv_asg (s := (As.addP R.N o.pl).2.2) (k := n) (fun n hn => by rw [giv_add]; exact hR.giv n hn) o.pl o.rt i hi; simp only; omega, hR.th, hR.qu, fun j hj => Nat.le_trans (hR.ql j hj) (by omega), hR.en, hR.cu, hR.c1⟩
end Go.Proofs.YtcjknmpogkofpaaGreat

/- boot.share. -/
-- GU
set_option linter.unusedVariables false
set_option linter.unusedSimpArgs false
namespace Go.Proofs.YtcjknmpogkofpaaGreat
open Go.RowKit
set_option maxRecDepth 20000
set_option pp.deepTerms false
set_option pp.deepTerms.threshold 4

def owV : List OwT → List Value
  | [] => []
  | o :: os => owL o ++ owV os
theorem owV_ext : ∀ {os : List OwT} {i : Nat} {o : OwT}, os[i]? = some o → i * 5 + 5 ≤ (List.toArray (owV os)).size ∧ (List.toArray (owV os)).extract (i * 5) (i * 5 + 5) = List.toArray (owL o)
  | [], i, o, h => by cases h
  | a :: os, 0, o, h => by
    obtain rfl : a = o := Option.some.inj h
    refine ⟨by show 0 * 5 + 5 ≤ (owL a ++ owV os).length; simp [owL], ?_⟩
    show (List.toArray (owL a ++ owV os)).extract (0 * 5) (0 * 5 + 5) = _
    simp [owL, List.extract_eq_take_drop]
  | a :: os, i + 1, o, h => by
    obtain ⟨h1, h2⟩ := owV_ext (os := os) (i := i) (o := o) h
    simp only [List.size_toArray] at h1
    refine ⟨by show (i + 1) * 5 + 5 ≤ (owL a ++ owV os).length; simp [owL]; omega, ?_⟩
    show (List.toArray (owL a ++ owV os)).extract ((i + 1) * 5) ((i + 1) * 5 + 5) = _
    rw [← h2]
    simp only [List.extract_toArray, List.extract_eq_take_drop]
    have e1 : (i + 1) * 5 = i * 5 + (owL a).length := by show _ = i * 5 + 5; omega
    have e2 : (i + 1) * 5 + 5 - (i + 1) * 5 = i * 5 + 5 - i * 5 := by omega
    rw [e2]
    congr 1
    rw [e1, Nat.add_comm, List.drop_append]
    simp
abbrev ow0 : OwT := ⟨0, 0, 0, 0, 0⟩
abbrev capE (o : Int) : CapT := ⟨8, o, 7, 0, 0, 0, 0, 0⟩
theorem capE_w (o : Int) : CapW (capE o) := ⟨Int.le_refl 0, by show (0 : Int) ≤ 9223372036854775807; decide⟩
def shH (H : HS) (nd : Int) (i : Nat) (o : OwT) : HS :=
  let H1 := (derH H (nd, 7) (o.nd, 7) (mintC (atD H.1 (nd, 7)) 7 (i + 1))).2
  (derH H1 (nd, 7) (o.th, 2) (mintC (atD H1.1 (nd, 7)) 7 (101 + i))).2
def shK (nd : Int) (os : List OwT) (H : HS) : Nat → HS
  | 0 => H
  | k + 1 => if k = 0 then shK nd os H k else shH (shK nd os H k) nd k (os.getD k ow0)
def shareH (H : HS) (os : List OwT) (sh : Int) : HS := shK (os.getD 0 ow0).nd os (rootH H ((os.getD 0 ow0).nd, 7) (capE sh)).2 os.length
theorem InvH.shH {H : HS} {n : Nat} (h : InvH H n) (nd : Int) (i : Nat) (o : OwT) : InvH (shH H nd i o) (n + 2) := by
  have h1 := h.der (nd, 7) (o.nd, 7) (mintC (atD H.1 (nd, 7)) 7 (i + 1)) (mint_w (h.at _).2 _ _)
  exact h1.der (nd, 7) (o.th, 2) _ (mint_w (h1.at _).2 _ _)
theorem InvH.shK {H : HS} {n : Nat} (h : InvH H n) (nd : Int) (os : List OwT) : ∀ k, InvH (shK nd os H k) (n + 2 * k)
  | 0 => h
  | k + 1 => by
    show InvH (if k = 0 then _ else _) _
    split
    · exact (InvH.shK h nd os k).mono (by omega)
    · exact ((InvH.shK h nd os k).shH nd k _).mono (by omega)
abbrev slX (B : Nat) (s : slT) : Chunk := (B, .cells (List.toArray (encT s)) 109 (0, 0))
set_option maxHeartbeats 4000000 in
theorem share_any (F C n : Nat) (R : RT) (b : Nat) (p : RP) (s : RL) (hR : IsRl F C n R p s) (hn : n ≤ 900) (os : List OwT) (h0 : 1 ≤ os.length) (h3 : os.length ≤ 3) (sh : Int) (bs cap : Nat) (T : TypeId) (fz : Nat × Nat) (G : List Chunk) (hm : (bs, Obj.cells (List.toArray (owV os)) T fz) ∈ G) :
    Fn Tryz.prog 28 [pV b, .slice (some ⟨bs, 0, none⟩) os.length cap, .int .i64 sh] (allL b p s R G) fun v l' =>
    v = .tuple #[] ∧ ∃ s' X, IsRl F C (n + 7) { R with H := shareH R.H os sh } p s' ∧ l' = allL b p s' { R with H := shareH R.H os sh } (X ++ G) := by
  obtain ⟨o0, ot, rfl⟩ : ∃ o ot, os = o :: ot := by
    cases os with
    | nil => exact absurd h0 (by decide)
    | cons o ot => exact ⟨o, ot, rfl⟩
  refine fn_of_body Tryz.func28 rfl rfl fun E => ?_
  simp only [argF, Tryz.ntmps28]
  unfold allL
  refine gzU ?_
  have hm1 : (bs, Obj.cells (List.toArray (owV (o0 :: ot))) T fz) ∈ rlC b p :: As.asA p.n R.N :: (s.M ++ (s.C ++ (s.A ++ (s.H ++ (s.T ++ (s.Q ++ (s.E ++ (s.V ++ G)))))))) := .tail _ (.tail _ (List.mem_append_right _ (List.mem_append_right _ (List.mem_append_right _ (List.mem_append_right _ (List.mem_append_right _ (List.mem_append_right _ (List.mem_append_right _ (List.mem_append_right _ hm)))))))))
  refine t_q (q_load (v := .int .i64 o0.nd) rfl hm1 rfl) rfl rfl rfl ?_
  refine gzU ?_
  refine t_e e_alloc rfl rfl rfl ?_; rintro _ _ ⟨b6, _, rfl, rfl⟩
  refine gzU ?_
  have hsub1 : ∀ (lq : List Chunk) (c : Chunk), c ∈ [rlC b p, slX b6 (o0.nd, 7)] → c ∈ lq ++ (slX b6 (o0.nd, 7) :: rlC b p :: As.asA p.n R.N :: (s.M ++ (s.C ++ (s.A ++ (s.T ++ (s.Q ++ (s.E ++ (s.V ++ G)))))))) := fun lq c hc => by
    rcases List.mem_cons.1 hc with rfl | hc
    · exact List.mem_append_right _ (.tail _ (.head _))
    · rw [List.mem_singleton.1 hc]; exact List.mem_append_right _ (.head _)
  refine c_keep (l' := s.H ++ (slX b6 (o0.nd, 7) :: rlC b p :: As.asA p.n R.N :: (s.M ++ (s.C ++ (s.A ++ (s.T ++ (s.Q ++ (s.E ++ (s.V ++ G))))))))) (by dsimp only [slX, encT]; exact keep_ac []) ?_
  refine c_draw [(0, true), (1, true), (2, true), (3, true), (4, true), (5, false)] [[], [0], [], [], [3], [0, 1, 2, 3, 4]] ([rlC b p, slX b6 (o0.nd, 7)]) (by kernel_rfl) (by kernel_rfl) zAtt (hsub1 _) ?_
  refine pzU ?_
  apply pl_q
  · exact q_call rfl rfl (fun l hl => rhold_any b p l (hl _ (.head _)))
  · rfl
  · rfl
  · rfl
  refine pzU ?_
  apply pl_e
  · exact e_call0 rfl rfl (hroot_any p.h R.H n hR.inv s.H hR.ho (o0.nd, 7) (capE sh) _)
  · rfl
  · rfl
  · rfl
  · rintro _ _ ⟨_, _, _, rfl⟩; exact hsub1 _
  rintro _ _ ⟨rfl, lH1, hq1, rfl⟩
  refine pzU ?_
  refine gzU ?_
  obtain ⟨H1, hH1⟩ : ∃ x, x = (rootH R.H (o0.nd, 7) (capE sh)).2 := ⟨_, rfl⟩
  have hI1 : InvH H1 (n + 1) := by rw [hH1]; exact InvH.root hR.inv _ _ (capE_w _)
  rw [← hH1] at hq1
  refine k_loop (α := Nat × List Chunk × List Chunk) (fun x => [(0, pV b), (6, pV b6), (20, .slice (some ⟨bs, 0, none⟩) (o0 :: ot).length cap), (21, .int .i64 ((o0 :: ot).length : Nat)), (22, .int .i64 x.1)]) (fun x => x.2.1 ++ (slX b6 (o0.nd, 7) :: rlC b p :: As.asA p.n R.N :: (s.M ++ (s.C ++ (s.A ++ (s.T ++ (s.Q ++ (s.E ++ (s.V ++ (x.2.2 ++ G))))))))))
    (fun x => x.1 ≤ (o0 :: ot).length ∧ IsH p.h (shK o0.nd (o0 :: ot) H1 x.1) x.2.1) (fun x => (o0 :: ot).length - x.1) (0, lH1, []) ⟨Nat.zero_le _, hq1⟩ ⟨rfl, rfl, rfl, rfl, rfl, trivial⟩ (by simp only [List.nil_append]; exact keep_ac []) ?_
  rintro ⟨k, lH, X⟩ ⟨hk, hq⟩
  simp only at hk hq ⊢
  by_cases hkl : k < (o0 :: ot).length
  · obtain ⟨o, ho⟩ : ∃ o, (o0 :: ot)[k]? = some o := ⟨_, List.getElem?_eq_getElem hkl⟩
    obtain ⟨x1, x2⟩ := owV_ext ho
    have hm2 : (bs, Obj.cells (List.toArray (owV (o0 :: ot))) T fz) ∈ lH ++ (slX b6 (o0.nd, 7) :: rlC b p :: As.asA p.n R.N :: (s.M ++ (s.C ++ (s.A ++ (s.T ++ (s.Q ++ (s.E ++ (s.V ++ (X ++ G))))))))) := List.mem_append_right _ (.tail _ (.tail _ (.tail _ (List.mem_append_right _ (List.mem_append_right _ (List.mem_append_right _ (List.mem_append_right _ (List.mem_append_right _ (List.mem_append_right _ (List.mem_append_right _ (List.mem_append_right _ hm)))))))))))
    refine gzU ?_
    refine t_q (q_loadA rfl hm2 x1 x2) rfl rfl rfl ?_
    refine gzU ?_
    refine t_e e_alloc rfl rfl rfl ?_; rintro _ _ ⟨b8, _, rfl, rfl⟩
    refine gzU ?_
    by_cases hk0 : k = 0
    · subst hk0
      refine gzU ?_
      refine k_next (0 + 1, lH, owC b8 o :: X) ⟨by omega, ?_⟩ (by simp only; omega) ⟨rfl, rfl, rfl, rfl, rfl, trivial⟩ (by dsimp only [owC, owL]; exact keep_ac [])
      exact hq
    refine gzU ?_
    have hI : InvH (shK o0.nd (o0 :: ot) H1 k) (n + 1 + 2 * k) := hI1.shK _ _ _
    have hsub2 : ∀ (lq : List Chunk) (c : Chunk), c ∈ [rlC b p, slX b6 (o0.nd, 7), owC b8 o] → c ∈ lq ++ (owC b8 o :: slX b6 (o0.nd, 7) :: rlC b p :: As.asA p.n R.N :: (s.M ++ (s.C ++ (s.A ++ (s.T ++ (s.Q ++ (s.E ++ (s.V ++ (X ++ G))))))))) := fun lq c hc => by
      rcases List.mem_cons.1 hc with rfl | hc
      · exact List.mem_append_right _ (.tail _ (.tail _ (.head _)))
      · rcases List.mem_cons.1 hc with rfl | hc
        · exact List.mem_append_right _ (.tail _ (.head _))
        · rw [List.mem_singleton.1 hc]; exact List.mem_append_right _ (.head _)
    refine c_keep (l' := lH ++ (owC b8 o :: slX b6 (o0.nd, 7) :: rlC b p :: As.asA p.n R.N :: (s.M ++ (s.C ++ (s.A ++ (s.T ++ (s.Q ++ (s.E ++ (s.V ++ (X ++ G)))))))))) (by dsimp only [owC, owL]; exact keep_ac []) ?_
    refine c_draw [(0, true), (1, true), (2, true), (3, true), (4, true), (5, true), (6, true), (7, true), (8, true), (9, false)] [[], [0], [], [], [3], [3, 4], [], [6], [6, 7], [0, 1, 2, 3, 4, 5, 6, 7, 8]] ([rlC b p, slX b6 (o0.nd, 7), owC b8 o]) (by kernel_rfl) (by kernel_rfl) zAtt (hsub2 _) ?_
    refine pzU ?_
    apply pl_q
    · exact q_call rfl rfl (fun l hl => rhold_any b p l (hl _ (.head _)))
    · rfl
    · rfl
    · rfl
    refine pzU ?_
    apply pl_e
    · exact e_call0 rfl rfl (hmint_any p.h (shK o0.nd (o0 :: ot) H1 k) _ (hI) (by omega) lH hq (o0.nd, 7) (o.nd, 7) 7 (k + 1) (by omega) _)
    · rfl
    · rfl
    · rfl
    · rintro _ _ ⟨_, _, _, rfl⟩; exact hsub2 _
    rintro _ _ ⟨rfl, lM1, hm1', rfl⟩
    refine pzU ?_
    refine gzU ?_
    have hI' := hI.der (o0.nd, 7) (o.nd, 7) (mintC (atD (shK o0.nd (o0 :: ot) H1 k).1 (o0.nd, 7)) 7 (k + 1)) (mint_w (hI.at _).2 _ _)
    refine c_draw [(0, true), (1, true), (2, true), (3, true), (4, true), (5, true), (6, true), (7, true), (8, true), (9, false)] [[], [0], [], [], [3], [3, 4], [], [6], [6, 7], [0, 1, 2, 3, 4, 5, 6, 7, 8]] ([rlC b p, slX b6 (o0.nd, 7), owC b8 o]) (by kernel_rfl) (by kernel_rfl) zAtt (hsub2 _) ?_
    refine pzU ?_
    apply pl_q
    · exact q_call rfl rfl (fun l hl => rhold_any b p l (hl _ (.head _)))
    · rfl
    · rfl
    · rfl
    refine pzU ?_
    apply pl_e
    · exact e_call0 rfl rfl (hmint_any p.h _ _ (hI') (by omega) lM1 hm1' (o0.nd, 7) (o.th, 2) 7 (101 + k) (by omega) _)
    · rfl
    · rfl
    · rfl
    · rintro _ _ ⟨_, _, _, rfl⟩; exact hsub2 _
    rintro _ _ ⟨rfl, lM2, hm2', rfl⟩
    refine pzU ?_
    refine gzU ?_
    refine k_next (k + 1, lM2, owC b8 o :: X) ⟨by omega, ?_⟩ (by simp only; omega) ⟨rfl, rfl, rfl, rfl, rfl, trivial⟩ (keep_ac [])
    have e1 : shK o0.nd (o0 :: ot) H1 (k + 1) = shH (shK o0.nd (o0 :: ot) H1 k) o0.nd k o := by
      show (if k = 0 then _ else _) = _
      rw [if_neg hk0, List.getD, ho, Option.getD_some]
    show IsH p.h (shK o0.nd (o0 :: ot) H1 (k + 1)) lM2
    rw [e1]
    exact hm2'
  · refine gzU ?_
    obtain rfl : k = (o0 :: ot).length := by omega
    have hL : shareH R.H (o0 :: ot) sh = shK o0.nd (o0 :: ot) H1 (o0 :: ot).length := by
      show shK o0.nd (o0 :: ot) (rootH R.H (o0.nd, 7) (capE sh)).2 _ = _
      rw [← hH1]
    have hI : InvH (shK o0.nd (o0 :: ot) H1 (o0 :: ot).length) (n + 1 + 2 * (o0 :: ot).length) := hI1.shK _ _ _
    refine k_ret [] rfl (l' := allL b p ⟨s.M, s.C, s.A, lH, s.T, s.Q, s.E, s.V⟩ { R with H := shareH R.H (o0 :: ot) sh } ((slX b6 (o0.nd, 7) :: X) ++ G)) (by unfold allL; dsimp only; exact keep_ac []) (by exact zRes) ⟨rfl, ⟨s.M, s.C, s.A, lH, s.T, s.Q, s.E, s.V⟩, slX b6 (o0.nd, 7) :: X, ?_, rfl⟩
    rw [hL]
    exact ⟨hR.mem, hR.co, hR.ar, hR.an, hq, hI.mono (by omega), fun i hi => by have := hR.giv i hi; simp only; omega, hR.th, hR.qu, fun j hj => Nat.le_trans (hR.ql j hj) (by omega), hR.en, hR.cu, hR.c1⟩
end Go.Proofs.YtcjknmpogkofpaaGreat

/- realm.State (Ready), kernel.New. -/
-- GU
set_option linter.unusedVariables false
set_option linter.unusedSimpArgs false
namespace Go.Proofs.YtcjknmpogkofpaaGreat
open Go.RowKit
set_option maxRecDepth 20000
set_option pp.deepTerms false
set_option pp.deepTerms.threshold 4

def readyR (R : RT) (id : Int) : RT := match Th.findH R.T id with
  | none => R
  | some t => { R with T := (Th.setD R.T { t with st := 1 }).2, Q := (Qu.addQ R.Q id t.pr).2 }
theorem addQ_len {X : Nat → List Int} {k : Nat} (h : ∀ n, n < 8 → (X n).length ≤ k) (id pr : Int) : ∀ n, n < 8 → ((Qu.addQ X id pr).2 n).length ≤ k + 1 := by
  intro n hn
  have h0 := h n hn
  unfold Qu.addQ
  split
  · exact Nat.le_succ_of_le h0
  split
  · exact Nat.le_succ_of_le h0
  · simp only [Qu.upd]
    split
    · rename_i e
      subst e
      simp only [List.length_append, List.length_cons, List.length_nil]
      omega
    · exact Nat.le_succ_of_le h0
set_option maxHeartbeats 2000000 in
theorem state_any (F C n : Nat) (R : RT) (b : Nat) (p : RP) (s : RL) (hR : IsRl F C n R p s) (hn : n ≤ 900) (id : Int) (G : List Chunk) : Fn Tryz.prog 30 [pV b, .int .i64 id, .int .i64 1] (allL b p s R G) fun v l' =>
    (∃ e, v = .int .i64 e) ∧ ∃ s' X, IsRl F C (n + 1) (readyR R id) p s' ∧ l' = allL b p s' (readyR R id) (X ++ G) := by
  refine fn_of_body Tryz.func30 rfl rfl fun E => ?_
  simp only [argF, Tryz.ntmps30]
  unfold allL
  refine gzU ?_
  refine t_q (q_call rfl rfl (fun l hl => Th.get_any p.t R.T s.T hR.th id l (fun c hc => hl _ (.tail _ (.tail _ (List.mem_append_right _ (List.mem_append_right _ (List.mem_append_right _ (List.mem_append_right _ (List.mem_append_left _ hc)))))))))) rfl rfl rfl ?_
  cases hf : Th.findH R.T id with
  | none =>
    have e : readyR R id = R := by unfold readyR; rw [hf]
    simp only [Option.getD_none, Option.isSome_none]
    refine gzU ?_
    refine t_e e_alloc rfl rfl rfl ?_; rintro _ _ ⟨b7, _, rfl, rfl⟩
    refine gzU ?_
    refine k_ret [] rfl (l' := allL b p s R ([Th.thC b7 Th.thZ] ++ G)) (by unfold allL; dsimp only [Th.thC, Th.encH, Th.thZ]; exact keep_ac []) (by exact zRes) ⟨⟨_, rfl⟩, s, [Th.thC b7 Th.thZ], ?_, by rw [e]; rfl⟩
    rw [e]
    exact hR.mono (by omega)
  | some t =>
    have e : readyR R id = { R with T := (Th.setD R.T { t with st := 1 }).2, Q := (Qu.addQ R.Q id t.pr).2 } := by unfold readyR; rw [hf]
    simp only [Option.getD_some, Option.isSome_some]
    refine gzU ?_
    refine t_e e_alloc rfl rfl rfl ?_; rintro _ _ ⟨b7, _, rfl, rfl⟩
    refine gzU ?_
    have hsub1 : ∀ (lq : List Chunk) (c : Chunk), c ∈ [rlC b p, Th.thC b7 { t with st := 1 }] → c ∈ lq ++ (Th.thC b7 { t with st := 1 } :: rlC b p :: As.asA p.n R.N :: (s.M ++ (s.C ++ (s.A ++ (s.H ++ (s.Q ++ (s.E ++ (s.V ++ G)))))))) := fun lq c hc => by
      rcases List.mem_cons.1 hc with rfl | hc
      · exact List.mem_append_right _ (.tail _ (.head _))
      · rw [List.mem_singleton.1 hc]; exact List.mem_append_right _ (.head _)
    refine c_keep (l' := s.T ++ (Th.thC b7 { t with st := 1 } :: rlC b p :: As.asA p.n R.N :: (s.M ++ (s.C ++ (s.A ++ (s.H ++ (s.Q ++ (s.E ++ (s.V ++ G))))))))) (by dsimp only [Th.thC, Th.encH]; exact keep_ac []) ?_
    refine c_draw [(0, true), (1, true), (2, true), (3, true), (4, true), (5, false)] [[], [0], [0, 1], [0, 1, 2], [], [0, 1, 2, 3, 4]] ([rlC b p, Th.thC b7 { t with st := 1 }]) (by kernel_rfl) (by kernel_rfl) zAtt (hsub1 _) ?_
    refine pzU ?_
    apply pl_e
    · exact e_call0 rfl rfl (Th.set_any p.t R.T s.T hR.th { t with st := 1 } _)
    · rfl
    · rfl
    · rfl
    · rintro _ _ ⟨_, _, _, rfl⟩; exact hsub1 _
    rintro _ _ ⟨rfl, lT, hT, rfl⟩
    refine pzU ?_
    refine gzU ?_
    have hsub2 : ∀ (lq : List Chunk) (c : Chunk), c ∈ [rlC b p, Th.thC b7 { t with st := 1 }] → c ∈ lq ++ (Th.thC b7 { t with st := 1 } :: rlC b p :: As.asA p.n R.N :: (s.M ++ (s.C ++ (s.A ++ (s.H ++ (lT ++ (s.E ++ (s.V ++ G)))))))) := fun lq c hc => by
      rcases List.mem_cons.1 hc with rfl | hc
      · exact List.mem_append_right _ (.tail _ (.head _))
      · rw [List.mem_singleton.1 hc]; exact List.mem_append_right _ (.head _)
    refine c_keep (l' := s.Q ++ (Th.thC b7 { t with st := 1 } :: rlC b p :: As.asA p.n R.N :: (s.M ++ (s.C ++ (s.A ++ (s.H ++ (lT ++ (s.E ++ (s.V ++ G))))))))) (keep_ac []) ?_
    refine c_draw [(0, true), (1, true), (2, true), (3, true), (4, true), (5, true), (6, true), (7, false)] [[], [0], [0, 1], [0, 1, 2], [], [], [5], [0, 1, 2, 3, 4, 5, 6]] ([rlC b p, Th.thC b7 { t with st := 1 }]) (by kernel_rfl) (by kernel_rfl) zAtt (hsub2 _) ?_
    refine pzU ?_
    apply pl_e
    · exact e_call0 rfl rfl (Qu.add_any p.q R.Q s.Q id t.pr hR.qu (fun j hj => by have := hR.ql j hj; omega) _)
    · rfl
    · rfl
    · rfl
    · rintro _ _ ⟨_, _, _, rfl⟩; exact hsub2 _
    rintro _ _ ⟨rfl, lQ, hQ, rfl⟩
    refine pzU ?_
    refine gzU ?_
    rw [e]
    refine k_ret [] rfl (l' := allL b p ⟨s.M, s.C, s.A, s.H, lT, lQ, s.E, s.V⟩ { R with T := (Th.setD R.T { t with st := 1 }).2, Q := (Qu.addQ R.Q id t.pr).2 } ([Th.thC b7 { t with st := 1 }] ++ G)) (by unfold allL; dsimp only; exact keep_ac []) (by exact zRes) ⟨⟨_, rfl⟩, ⟨s.M, s.C, s.A, s.H, lT, lQ, s.E, s.V⟩, [Th.thC b7 { t with st := 1 }], ?_, rfl⟩
    exact ⟨hR.mem, hR.co, hR.ar, hR.an, hR.ho, hR.inv.mono (by omega), fun i hi => by have := hR.giv i hi; simp only; omega, hT, hQ, addQ_len hR.ql id t.pr, hR.en, hR.cu, hR.c1⟩
abbrev knC (B b : Nat) : Chunk := (B, .cells (List.toArray [pV b]) 117 (0, 0))
theorem knew_any (b : Nat) (l : List Chunk) : Fn Tryz.prog 31 [pV b] l fun v l' => ∃ B, v = .tuple #[pV B, .int .i64 0] ∧ l' = knC B b :: l := by
  refine fn_of_body Tryz.func31 rfl rfl fun E => ?_
  simp only [argF, Tryz.ntmps31]
  refine gzU ?_
  refine t_e (e_boxA rfl) rfl rfl rfl ?_
  rintro _ _ ⟨B, _, rfl, rfl⟩
  refine gzU ?_
  exact k_ret [] rfl .refl (by exact zRes) ⟨B, rfl, rfl⟩
end Go.Proofs.YtcjknmpogkofpaaGreat

/- boot.May. -/
-- GU
set_option linter.unusedVariables false
set_option linter.unusedSimpArgs false
namespace Go.Proofs.YtcjknmpogkofpaaGreat
open Go.RowKit
set_option maxRecDepth 20000
set_option pp.deepTerms false
set_option pp.deepTerms.threshold 4

def mayB (F C T : Int) : Bool := decide (1 ≤ T) && decide (T ≤ 3) && decide (1 ≤ C) && decide (C ≤ 3) && decide (11 * T ≤ F) && decide (F ≤ 64)
set_option maxHeartbeats 1000000 in
theorem bmay_any (F C T : Int) (sh : Bool) (l : List Chunk) : Fn Tryz.prog 8 [.agg (List.toArray [.int .i64 F, .int .i64 C, .int .i64 T, .bool sh])] l fun v l' => v = .bool (mayB F C T) ∧ l' = l := by
  refine fn_of_body Tryz.func8 rfl rfl fun E => ?_
  simp only [argF, Tryz.ntmps8]
  refine gzU ?_
  refine t_e (e_boxA rfl) rfl rfl rfl ?_
  rintro _ _ ⟨b1, _, rfl, rfl⟩
  refine gzU ?_
  by_cases h0 : 1 ≤ T
  case neg =>
    refine gzU ?_
    exact k_ret [] rfl (l' := l) (.drop .refl) (by exact zRes) ⟨by simp [mayB, tup, h0], rfl⟩
  by_cases h1 : T ≤ 3
  case neg =>
    refine gzU ?_
    exact k_ret [] rfl (l' := l) (.drop .refl) (by exact zRes) ⟨by simp [mayB, tup, h0, h1], rfl⟩
  by_cases h2 : 1 ≤ C
  case neg =>
    refine gzU ?_
    exact k_ret [] rfl (l' := l) (.drop .refl) (by exact zRes) ⟨by simp [mayB, tup, h0, h1, h2], rfl⟩
  by_cases h3 : C ≤ 3
  case neg =>
    refine gzU ?_
    exact k_ret [] rfl (l' := l) (.drop .refl) (by exact zRes) ⟨by simp [mayB, tup, h0, h1, h2, h3], rfl⟩
  by_cases h4 : 11 * T ≤ F
  case neg =>
    refine gzU ?_
    exact k_ret [] rfl (l' := l) (.drop .refl) (by exact zRes) ⟨by simp [mayB, tup, h0, h1, h2, h3, h4], rfl⟩
  by_cases h5 : F ≤ 64
  case neg =>
    refine gzU ?_
    exact k_ret [] rfl (l' := l) (.drop .refl) (by exact zRes) ⟨by simp [mayB, tup, h0, h1, h2, h3, h4, h5], rfl⟩
  refine gzU ?_
  exact k_ret [] rfl (l' := l) (.drop .refl) (by exact zRes) ⟨by simp [mayB, tup, h0, h1, h2, h3, h4, h5], rfl⟩
end Go.Proofs.YtcjknmpogkofpaaGreat

/- boot.New. -/
-- GU
set_option linter.unusedVariables false
set_option linter.unusedSimpArgs false
namespace Go.Proofs.YtcjknmpogkofpaaGreat
open Go.RowKit
set_option maxRecDepth 20000
set_option pp.deepTerms false
set_option pp.deepTerms.threshold 4

def mkF (S : RT × List Int) (x : Int × Int × Int) : RT × List Int := ((makeR S.1 x.1 x.2.1 x.2.2).2, S.2 ++ [(makeR S.1 x.1 x.2.1 x.2.2).1.1])
def mkL (F : Nat) (xs : List (Int × Int × Int)) : RT × List Int := xs.foldl mkF (newR F, [])
theorem mkL_snoc (F : Nat) (xs : List (Int × Int × Int)) (x : Int × Int × Int) : mkL F (xs ++ [x]) = mkF (mkL F xs) x := by
  unfold mkL; rw [List.foldl_append]; rfl
theorem mkL_len (F : Nat) (xs : List (Int × Int × Int)) : (mkL F xs).2.length = xs.length := by
  have h : ∀ (xs : List (Int × Int × Int)) (S : RT × List Int), (xs.foldl mkF S).2.length = S.2.length + xs.length := by
    intro xs
    induction xs with
    | nil => intro S; rfl
    | cons x r ih => intro S; show (List.foldl mkF (mkF S x) r).2.length = _; rw [ih]; simp [mkF]; omega
  rw [mkL, h]; simp
abbrev ccC (B : Nat) (F C T : Int) (sh : Bool) : Chunk := (B, .cells (List.toArray [.int .i64 F, .int .i64 C, .int .i64 T, .bool sh]) 23 (0, 0))
theorem bnew_no (F C T : Int) (sh : Bool) (h : mayB F C T = false) (l : List Chunk) : Fn Tryz.prog 5 [.agg (List.toArray [.int .i64 F, .int .i64 C, .int .i64 T, .bool sh])] l fun v l' => v = .tuple #[.pointer none, .slice none 0 0, .int .i64 3] ∧ l' = l := by
  refine fn_of_body Tryz.func5 rfl rfl fun E => ?_
  simp only [argF, Tryz.ntmps5]
  refine gzU ?_
  refine t_e (e_boxA rfl) rfl rfl rfl ?_
  rintro _ _ ⟨b1, _, rfl, rfl⟩
  refine gzU ?_
  refine t_q (q_call rfl rfl (fun l hl => bmay_any F C T sh l)) rfl rfl rfl ?_
  rw [h]
  refine gzU ?_
  exact k_ret [] rfl (l' := l) (.drop .refl) (by exact zRes) ⟨rfl, rfl⟩
abbrev pcC (B b : Nat) : Chunk := (B, .cells (List.toArray [pV b]) 37 (0, 0))
abbrev idC (B : Nat) (v : Value) : Chunk := (B, .cells (List.toArray [v]) 25 (0, 0))
def InL (F C b : Nat) (p : RP) (b8 : Nat) (pre : List (Int × Int × Int)) (l : List Chunk) : Prop := ∃ s v cs X, IsRl F C pre.length (mkL F pre).1 p s ∧ OwnSl 3 1 v pre.length ((mkL F pre).2.map intQ) cs ∧ l = allL b p s (mkL F pre).1 (idC b8 v :: (cs ++ X))
def ownI (ids : List Int) (T i : Nat) : OwT := ⟨ids.getD (4 * i) 0, ids.getD (4 * i + 1) 0, ids.getD (4 * i + 2) 0, ids.getD (4 * i + 3) 0, ids.getD (ids.length - T + i) 0⟩
def ownF (ids : List Int) (T i : Nat) : List OwT := (List.range i).map (ownI ids T) ++ List.replicate (T - i) ow0
theorem own_rows (n : Nat) : owV (List.replicate n ow0) = (List.replicate n (owL ow0)).flatten := by
  induction n with
  | zero => rfl
  | succ n ih => rw [List.replicate_succ, List.replicate_succ, List.flatten_cons, ← ih]; rfl
/-- a code's pieces, one behind the other -/
def aft : Nat → Code → Code
  | 0, c => c
  | n + 1, .seq _ c => aft n c
  | _, c => c
def hed : Code → Code
  | .seq c _ => c
  | c => c
theorem p_weak {N : Nat} {E : World} {Q : Exit → Act → World → Prop} {e : Exit} {fr fr' : Fr} {ds : List Deferred} {l l' : List Chunk} (hs : FSub fr' fr) (p : Keep l l') (h : PostS N E Q e fr' ds l') : PostS N E Q e fr ds l := ⟨fun a W hf hds hw => h.run a W (hf.sub hs.spec) hds (p.sat hw)⟩
theorem owV_len : ∀ os : List OwT, (owV os).length = os.length * 5
  | [] => rfl
  | o :: os => by show (owL o ++ owV os).length = _; rw [List.length_append, owV_len os]; simp; omega
theorem owV_app (xs bs : List OwT) : owV (xs ++ bs) = owV xs ++ owV bs := by
  induction xs with
  | nil => rfl
  | cons a r ih => show owL a ++ owV (r ++ bs) = _; rw [ih]; rfl
theorem ownF_len (ids : List Int) (T i : Nat) (h : i ≤ T) : (ownF ids T i).length = T := by simp [ownF]; omega
theorem ownF_set (ids : List Int) (T i : Nat) (h : i < T) : setFrom (List.toArray (owV (ownF ids T i))) (i * 5) (owL (ownI ids T i)) = List.toArray (owV (ownF ids T (i + 1))) := by
  have e1 : ownF ids T i = (List.range i).map (ownI ids T) ++ (ow0 :: List.replicate (T - (i + 1)) ow0) := by
    unfold ownF; rw [show T - i = (T - (i + 1)) + 1 by omega, List.replicate_succ]
  have e2 : ownF ids T (i + 1) = (List.range i).map (ownI ids T) ++ (ownI ids T i :: List.replicate (T - (i + 1)) ow0) := by
    unfold ownF; rw [List.range_succ, List.map_append, List.append_assoc]; rfl
  rw [e1, e2, owV_app, owV_app]
  have := setFrom_mid (owL ow0) (owL (ownI ids T i)) (owV ((List.range i).map (ownI ids T))) (owV (List.replicate (T - (i + 1)) ow0)) rfl
  rw [owV_len, List.length_map, List.length_range] at this
  exact this
end Go.Proofs.YtcjknmpogkofpaaGreat
