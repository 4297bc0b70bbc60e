import Derived.Test.YtaomipfblcndlaaB12
set_option linter.unusedVariables false
set_option linter.unusedSimpArgs false
namespace Go.Proofs.Ytaomipfblcndlaa
open Go.RowKit

theorem firstTo_congr (f g : Nat → Bool) (k : Nat) (h : ∀ n, n < k → f n = g n) : firstTo f k = firstTo g k := by
  cases e : firstTo g k with
  | none => exact (firstTo_none _ _).2 fun n hn => by rw [h n hn]; exact (firstTo_none _ _).1 e n hn
  | some m =>
    obtain ⟨h1, h2, h3⟩ := firstTo_some _ _ _ e
    exact firstTo_hit _ _ _ h1 (by rw [h m h1]; exact h2) ((firstTo_none _ _).2 fun n hn => by rw [h n (by omega)]; exact h3 n hn)

/-- the first pool reads alike in both; the others hold no low root -/
structure Apart (sa sb : ASt) (i : Nat) : Prop where
  oa : sa.obj 0 = 1
  ob : sb.obj 0 = 1
  ga : Good sa i
  gb : Good sb i
  root : ∀ n, n < 4 → sa.root n = sb.root n
  ser : ∀ n, n < 4 → sa.ser n = sb.ser n
  giv : ∀ n, n < 4 → sa.given n = sb.given n
  lo : ∀ n, n < 4 → sa.root n < 100
  ha : ∀ n, n < 32 → 4 ≤ n → sa.root n = 0 ∨ 100 ≤ sa.root n
  hb : ∀ n, n < 32 → 4 ≤ n → sb.root n = 0
theorem Apart.next {sa sb : ASt} {i : Nat} (h : Apart sa sb i) : Apart sa sb (i + 1) := ⟨h.oa, h.ob, h.ga.next, h.gb.next, h.root, h.ser, h.giv, h.lo, h.ha, h.hb⟩
theorem at_one {s : ASt} (h : s.obj 0 = 1) : atO s 1 = some 0 := by
  unfold atO
  rw [if_neg (by omega)]
  exact firstTo_hit _ _ _ (by omega) (by simp [h]) ((firstTo_none _ _).2 fun n hn => by omega)
theorem at_two {s : ASt} (h : s.obj 0 = 1) (p : Nat) (hp : atO s 2 = some p) : p ≠ 0 := by
  unfold atO at hp
  rw [if_neg (by omega)] at hp
  obtain ⟨_, h2, _⟩ := firstTo_some _ _ _ hp
  rintro rfl
  rw [h] at h2
  exact absurd h2 (by decide)
theorem Apart.find {sa sb : ASt} {i : Nat} (h : Apart sa sb i) (r : Int) (h1 : 1 ≤ r) (h2 : r < 100) : findN sa (isRoot r) = findN sb (isRoot r) := by
  refine firstTo_congr _ _ _ fun n hn => ?_
  by_cases h4 : n < 4
  · simp only [ASt.hit, isRoot, h.root n h4]
  · have e1 := h.ha n hn (by omega)
    have e2 := h.hb n hn (by omega)
    have : ¬ sa.root n = r := by omega
    simp [ASt.hit, isRoot, e2, this]
theorem Apart.small {sa sb : ASt} {i : Nat} (h : Apart sa sb i) (r : Int) (h1 : 1 ≤ r) (h2 : r < 100) (n : Nat) (hf : findN sa (isRoot r) = some n) : n < 4 := by
  obtain ⟨a, b, c, d⟩ := findN_lt _ _ _ hf
  have hr : sa.root n = r := of_decide_eq_true d
  by_cases h4 : n < 4
  · exact h4
  · have := h.ha n a (by omega); omega
theorem Apart.large {sa sb : ASt} {i : Nat} (h : Apart sa sb i) (r : Int) (h2 : 100 ≤ r) (n : Nat) (hf : findN sa (isRoot r) = some n) : 4 ≤ n ∧ n < 32 := by
  obtain ⟨a, b, c, d⟩ := findN_lt _ _ _ hf
  have hr : sa.root n = r := of_decide_eq_true d
  by_cases h4 : n < 4
  · have := h.lo n h4; omega
  · omega
theorem Apart.theirAssign {sa sb : ASt} {i : Nat} (h : Apart sa sb i) (r : Int) (h2 : 100 ≤ r) : Apart (assignP sa 2 r).2.2.2 sb (i + 1) := by
  unfold assignP
  cases hq : atO sa 2 with
  | none => exact h.next
  | some p =>
    have hp := atO_lt sa 2 p hq
    have hp0 := at_two h.oa p hq
    simp only
    split
    · exact h.next
    split
    · exact h.next
    cases hn : (nums p).find? (freeO sa p) with
    | none => exact h.next
    | some j =>
      have hj := j.isLt
      have e : ∀ n, n < 4 → n ≠ 4 * p + j.val := fun n hn => by omega
      have g := h.next
      refine ⟨h.oa, h.ob, h.ga.give (by omega) r, g.gb, fun n hn => ?_, fun n hn => ?_, fun n hn => ?_, fun n hn => ?_, fun n hn h4 => ?_, h.hb⟩
      · simp only [ASt.give]; rw [upd_other _ _ _ _ (e n hn)]; exact h.root n hn
      · simp only [ASt.give]; rw [upd_other _ _ _ _ (e n hn)]; exact h.ser n hn
      · simp only [ASt.give]; rw [upd_other _ _ _ _ (e n hn)]; exact h.giv n hn
      · simp only [ASt.give]; rw [upd_other _ _ _ _ (e n hn)]; exact h.lo n hn
      · simp only [ASt.give]
        by_cases en : n = 4 * p + j.val
        · subst en; rw [upd_same]; exact .inr h2
        · rw [upd_other _ _ _ _ en]; exact h.ha n hn h4
theorem Apart.theirUn {sa sb : ASt} {i : Nat} (h : Apart sa sb i) (r : Int) (h2 : 100 ≤ r) : Apart (unP sa r).2.2 sb (i + 1) := by
  have hg := (h.ga.un r).1
  revert hg
  unfold unP
  cases hf : findN sa (isRoot r) with
  | none => intro _; exact h.next
  | some m =>
    obtain ⟨hm4, hm32⟩ := h.large r h2 m hf
    simp only
    intro hg
    have g := h.next
    refine ⟨h.oa, h.ob, hg, g.gb, fun n hn => ?_, fun n hn => ?_, h.giv, fun n hn => ?_, fun n hn h4 => ?_, h.hb⟩
    · simp only [ASt.give0]; rw [upd_other _ _ _ _ (by omega)]; exact h.root n hn
    · simp only [ASt.give0]; rw [upd_other _ _ _ _ (by omega)]; exact h.ser n hn
    · simp only [ASt.give0]; rw [upd_other _ _ _ _ (by omega)]; exact h.lo n hn
    · simp only [ASt.give0]
      by_cases en : n = m
      · subst en; rw [upd_same]; exact .inl rfl
      · rw [upd_other _ _ _ _ en]; exact h.ha n hn h4
theorem Apart.theirDrop {sa sb : ASt} {i : Nat} (h : Apart sa sb i) : Apart (dropP sa 2).2.2 sb (i + 1) := by
  have hg := (h.ga.drop 2).1
  revert hg
  unfold dropP
  cases hq : atO sa 2 with
  | none => intro _; exact h.next
  | some p =>
    have hp0 := at_two h.oa p hq
    simp only
    intro hg
    have g := h.next
    have e : ∀ n, n < 4 → ¬ n / 4 = p := fun n hn => by omega
    refine ⟨?_, h.ob, hg, g.gb, fun n hn => ?_, fun n hn => ?_, h.giv, fun n hn => ?_, fun n hn h4 => ?_, h.hb⟩
    · simp only [ASt.drop]; rw [upd_other _ _ _ _ (fun e => hp0 e.symm)]; exact h.oa
    · simp only [ASt.drop]; rw [if_neg (e n hn)]; exact h.root n hn
    · simp only [ASt.drop]; rw [if_neg (e n hn)]; exact h.ser n hn
    · simp only [ASt.drop]; rw [if_neg (e n hn)]; exact h.lo n hn
    · simp only [ASt.drop]
      by_cases en : n / 4 = p
      · rw [if_pos en]; exact .inl rfl
      · rw [if_neg en]; exact h.ha n hn h4
theorem find_congr {α : Type} (f g : α → Bool) : ∀ (l : List α), (∀ x ∈ l, f x = g x) → l.find? f = l.find? g
  | [], _ => rfl
  | x :: l, h => by
    rw [List.find?_cons, List.find?_cons, h x List.mem_cons_self, find_congr f g l fun y hy => h y (List.mem_cons_of_mem _ hy)]
theorem Apart.myAssign {sa sb : ASt} {i : Nat} (h : Apart sa sb i) (r : Int) (h1 : 1 ≤ r) (h2 : r < 100) :
    ∃ n q e sa' sb', assignP sa 1 r = (n, q, e, sa') ∧ assignP sb 1 r = (n, q, e, sb') ∧ Apart sa' sb' (i + 1) := by
  have hfr : (nums 0).find? (freeO sa 0) = (nums 0).find? (freeO sb 0) := find_congr _ _ _ fun j _ => by
    have hj := j.isLt
    unfold freeO serO
    rw [h.root _ (by omega), h.giv _ (by omega)]
  unfold assignP
  rw [at_one h.oa, at_one h.ob]
  simp only
  have hr1 : ¬ r < 1 := by omega
  rw [if_neg hr1, if_neg hr1, h.find r h1 h2, hfr]
  by_cases hf : (findN sb (isRoot r)).isSome = true
  · rw [if_pos hf, if_pos hf]; exact ⟨_, _, _, _, _, rfl, rfl, h.next⟩
  rw [if_neg hf, if_neg hf]
  cases hn : (nums 0).find? (freeO sb 0) with
  | none => exact ⟨_, _, _, _, _, rfl, rfl, h.next⟩
  | some j =>
    have hj := j.isLt
    obtain ⟨m, hm⟩ : ∃ m, 4 * 0 + j.val = m := ⟨_, rfl⟩
    have hm4 : m < 4 := by omega
    have hse : serO sa m = serO sb m := by unfold serO; rw [h.giv m hm4]
    simp only [hm]
    refine ⟨(m : Int), serO sb m, 0, sa.give m r, sb.give m r, by rw [hse], rfl, h.oa, h.ob, h.ga.give (by omega) r, h.gb.give (by omega) r, fun n hn => ?_, fun n hn => ?_, fun n hn => ?_, fun n hn => ?_, fun n hn h4 => ?_, fun n hn h4 => ?_⟩
    · simp only [ASt.give]; unfold upd; rw [h.root n hn]
    · simp only [ASt.give]; unfold upd; rw [h.ser n hn, hse]
    · simp only [ASt.give]; unfold upd; rw [h.giv n hn, h.giv m hm4]
    · simp only [ASt.give]; unfold upd; split
      · exact h2
      · exact h.lo n hn
    · simp only [ASt.give]; rw [upd_other _ _ _ _ (by omega)]; exact h.ha n hn h4
    · simp only [ASt.give]; rw [upd_other _ _ _ _ (by omega)]; exact h.hb n hn h4
theorem Apart.myUn {sa sb : ASt} {i : Nat} (h : Apart sa sb i) (r : Int) (h1 : 1 ≤ r) (h2 : r < 100) :
    ∃ n e sa' sb', unP sa r = (n, e, sa') ∧ unP sb r = (n, e, sb') ∧ Apart sa' sb' (i + 1) := by
  have hga := (h.ga.un r).1
  have hgb := (h.gb.un r).1
  revert hga hgb
  unfold unP
  cases hf : findN sa (isRoot r) with
  | none => rw [← h.find r h1 h2, hf]; intro _ _; exact ⟨_, _, _, _, rfl, rfl, h.next⟩
  | some m =>
    have hm4 := h.small r h1 h2 m hf
    rw [← h.find r h1 h2, hf]
    simp only
    intro hga hgb
    refine ⟨_, _, _, _, rfl, rfl, h.oa, h.ob, hga, hgb, fun n hn => ?_, fun n hn => ?_, h.giv, fun n hn => ?_, fun n hn h4 => ?_, fun n hn h4 => ?_⟩
    · simp only [ASt.give0]; unfold upd; rw [h.root n hn]
    · simp only [ASt.give0]; unfold upd; rw [h.ser n hn]
    · simp only [ASt.give0]; unfold upd; split
      · decide
      · exact h.lo n hn
    · simp only [ASt.give0]; rw [upd_other _ _ _ _ (by omega)]; exact h.ha n hn h4
    · simp only [ASt.give0]; rw [upd_other _ _ _ _ (by omega)]; exact h.hb n hn h4
/-- both after their pools came -/
def s12 : ASt := { ASt.zero with obj := upd (upd ASt.zero.obj 0 1) 1 2 }
theorem s12_add : addP ASt.zero 1 = (0, 0, { ASt.zero with obj := upd ASt.zero.obj 0 1 }) ∧ addP { ASt.zero with obj := upd ASt.zero.obj 0 1 } 2 = (1, 0, s12) := ⟨by rfl, by rfl⟩
theorem Apart.start : Apart s12 s12 0 :=
  ⟨rfl, rfl, ⟨Good.start.giv, fun n _ _ h => absurd rfl h⟩, ⟨Good.start.giv, fun n _ _ h => absurd rfl h⟩, fun _ _ => rfl, fun _ _ => rfl, fun _ _ => rfl, fun n _ => by show (0 : Int) < 100; decide, fun n _ _ => .inl rfl, fun n _ _ => rfl⟩
end Go.Proofs.Ytaomipfblcndlaa
