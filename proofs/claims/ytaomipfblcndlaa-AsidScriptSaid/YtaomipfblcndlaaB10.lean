import Derived.Test.YtaomipfblcndlaaB9
set_option linter.unusedVariables false
set_option linter.unusedSimpArgs false
namespace Go.Proofs.Ytaomipfblcndlaa
open Go.RowKit

/-- what holds of the pools of numbers after i acts -/
structure Good (s : ASt) (i : Nat) : Prop where
  giv : ∀ n, n < 32 → 0 ≤ s.given n ∧ s.given n ≤ i
  ser : ∀ n, n < 32 → n ≠ 0 → s.root n ≠ 0 → ∃ k : Nat, s.ser n = n + 32 * (k : Int) ∧ (k : Int) < s.given n
/-- a serial that was given -/
def Old (s : ASt) (q : Int) : Prop := ∃ n : Nat, n < 32 ∧ ∃ k : Nat, q = n + 32 * (k : Int) ∧ (k : Int) < s.given n
theorem Good.start : Good ASt.zero 0 := ⟨fun n _ => ⟨Int.le_refl _, Int.le_refl _⟩, fun n _ _ h => absurd rfl h⟩
theorem Good.next {s : ASt} {i : Nat} (h : Good s i) : Good s (i + 1) := ⟨fun n hn => by have := h.giv n hn; omega, h.ser⟩
theorem Good.bound {s : ASt} {i : Nat} (h : Good s i) (hi : i ≤ 1000) : ∀ n, n < 32 → 0 ≤ s.given n ∧ s.given n ≤ 600000 := fun n hn => by have := h.giv n hn; omega
theorem Good.add {s : ASt} {i : Nat} (h : Good s i) (o : Int) : Good (addP s o).2.2 (i + 1) ∧ (addP s o).2.2.given = s.given := by
  unfold addP
  split
  · exact ⟨h.next, rfl⟩
  · split
    · exact ⟨h.next, rfl⟩
    · split
      · exact ⟨⟨h.next.giv, h.next.ser⟩, rfl⟩
      · exact ⟨h.next, rfl⟩
theorem Good.drop {s : ASt} {i : Nat} (h : Good s i) (o : Int) : Good (dropP s o).2.2 (i + 1) ∧ (dropP s o).2.2.given = s.given := by
  unfold dropP
  split
  · exact ⟨h.next, rfl⟩
  · rename_i p _
    refine ⟨⟨h.next.giv, fun n hn h0 hr => ?_⟩, rfl⟩
    simp only [ASt.drop] at hr ⊢
    by_cases hp : n / 4 = p
    · rw [if_pos hp] at hr; exact absurd rfl hr
    · rw [if_neg hp] at hr ⊢; exact h.ser n hn h0 hr
theorem Good.un {s : ASt} {i : Nat} (h : Good s i) (r : Int) : Good (unP s r).2.2 (i + 1) ∧ (unP s r).2.2.given = s.given := by
  unfold unP
  split
  · rename_i m _
    refine ⟨⟨h.next.giv, fun n hn h0 hr => ?_⟩, rfl⟩
    simp only [ASt.give0] at hr ⊢
    by_cases hp : n = m
    · subst hp; rw [upd_same] at hr; exact absurd rfl hr
    · rw [upd_other _ _ _ _ hp] at hr ⊢; exact h.ser n hn h0 hr
  · exact ⟨h.next, rfl⟩
theorem Good.give {s : ASt} {i m : Nat} (h : Good s i) (hm : m < 32) (r : Int) : Good (s.give m r) (i + 1) := by
  have hg := h.giv m hm
  refine ⟨fun n hn => ?_, fun n hn h0 hr => ?_⟩
  · have := h.giv n hn
    simp only [ASt.give]
    by_cases e : n = m
    · subst e; rw [upd_same]; omega
    · rw [upd_other _ _ _ _ e]; omega
  · simp only [ASt.give] at hr ⊢
    by_cases e : n = m
    · subst e
      rw [upd_same, upd_same]
      exact ⟨(s.given n).toNat, by unfold serO; omega, by omega⟩
    · rw [upd_other _ _ _ _ e] at hr
      rw [upd_other _ _ _ _ e, upd_other _ _ _ _ e]
      exact h.ser n hn h0 hr
theorem give_root {s : ASt} {i m : Nat} (h : Good s i) (hm : m < 32) (h0 : m ≠ 0) (r : Int) (hr : 1 ≤ r) : rootP (s.give m r) (serO s m) = (r, (m : Int), true) := by
  have hg := h.giv m hm
  have hf : findN (s.give m r) (isSer (serO s m)) = some m := by
    refine firstTo_hit _ _ _ hm ?_ ((firstTo_none _ _).2 fun n hn => ?_)
    · simp [ASt.hit, ASt.give, upd_same, isSer, h0]; omega
    · by_cases hn0 : n = 0
      · simp [hn0]
      · have e : n ≠ m := by omega
        by_cases hr0 : s.root n = 0
        · simp [ASt.hit, ASt.give, upd_other _ _ _ _ e, hr0]
        · obtain ⟨k, h1, _⟩ := h.ser n (by omega) hn0 hr0
          have : ¬ s.ser n = serO s m := by rw [h1]; unfold serO; omega
          simp [ASt.hit, ASt.give, upd_other _ _ _ _ e, isSer, this]
  unfold rootP
  rw [hf]
  simp [ASt.give, upd_same]
theorem Old.mono {s s' : ASt} {q : Int} (h : Old s q) (hle : ∀ n, n < 32 → s.given n ≤ s'.given n) : Old s' q := by
  obtain ⟨n, hn, k, h1, h2⟩ := h
  exact ⟨n, hn, k, h1, by have := hle n hn; omega⟩
/-- what Assign does: it fails and changes nothing, or gives a new number -/
theorem Good.assign {s : ASt} {i : Nat} (h : Good s i) (o r : Int) :
    (∃ e, assignP s o r = (0, 0, e, s) ∧ e ≠ 0) ∨ (∃ m : Nat, m < 32 ∧ m ≠ 0 ∧ assignP s o r = ((m : Int), serO s m, 0, s.give m r) ∧ rootP (s.give m r) (serO s m) = (r, (m : Int), true) ∧ serO s m % 32 = m ∧ Good (s.give m r) (i + 1) ∧ Old (s.give m r) (serO s m) ∧ ¬ Old s (serO s m) ∧ ∀ q, Old s q → Old (s.give m r) q) := by
  unfold assignP
  cases hq : atO s o with
  | none => exact .inl ⟨2, rfl, by decide⟩
  | some p =>
    have hp := atO_lt s o p hq
    simp only
    by_cases hr : r < 1
    · rw [if_pos hr]; exact .inl ⟨2, rfl, by decide⟩
    rw [if_neg hr]
    by_cases hf : (findN s (isRoot r)).isSome = true
    · rw [if_pos hf]; exact .inl ⟨13, rfl, by decide⟩
    rw [if_neg hf]
    cases hn : (nums p).find? (freeO s p) with
    | none => exact .inl ⟨11, rfl, by decide⟩
    | some j =>
      have hj := j.isLt
      have h0 := (mem_nums p j).1 (List.mem_of_find?_eq_some hn)
      obtain ⟨m, hm⟩ : ∃ m, 4 * p + j.val = m := ⟨_, rfl⟩
      rw [hm] at h0
      have hm32 : m < 32 := by omega
      have hg := h.giv m hm32
      simp only [hm]
      refine .inr ⟨m, hm32, h0, rfl, give_root h hm32 h0 r (by omega), by unfold serO; omega, h.give hm32 r, ?_, ?_, fun q hq => hq.mono fun n hn => ?_⟩
      · exact ⟨m, hm32, (s.given m).toNat, by unfold serO; omega, by simp only [ASt.give]; rw [upd_same]; omega⟩
      · rintro ⟨n, hn, k, h1, h2⟩
        unfold serO at h1
        have : n = m := by omega
        subst this
        omega
      · simp only [ASt.give]
        by_cases e : n = m
        · subst e; rw [upd_same]; omega
        · rw [upd_other _ _ _ _ e]; omega
end Go.Proofs.Ytaomipfblcndlaa
