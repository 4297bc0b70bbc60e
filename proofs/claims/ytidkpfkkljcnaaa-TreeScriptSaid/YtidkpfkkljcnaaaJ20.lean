/- TreeParents' plain law: below just the parents. -/
import Derived.Test.YtidkpfkkljcnaaaJ19
set_option linter.unusedVariables false
set_option linter.unusedSimpArgs false
namespace Go.Proofs.Ytidkpfkkljcnaaa
open Go.RowKit

theorem tw_mem {α : Type} {P : α → Bool} : ∀ {B : List α} {k : Nat} {y : α}, B[k]? = some y → (∀ m z, m ≤ k → B[m]? = some z → P z = true) → y ∈ B.takeWhile P
  | [], _, _, h, _ => by simp at h
  | x :: B, 0, y, h, hp => by
    cases h
    rw [List.takeWhile_cons_of_pos (hp 0 x (Nat.le_refl _) rfl)]; exact List.mem_cons_self
  | x :: B, k + 1, y, h, hp => by
    rw [List.takeWhile_cons_of_pos (hp 0 x (Nat.zero_le _) rfl)]
    exact List.mem_cons_of_mem _ (tw_mem (by simpa using h) fun m z h1 h2 => hp (m + 1) z (by omega) (by simpa using h2))
theorem tw_at {α : Type} {P : α → Bool} : ∀ {B : List α} {y : α}, y ∈ B.takeWhile P → ∃ k : Nat, B[k]? = some y ∧ ∀ (m : Nat) (z : α), m ≤ k → B[m]? = some z → P z = true
  | [], _, h => by simp at h
  | x :: B, y, h => by
    by_cases hx : P x = true
    · rw [List.takeWhile_cons_of_pos hx] at h
      rcases List.mem_cons.1 h with rfl | h
      · exact ⟨0, rfl, fun m z h1 h2 => by obtain rfl : m = 0 := by omega
                                           cases h2; exact hx⟩
      · obtain ⟨k, h1, h2⟩ := tw_at h
        refine ⟨k + 1, by simpa using h1, fun m z h3 h4 => ?_⟩
        cases m with
        | zero => cases h4; exact hx
        | succ m => exact h2 m z (by omega) (by simpa using h4)
    · rw [List.takeWhile_cons_of_neg hx] at h; simp at h
/-- the j-th stands above the i-th -/
def Anc (D : DT) (j i : Nat) (x : SlotT × Int) : Prop := j < i ∧ ∀ m z, j < m → m ≤ i → D[m]? = some z → x.2 < z.2
theorem at_split {D : DT} {j : Nat} {x : SlotT × Int} (h : D[j]? = some x) : D = D.take j ++ x :: D.drop (j + 1) ∧ (D.take j).length = j := by
  have hl := (List.getElem?_eq_some_iff.1 h).1
  have h1 := List.take_append_drop j D
  rw [List.drop_eq_getElem_cons hl] at h1
  rw [List.getElem?_eq_getElem hl] at h
  rw [Option.some.inj h] at h1
  exact ⟨h1.symm, by simp; omega⟩
theorem slot_inj {D : DT} (hn : (D.map Prod.fst).Nodup) {i j : Nat} {x y : SlotT × Int} (hx : D[i]? = some x) (hy : D[j]? = some y) (e : x.1 = y.1) : i = j := by
  by_cases h1 : i < j
  · exact absurd e (nodup_at hn h1 hx hy)
  · by_cases h2 : j < i
    · exact absurd e.symm (nodup_at hn h2 hy hx)
    · omega
theorem below_anc {D : DT} (hn : (D.map Prod.fst).Nodup) {i j : Nat} {x y : SlotT × Int} (hx : D[j]? = some x) (hy : D[i]? = some y) : y.1 ∈ belowD D x.1 ↔ Anc D j i x := by
  obtain ⟨hD, hl⟩ := at_split hx
  rw [belowD_mid hn hD]
  have hB : ∀ k z, (D.drop (j + 1))[k]? = some z ↔ D[j + 1 + k]? = some z := fun k z => by rw [List.getElem?_drop]
  constructor
  · intro h
    obtain ⟨z, hz, e⟩ := List.mem_map.1 h
    obtain ⟨k, h1, h2⟩ := tw_at hz
    have h3 := (hB k z).1 h1
    have h4 := slot_inj hn h3 hy e
    refine ⟨by omega, fun m w h5 h6 h7 => ?_⟩
    have := h2 (m - (j + 1)) w (by omega) ((hB _ _).2 (by rw [show j + 1 + (m - (j + 1)) = m by omega]; exact h7))
    simpa using this
  · rintro ⟨h1, h2⟩
    refine List.mem_map.2 ⟨y, tw_mem (k := i - (j + 1)) ((hB _ _).2 (by rw [show j + 1 + (i - (j + 1)) = i by omega]; exact hy)) fun m z h3 h4 => ?_, rfl⟩
    have := h2 (j + 1 + m) z (by omega) (by omega) ((hB _ _).1 h4)
    simpa using this
theorem parent_at {D : DT} {n : Nat} (h : GoodT D n) {i : Nat} {x : SlotT × Int} (hx : D[i]? = some x) :
    (x.2 = 0 ∧ parentD D x.1 = ((0, 0), false)) ∨ (0 < x.2 ∧ ∃ p y, D[p]? = some y ∧ p < i ∧ y.2 = x.2 - 1 ∧ (∀ m z, p < m → m < i → D[m]? = some z → x.2 ≤ z.2) ∧ parentD D x.1 = (y.1, true)) := by
  obtain ⟨hD, hl⟩ := at_split hx
  have hpos := (h.dep.bound x (List.mem_of_getElem? hx)).1
  unfold parentD
  rw [splitD_mid h.nd hD]
  simp only
  have hA : ∀ k z, (D.take i)[k]? = some z ↔ k < i ∧ D[k]? = some z := fun k z => by
    rw [List.getElem?_take]
    by_cases hk : k < i
    · rw [if_pos hk]; exact ⟨fun h => ⟨hk, h⟩, fun h => h.2⟩
    · rw [if_neg hk]; exact ⟨fun h => (by cases h), fun h => absurd h.1 hk⟩
  cases hf : (D.take i).reverse.find? (fun z => decide (z.2 < x.2)) with
  | none =>
    have hno := List.find?_eq_none.1 hf
    refine .inl ⟨?_, rfl⟩
    by_cases hi0 : i = 0
    · rw [hi0] at hx; exact h.dep.first hx
    · obtain ⟨z, hz⟩ : ∃ z, D[0]? = some z := ⟨_, List.getElem?_eq_getElem (by have := (List.getElem?_eq_some_iff.1 hx).1; omega)⟩
      have hz0 := h.dep.first hz
      have := hno z (List.mem_reverse.2 (List.mem_of_getElem? ((hA 0 z).2 ⟨by omega, hz⟩)))
      simp at this; omega
  | some y =>
    obtain ⟨h1, us, bs, h2, h3⟩ := List.find?_eq_some_iff_append.1 hf
    have hyx : y.2 < x.2 := by simpa using h1
    have h4 : D.take i = bs.reverse ++ y :: us.reverse := by
      have := congrArg List.reverse h2; simpa using this
    have hy0 : (D.take i)[bs.length]? = some y := by rw [h4, List.getElem?_append_right (by simp)]; simp
    obtain ⟨hp, hy⟩ := (hA _ _).1 hy0
    have hbt : ∀ m z, bs.length < m → m < i → D[m]? = some z → x.2 ≤ z.2 := fun m z h5 h6 h7 => by
      have h8 := (hA m z).2 ⟨h6, h7⟩
      rw [h4, List.getElem?_append_right (by simp; omega), show m - bs.reverse.length = (m - bs.length - 1) + 1 by simp; omega, List.getElem?_cons_succ] at h8
      have h9 := h3 z (by have := List.mem_of_getElem? h8; simpa using this)
      simp at h9; omega
    have hy1 := (h.dep.bound y (List.mem_of_getElem? hy)).1
    refine .inr ⟨by omega, bs.length, y, hy, hp, ?_, hbt, rfl⟩
    by_cases hpi : bs.length + 1 = i
    · have := h.dep.step hy (by rw [hpi]; exact hx); omega
    · obtain ⟨z, hz⟩ : ∃ z, D[bs.length + 1]? = some z := ⟨_, List.getElem?_eq_getElem (by have := (List.getElem?_eq_some_iff.1 hx).1; omega)⟩
      have h5 := h.dep.step hy hz
      have h6 := hbt _ z (by omega) (by omega) hz
      omega
/-- above something: its parent, and what is above the parent -/
theorem anc_parent {D : DT} {c p j : Nat} {x y z : SlotT × Int} (hx : D[c]? = some x) (hy : D[p]? = some y) (hp : p < c) (hyx : y.2 = x.2 - 1) (hbt : ∀ m z, p < m → m < c → D[m]? = some z → x.2 ≤ z.2) (hz : D[j]? = some z) :
    Anc D j c z ↔ j = p ∨ Anc D j p z := by
  constructor
  · rintro ⟨h1, h2⟩
    by_cases hj : j = p
    · exact .inl hj
    · refine .inr ⟨?_, fun m w h3 h4 h5 => h2 m w h3 (by omega) h5⟩
      by_cases hjp : j < p
      · exact hjp
      · have h3 := hbt j z (by omega) h1 hz
        have h4 := h2 c x h1 (Nat.le_refl _) hx
        omega
  · rintro (rfl | ⟨h1, h2⟩)
    · rw [hy] at hz; cases hz
      refine ⟨hp, fun m w h3 h4 h5 => ?_⟩
      by_cases hmc : m = c
      · rw [hmc, hx] at h5; cases h5; omega
      · have := hbt m w h3 (by omega) h5; omega
    · refine ⟨by omega, fun m w h3 h4 h5 => ?_⟩
      by_cases hmp : m ≤ p
      · exact h2 m w h3 hmp h5
      · have h6 := h2 p y h1 (Nat.le_refl _) hy
        by_cases hmc : m = c
        · rw [hmc, hx] at h5; cases h5; omega
        · have := hbt m w (by omega) (by omega) h5; omega
end Go.Proofs.Ytidkpfkkljcnaaa
