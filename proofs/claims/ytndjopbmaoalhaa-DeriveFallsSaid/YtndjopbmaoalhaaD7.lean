/- Plain laws: what is derived is valid, of the same object, with no right more, no mapping, and the badge that was there. -/
import Derived.Test.YtndjopbmaoalhaaD3
import Derived.Test.YtndjopbmaoalhaaD4
set_option linter.unusedVariables false
set_option linter.unusedSimpArgs false
namespace Go.Proofs.Ytndjopbmaoalhaa
open Go.RowKit Go.Shelf

def alikeB (c d : Cap) : Bool := c.okB && d.okB && decide (c.kind ≠ 0) && decide (c.kind = d.kind) && decide (c.obj = d.obj)
def hasB (r n : Int) : Bool := inB 0 r 7 && inB 0 n 7 && decide (maskI r n = n)
def fallsB (c d : Cap) : Bool := d.okB && alikeB c d && hasB c.rights d.rights && decide (d.serial = 0) && decide (d.page = 0) && (decide (c.badge = 0) || decide (d.badge = c.badge))

theorem has_self (r m : Int) (h : inB 0 r 7 = true) (hm : inB 0 m 7 = true) : hasB r (maskI r m) = true := by
  have e : maskI r (maskI r m) = maskI r m := by
    rw [← maskI_assoc r r m h hm]
    have : maskI r r = r := by
      have h1 : 0 ≤ r ∧ r ≤ 7 := by simpa [inB] using h
      rw [maskI, if_pos (by simp [h])]
      simp; omega
    rw [this]
  simp [hasB, h, mask_in, e]

theorem kind_of_ok (c : Cap) (h : c.okB = true) : c.kind = 0 ∨ c.kind = 1 ∨ c.kind = 2 ∨ c.kind = 3 ∨ c.kind = 4 ∨ c.kind = 5 ∨ c.kind = 6 ∨ c.kind = 7 ∨ c.kind = 8 ∨ c.kind = 9 := by
  unfold Cap.okB at h
  by_cases h0 : c.kind = 0 ∨ c.kind = 7
  · omega
  rw [if_neg h0] at h
  by_cases h1 : c.kind = 1 ∨ c.kind = 4 ∨ c.kind = 5 ∨ c.kind = 6 ∨ c.kind = 9
  · omega
  rw [if_neg h1] at h
  by_cases h2 : c.kind = 2
  · omega
  rw [if_neg h2] at h
  by_cases h3 : c.kind = 3
  · omega
  rw [if_neg h3] at h
  by_cases h8 : c.kind = 8
  · omega
  rw [if_neg h8] at h
  cases h

theorem copy_falls (c : Cap) (m : Int) (h : copyE c m = 0) : fallsB c (copyC c m) = true := by
  obtain ⟨h1, h2, h3, h4⟩ := copy_ok c m h
  have hk := kind_of_ok c h3
  have hE := h
  unfold copyE at h
  rw [h3, h4] at h
  simp only [Bool.true_eq_false, or_self, if_false] at h
  have hC : copyC c m = if c.kind = 3 then { c with rights := maskI c.rights m, serial := 0, page := 0 } else if c.kind = 8 then { c with rights := maskI c.rights m } else c := by
    unfold copyC; rw [if_neg (by rw [hE]; simp)]
  unfold fallsB alikeB
  rw [h1, h3, h2]
  obtain ⟨k, o, r, d, g, b, s, p⟩ := c
  simp only at h hk hC h3 ⊢
  rcases hk with rfl | rfl | rfl | rfl | rfl | rfl | rfl | rfl | rfl | rfl
  · simp at h
  · simp at h
  · rw [hC]
    simp [Cap.okB, inB, eq8] at h3
    have hr : r = 0 := by omega
    subst hr
    simp [show hasB 0 0 = true by decide]; omega
  · rw [hC]
    simp [Cap.okB, inB, eq8, placedB] at h3
    simp [has_self r m (by simp [inB]; omega) h4]
  · rw [hC]
    simp [Cap.okB, inB, eq8] at h3
    have hr : r = 0 := by omega
    subst hr
    simp [show hasB 0 0 = true by decide]; omega
  · rw [hC]
    simp [Cap.okB, inB, eq8] at h3
    have hr : r = 0 := by omega
    subst hr
    simp [show hasB 0 0 = true by decide]; omega
  · rw [hC]
    simp [Cap.okB, inB, eq8] at h3
    have hr : r = 0 := by omega
    subst hr
    simp [show hasB 0 0 = true by decide]; omega
  · simp at h
  · rw [hC]
    simp [Cap.okB, inB, eq8] at h3
    simp [has_self r m (by simp [inB]; omega) h4]; omega
  · rw [hC]
    simp [Cap.okB, inB, eq8] at h3
    have hr : r = 0 := by omega
    subst hr
    simp [show hasB 0 0 = true by decide]; omega

theorem mint_falls (c : Cap) (m : Int) (x : Nat) (h : mE (copyE c m) (copyC c m) x = 0) : fallsB c (mC (copyE c m) (copyC c m) x) = true := by
  have hE : copyE c m = 0 := by
    unfold mE at h
    by_cases h0 : copyE c m = 0
    · exact h0
    · rw [if_pos h0] at h; exact absurd h h0
  have hf := copy_falls c m hE
  have hC : mC (copyE c m) (copyC c m) x = mD (copyC c m) x := by unfold mC; rw [if_neg (by rw [h]; simp)]
  rw [hC]
  obtain ⟨h1, h2, h3, h4⟩ := copy_ok c m hE
  rw [hE] at h
  unfold mE at h
  rw [if_neg (by simp)] at h
  generalize copyC c m = D at *
  unfold mD at h ⊢
  by_cases k8 : D.kind = 8
  · rw [if_pos k8] at h ⊢
    by_cases hx : (16777215 : Int) < x
    · rw [if_pos hx] at h; cases h
    rw [if_neg hx] at h
    by_cases hb : D.badge = 0
    · obtain ⟨k, o, r, d, g, b, s, p⟩ := D
      simp only at k8 hb h2
      subst k8 hb
      simp [fallsB, alikeB, h3] at hf ⊢
      have hk := hf.1.1.1.1.2.2
      simp [Cap.okB, eq8, inB] at hf ⊢
      have hb0 : c.badge = 0 := by omega
      refine ⟨?_, Or.inl hb0⟩
      have hh : hasB c.rights r = true := hf.1.1.1.2
      simp only [hh, and_true]
      omega
    · simp [hb] at h
  rw [if_neg k8] at h ⊢
  by_cases k2 : D.kind = 2
  · rw [if_pos k2] at h ⊢
    cases hq : (decide (x < 65536) && Cap.okB { D with guard := ((x % 4096 : Nat) : Int), bits := ((x / 4096 % 16 : Nat) : Int) })
    · rw [if_neg (by simp [k2] at hq ⊢; exact hq)] at h; cases h
    · rw [Bool.and_eq_true] at hq
      simp only [fallsB, alikeB, Bool.and_eq_true] at hf ⊢
      refine ⟨⟨⟨⟨⟨hq.2, ⟨⟨⟨⟨h3, hq.2⟩, hf.1.1.1.1.2.1.1.2⟩, hf.1.1.1.1.2.1.2⟩, hf.1.1.1.1.2.2⟩⟩, hf.1.1.1.2⟩, hf.1.1.2⟩, hf.1.2⟩, hf.2⟩
  · rw [if_neg k2]
    exact hf
theorem mint_fit (c : Cap) (m : Int) (x : Nat) (hc : c.Fit) (hx : x < 18446744073709551616) : (mC (copyE c m) (copyC c m) x).Fit := by
  have hf := copy_fit c m hc
  unfold mC
  split
  · exact ⟨by decide, by decide⟩
  · unfold mD
    split
    · exact ⟨hf.guard, by simp; omega⟩
    · split
      · exact ⟨by simp; omega, hf.badge⟩
      · exact hf
end Go.Proofs.Ytndjopbmaoalhaa
