/- Plain laws on copies: a copy is valid; a copy of a copy is the copy by both masks. -/
import Derived.Test.YtndjopbmaoalhaaD1
set_option linter.unusedVariables false
set_option linter.unusedSimpArgs false
namespace Go.Proofs.Ytndjopbmaoalhaa
open Go.RowKit Go.Shelf

theorem maskI_bd (a b : Int) : 0 ≤ maskI a b ∧ maskI a b ≤ 7 := by
  unfold maskI
  split
  · rename_i h
    simp [inB] at h
    have : ∀ x y : Fin 8, x.val &&& y.val ≤ 7 := by decide
    have := this ⟨a.toNat, by omega⟩ ⟨b.toNat, by omega⟩
    simp only [] at this
    omega
  · omega
theorem maskI_le (a b : Int) (h0 : 0 ≤ a) : maskI a b ≤ a := by
  unfold maskI
  split
  · rename_i h
    simp [inB] at h
    have := Nat.and_le_left (n := a.toNat) (m := b.toNat)
    omega
  · exact h0
theorem maskI_assoc (r a b : Int) (ha : inB 0 a 7 = true) (hb : inB 0 b 7 = true) : maskI (maskI r a) b = maskI r (maskI a b) := by
  by_cases hr : inB 0 r 7 = true
  · have e1 : maskI r a = ((r.toNat &&& a.toNat : Nat) : Int) := by simp [maskI, hr, ha]
    have e2 : maskI a b = ((a.toNat &&& b.toNat : Nat) : Int) := by simp [maskI, hb, ha]
    have b1 := maskI_bd r a
    have b2 := maskI_bd a b
    rw [show maskI (maskI r a) b = (((maskI r a).toNat &&& b.toNat : Nat) : Int) by
      rw [maskI, if_pos (by simp [inB] at hb ⊢; omega)], show maskI r (maskI a b) = ((r.toNat &&& (maskI a b).toNat : Nat) : Int) by
      rw [maskI, if_pos (by simp [inB] at hr ⊢; omega)], e1, e2]
    simp [Nat.and_assoc]
  · rw [Bool.not_eq_true] at hr
    have e1 : maskI r a = 0 := by simp [maskI, hr]
    rw [e1]
    have e2 : ∀ x, maskI r x = 0 := fun x => by simp [maskI, hr]
    rw [e2, maskI]
    split <;> simp
theorem mask_in (a b : Int) : inB 0 (maskI a b) 7 = true := by
  have := maskI_bd a b
  simp [inB]; omega

/-- what is copied is valid -/
theorem copy_ok (c : Cap) (m : Int) (h : copyE c m = 0) : (copyC c m).okB = true ∧ (copyC c m).kind = c.kind ∧ c.okB = true ∧ inB 0 m 7 = true := by
  have h0 := h
  unfold copyE at h
  by_cases h1 : c.okB = false ∨ inB 0 m 7 = false
  · rw [if_pos h1] at h; cases h
  have hok : c.okB = true := by cases hc : c.okB <;> simp_all
  have hm : inB 0 m 7 = true := by cases hc : inB 0 m 7 <;> simp_all
  rw [if_neg h1] at h
  unfold copyC
  rw [if_neg (by rw [h0]; simp)]
  obtain ⟨k, o, r, d, g, b, s, p⟩ := c
  simp only at h hok ⊢
  have hl := maskI_le r m
  have hb := maskI_bd r m
  by_cases k3 : k = 3
  · subst k3
    simp [Cap.okB, inB, eq8, placedB] at h hok ⊢
    have := hl (by omega)
    refine ⟨?_, hok, by simpa [inB] using hm⟩
    omega
  · rw [if_neg k3]
    by_cases k8 : k = 8
    · subst k8
      simp [Cap.okB, inB, eq8] at hok ⊢
      have := hl (by omega)
      refine ⟨?_, hok, by simpa [inB] using hm⟩
      omega
    · rw [if_neg k8]
      exact ⟨hok, rfl, hok, hm⟩

theorem copy_twice (c : Cap) (a b : Int) (ha : inB 0 a 7 = true) (hb : inB 0 b 7 = true) (h : copyE c a = 0) :
    copyE (copyC c a) b = copyE c (maskI a b) ∧ copyC (copyC c a) b = copyC c (maskI a b) := by
  obtain ⟨h1, h2, h3, h4⟩ := copy_ok c a h
  have hab := mask_in a b
  have key : copyE (copyC c a) b = copyE c (maskI a b) := by
    unfold copyE
    rw [h2, h1, h3, hb, hab]
    simp only [Bool.true_eq_false, or_self, if_false]
    by_cases k3 : c.kind = 3
    · have : (copyC c a).rights = maskI c.rights a := by simp [copyC, h, k3]
      rw [this, maskI_assoc _ _ _ ha hb]
    · simp [k3]
  refine ⟨key, ?_⟩
  have e1 : ∀ (x : Cap) (m : Int), copyC x m = if copyE x m ≠ 0 then Cap.no else if x.kind = 3 then { x with rights := maskI x.rights m, serial := 0, page := 0 }
    else if x.kind = 8 then { x with rights := maskI x.rights m } else x := fun _ _ => rfl
  rw [e1 (copyC c a) b, e1 c (maskI a b), key, h2]
  split
  · rfl
  · have e2 : copyC c a = if c.kind = 3 then { c with rights := maskI c.rights a, serial := 0, page := 0 } else if c.kind = 8 then { c with rights := maskI c.rights a } else c := by
      rw [e1, if_neg (by simp [h])]
    rw [e2]
    by_cases k3 : c.kind = 3
    · simp [k3, maskI_assoc _ _ _ ha hb]
    · by_cases k8 : c.kind = 8
      · simp [k8, maskI_assoc _ _ _ ha hb]
      · simp [k3, k8]
theorem copy_twice_no (c : Cap) (a b : Int) (ha : inB 0 a 7 = true) (hb : inB 0 b 7 = true) (h : copyE c a ≠ 0) : copyE c (maskI a b) ≠ 0 := by
  have hab := mask_in a b
  have hl := maskI_le (maskI c.rights a) b (maskI_bd _ _).1
  have h0 := (maskI_bd (maskI c.rights a) b).1
  rw [maskI_assoc _ _ _ ha hb] at hl h0
  unfold copyE at h ⊢
  rw [ha] at h
  rw [hab]
  cases hc : c.okB
  · simp
  · rw [hc] at h
    simp only [Bool.true_eq_false, or_self, if_false] at h ⊢
    split
    · simp
    · rename_i hk
      rw [if_neg hk] at h
      split
      · simp
      · rename_i hk7
        rw [if_neg hk7] at h
        by_cases h3 : c.kind = 3 ∧ maskI c.rights a = 0
        · rw [if_pos ⟨h3.1, by have := h3.2; omega⟩]; simp
        · rw [if_neg h3] at h; simp at h
end Go.Proofs.Ytndjopbmaoalhaa
