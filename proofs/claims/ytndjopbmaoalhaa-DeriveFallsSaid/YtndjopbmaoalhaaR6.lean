import Derived.Test.YtndjopbmaoalhaaR2
import Derived.Test.YtndjopbmaoalhaaR3
import Derived.Test.YtndjopbmaoalhaaR4
set_option linter.unusedVariables false
set_option linter.unusedSimpArgs false
namespace Go.Proofs.Ytndjopbmaoalhaa
open Go.RowKit Go.Shelf

theorem rfm_any (c : Cap) (w : World) :
    Calls Try.prog 19 #[c.v] w fun e w' => e = .returned (.bool c.okB) ∧ Below w.heap.size w w' := by
  obtain ⟨k, o, r, d, g, b, s, p⟩ := c
  by_cases h0 : k = 0 ∨ k = 7
  · have := rfm07 k o r d g b s p w h0
    rwa [show Cap.okB ⟨k, o, r, d, g, b, s, p⟩ = eq8 k o r d g b s p k 0 0 0 0 0 0 0 by simp only [Cap.okB]; rw [if_pos h0]]
  by_cases h1 : k = 1 ∨ k = 4 ∨ k = 5 ∨ k = 6 ∨ k = 9
  · have := rfm1 k o r d g b s p w h1
    rwa [show Cap.okB ⟨k, o, r, d, g, b, s, p⟩ = (eq8 k o r d g b s p k o 0 0 0 0 0 0 && inB 1 o 65535) by simp only [Cap.okB]; rw [if_neg h0, if_pos h1]]
  by_cases h2 : k = 2
  · subst h2
    have := rfm2 o r d g b s p w
    rwa [show Cap.okB ⟨2, o, r, d, g, b, s, p⟩ = (inB 1 o 65535 && eq8 2 o r d g b s p 2 o 0 0 g b 0 0 && inB 0 b 12 && decide (0 ≤ g) && decide (g.toNat < 2 ^ b.toNat)) by
      simp only [Cap.okB]
      rw [if_neg h0, if_neg h1, if_pos trivial]
      generalize inB 1 o 65535 = x1
      generalize eq8 2 o r d g b s p 2 o 0 0 g b 0 0 = x2
      generalize inB 0 b 12 = x3
      generalize decide (0 ≤ g) = x4
      generalize decide (g.toNat < 2 ^ b.toNat) = x5
      revert x1 x2 x3 x4 x5; decide]
  by_cases h3 : k = 3
  · subst h3
    have := rfm3 o r d g b s p w
    rwa [show Cap.okB ⟨3, o, r, d, g, b, s, p⟩ = may3B 3 o r d g b s p by simp only [Cap.okB, may3B]; rw [if_neg h0, if_neg h1, if_neg h2, if_pos trivial]]
  by_cases h8 : k = 8
  · subst h8
    have := rfm8 o r d g b s p w
    rwa [show Cap.okB ⟨8, o, r, d, g, b, s, p⟩ = may8B 8 o r d g b s p by simp only [Cap.okB, may8B]; rw [if_neg h0, if_neg h1, if_neg h2, if_neg h3, if_pos trivial]]
  have := rfmNo k o r d g b s p w (by omega)
  rwa [show Cap.okB ⟨k, o, r, d, g, b, s, p⟩ = false by simp only [Cap.okB]; rw [if_neg h0, if_neg h1, if_neg h2, if_neg h3, if_neg h8]]
end Go.Proofs.Ytndjopbmaoalhaa
