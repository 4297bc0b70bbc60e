/- Both answers on which capability may be are alike. -/
import Derived.Test.YtkefdpgmelndaaaP12
set_option linter.unusedVariables false
set_option linter.unusedSimpArgs false
namespace Go.Proofs.Ytkefdpgmelndaaa
open Go.RowKit

theorem mem_bitsTo {v k j : Nat} : j ∈ bitsTo v k ↔ j < k ∧ v.testBit j = true := by unfold bitsTo; rw [List.mem_filter, List.mem_range]
theorem fits_pow {v : Nat} (hv : v < 18446744073709551616) {n : Nat} (hn : n ≤ 64) : fitsB v n = decide (v < 2 ^ n) := by
  by_cases h : v < 2 ^ n
  · rw [decide_eq_true h]
    unfold fitsB
    refine List.all_eq_true.2 fun j hj => ?_
    obtain ⟨h1, h2⟩ := mem_bitsTo.1 hj
    refine decide_eq_true ?_
    by_cases hjn : j < n
    · omega
    · exfalso
      have h3 : v < 2 ^ j := Nat.lt_of_lt_of_le h (Nat.pow_le_pow_right (by omega) (by omega))
      rw [Nat.testBit_lt_two_pow h3] at h2; cases h2
  · rw [decide_eq_false h]
    cases hf : fitsB v n with
    | false => rfl
    | true =>
      exfalso
      refine h (Nat.lt_pow_two_of_testBit v fun i hi => ?_)
      cases hb : v.testBit i with
      | false => rfl
      | true =>
        exfalso
        by_cases hi64 : i < 64
        · have := List.all_eq_true.1 hf i (mem_bitsTo.2 ⟨hi64, hb⟩)
          simp at this; omega
        · have h3 : v < 2 ^ i := Nat.lt_of_lt_of_le hv (by
            have := Nat.pow_le_pow_right (n := 2) (by omega) (show 64 ≤ i by omega)
            exact Nat.le_trans (by decide) this)
          rw [Nat.testBit_lt_two_pow h3] at hb; cases hb
theorem u64V_nn {x : Int} (h0 : 0 ≤ x) (h1 : x ≤ 9223372036854775807) : ((u64V x : Nat) : Int) = x := by
  unfold u64V
  rw [Int.emod_eq_of_lt h0 (by omega)]; omega
theorem may_eq (c : CapT) (hg : c.guard ≤ 9223372036854775807) : rmayB c = mayC c := by
  unfold rmayB mayC
  split
  · rfl
  split
  · rw [Bool.and_comm]
  split
  · unfold nodeB
    by_cases k1 : 0 ≤ c.bits
    case neg => rw [decide_eq_false k1]; simp
    by_cases k2 : c.bits ≤ 12
    case neg => rw [decide_eq_false k2]; simp
    by_cases k3 : 0 ≤ c.guard
    case neg => rw [decide_eq_false k3]; simp
    have e : fitsB (u64V c.guard) c.bits = decide (c.guard < powI c.bits) := by
      obtain ⟨n, hn⟩ : ∃ n : Nat, c.bits = (n : Nat) := ⟨c.bits.toNat, by omega⟩
      rw [hn, fits_pow (u64V_lt _) (by omega)]
      unfold powI
      rw [Int.toNat_natCast]
      have h1 := u64V_nn k3 hg
      have h2 : ((2 ^ n : Nat) : Int) = (2 : Int) ^ n := by simp
      apply decide_eq_decide.2
      rw [← h2]
      constructor
      · intro h; omega
      · intro h; omega
    rw [e, decide_eq_true k1, decide_eq_true k2, decide_eq_true k3]
    cases inObj c.obj <;> cases eqC c (only2 c) <;> simp
  split
  · have e : (placedB c || (decide (c.serial = 0) && decide (c.page = 0))) = (noneB c || someB c) := by
      unfold placedB noneB someB
      have : decide (c.page ≤ 511) = decide (c.page < 512) := decide_eq_decide.2 ⟨fun h => by omega, fun h => by omega⟩
      rw [this, Bool.or_comm, Bool.and_assoc]
    unfold frameB
    rw [e]
    cases inObj c.obj <;> cases eqC c (only3 c) <;> simp [Bool.and_assoc]
  split
  · unfold endB
    cases inObj c.obj <;> cases eqC c (only8 c) <;> simp [Bool.and_assoc]
  · rfl
abbrev capZ' : CapT := ⟨0, 0, 0, 0, 0, 0, 0, 0⟩
theorem may_zero {c : CapT} (h : mayC c = true) (hk : c.kind = 0) : c = capZ' := by
  unfold mayC at h
  rw [if_pos (.inl hk)] at h
  have := eqC_iff.1 h
  rw [this]
  show (⟨c.kind, 0, 0, 0, 0, 0, 0, 0⟩ : CapT) = capZ'
  rw [hk]
end Go.Proofs.Ytkefdpgmelndaaa
