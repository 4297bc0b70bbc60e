import Derived.Test.YtndjopbmaoalhaaC4
import Derived.Test.YtndjopbmaoalhaaC5
import Derived.Test.YtndjopbmaoalhaaC6
set_option linter.unusedVariables false
set_option linter.unusedSimpArgs false
namespace Go.Proofs.Ytndjopbmaoalhaa
open Go.RowKit Go.Shelf
attribute [local go_sem ↓] run_eql_cap

theorem fitsB_iff (v : Nat) (n : Nat) (hv : v < 18446744073709551616) : fitsB v n = decide (v < 2 ^ n) := by
  rw [Bool.eq_iff_iff]
  simp only [fitsB, ones, onesTo, List.all_eq_true, List.mem_filter, List.mem_range, decide_eq_true_eq]
  constructor
  · intro h
    refine Nat.lt_pow_two_of_testBit _ fun i hi => ?_
    cases hb : v.testBit i
    · rfl
    · by_cases h64 : i < 64
      · have := h i ⟨h64, hb⟩; omega
      · have h2 : v < 2 ^ i := Nat.lt_of_lt_of_le (by omega : v < 2 ^ 64) (Nat.pow_le_pow_right (by decide) (by omega))
        rw [Nat.testBit_lt_two_pow h2] at hb; cases hb
  · rintro h i ⟨_, hb⟩
    by_cases hi : i < n
    · omega
    · have h2 : v < 2 ^ i := Nat.lt_of_lt_of_le h (Nat.pow_le_pow_right (by decide) (by omega))
      rw [Nat.testBit_lt_two_pow h2] at hb; cases hb

def Cap.okB (c : Cap) : Bool :=
  if c.kind = 0 ∨ c.kind = 7 then eq8 c.kind c.obj c.rights c.badge c.guard c.bits c.serial c.page c.kind 0 0 0 0 0 0 0
  else if c.kind = 1 ∨ c.kind = 4 ∨ c.kind = 5 ∨ c.kind = 6 ∨ c.kind = 9 then eq8 c.kind c.obj c.rights c.badge c.guard c.bits c.serial c.page c.kind c.obj 0 0 0 0 0 0 && inB 1 c.obj 65535
  else if c.kind = 2 then inB 0 c.bits 12 && decide (0 ≤ c.guard) && decide (c.guard.toNat < 2 ^ c.bits.toNat) && eq8 c.kind c.obj c.rights c.badge c.guard c.bits c.serial c.page c.kind c.obj 0 0 c.guard c.bits 0 0 && inB 1 c.obj 65535
  else if c.kind = 3 then inB 1 c.rights 3 && (placedB c.serial c.page || (c.serial == 0 && c.page == 0)) && eq8 c.kind c.obj c.rights c.badge c.guard c.bits c.serial c.page c.kind c.obj c.rights 0 0 0 c.serial c.page && inB 1 c.obj 65535
  else if c.kind = 8 then inB 0 c.rights 7 && decide (c.badge ≤ 16777215) && eq8 c.kind c.obj c.rights c.badge c.guard c.bits c.serial c.page c.kind c.obj c.rights c.badge 0 0 0 0 && inB 1 c.obj 65535
  else false
/-- the fields fit their kinds -/
structure Cap.Fit (c : Cap) : Prop where
  guard : c.guard ≤ 9223372036854775807
  badge : 0 ≤ c.badge ∧ c.badge < 18446744073709551616
@[reducible] def Cap.v (c : Cap) : Value := .agg #[.int .i64 c.kind, .int .i64 c.obj, .int .i64 c.rights, .int .u64 c.badge, .int .i64 c.guard, .int .i64 c.bits, .int .i64 c.serial, .int .i64 c.page]

set_option maxRecDepth 100000 in
set_option maxHeartbeats 1000000 in
theorem mayNo (k o r d g b s p : Int) (w : World) (hk : (k < 0 ∨ 9 < k)) :
    Calls Try.prog 18 #[.agg #[.int .i64 k, .int .i64 o, .int .i64 r, .int .u64 d, .int .i64 g, .int .i64 b, .int .i64 s, .int .i64 p]] w fun e w' => e = .returned (.bool false) ∧ Below w.heap.size w w' := by
  have t0 : (k == 0) = false := beq_eq_false_iff_ne.2 (by omega)
  have t1 : (k == 1) = false := beq_eq_false_iff_ne.2 (by omega)
  have t2 : (k == 2) = false := beq_eq_false_iff_ne.2 (by omega)
  have t3 : (k == 3) = false := beq_eq_false_iff_ne.2 (by omega)
  have t4 : (k == 4) = false := beq_eq_false_iff_ne.2 (by omega)
  have t5 : (k == 5) = false := beq_eq_false_iff_ne.2 (by omega)
  have t6 : (k == 6) = false := beq_eq_false_iff_ne.2 (by omega)
  have t7 : (k == 7) = false := beq_eq_false_iff_ne.2 (by omega)
  have t8 : (k == 8) = false := beq_eq_false_iff_ne.2 (by omega)
  have t9 : (k == 9) = false := beq_eq_false_iff_ne.2 (by omega)
  clear hk
  go_enter Try.func18, Try.ntmps18
  go_wp2
  go_ret
  exact ⟨rfl, by go_grown⟩

theorem may_any (c : Cap) (hc : c.Fit) (w : World) :
    Calls Try.prog 18 #[c.v] w fun e w' => e = .returned (.bool c.okB) ∧ Below w.heap.size w w' := by
  obtain ⟨k, o, r, d, g, b, s, p⟩ := c
  have hg := hc.guard
  dsimp only at hg
  by_cases h0 : k = 0 ∨ k = 7
  · have := may07 k o r d g b s p w h0
    rwa [show Cap.okB ⟨k, o, r, d, g, b, s, p⟩ = eq8 k o r d g b s p k 0 0 0 0 0 0 0 by simp only [Cap.okB]; rw [if_pos h0]]
  by_cases h1 : k = 1 ∨ k = 4 ∨ k = 5 ∨ k = 6 ∨ k = 9
  · have := may1 k o r d g b s p w h1
    rwa [show Cap.okB ⟨k, o, r, d, g, b, s, p⟩ = (eq8 k o r d g b s p k o 0 0 0 0 0 0 && inB 1 o 65535) by simp only [Cap.okB]; rw [if_neg h0, if_pos h1]]
  by_cases h2 : k = 2
  · subst h2
    have := may2 o r d g b s p w hg
    rwa [show Cap.okB ⟨2, o, r, d, g, b, s, p⟩ = may2B 2 o r d g b s p by
      simp only [Cap.okB, may2B]
      rw [if_neg h0, if_neg h1, if_pos trivial]
      cases hb : inB 0 b 12
      · simp
      · by_cases hg0 : 0 ≤ g
        · have hb' : 0 ≤ b := by simp [inB] at hb; omega
          obtain ⟨n, rfl⟩ := Int.eq_ofNat_of_zero_le hb'
          rw [fitsB_iff g.toNat n (by omega)]
          rw [Int.toNat_natCast]
          cases hd : decide (g.toNat < 2 ^ n) <;> simp [hg0]
        · simp [hg0]]
  by_cases h3 : k = 3
  · subst h3
    have := may3 o r d g b s p w
    rwa [show Cap.okB ⟨3, o, r, d, g, b, s, p⟩ = may3B 3 o r d g b s p by simp only [Cap.okB, may3B]; rw [if_neg h0, if_neg h1, if_neg h2, if_pos trivial]]
  by_cases h8 : k = 8
  · subst h8
    have := may8 o r d g b s p w
    rwa [show Cap.okB ⟨8, o, r, d, g, b, s, p⟩ = may8B 8 o r d g b s p by simp only [Cap.okB, may8B]; rw [if_neg h0, if_neg h1, if_neg h2, if_neg h3, if_pos trivial]]
  have := mayNo k o r d g b s p w (by omega)
  rwa [show Cap.okB ⟨k, o, r, d, g, b, s, p⟩ = false by simp only [Cap.okB]; rw [if_neg h0, if_neg h1, if_neg h2, if_neg h3, if_neg h8]]
end Go.Proofs.Ytndjopbmaoalhaa
