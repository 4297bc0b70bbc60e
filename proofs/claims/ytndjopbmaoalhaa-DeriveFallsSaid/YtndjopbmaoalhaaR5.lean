import Derived.Test.YtndjopbmaoalhaaR1
import Derived.Test.YtndjopbmaoalhaaC7
set_option linter.unusedVariables false
set_option linter.unusedSimpArgs false
namespace Go.Proofs.Ytndjopbmaoalhaa
open Go.RowKit Go.Shelf

def maskI (a b : Int) : Int := if inB 0 a 7 && inB 0 b 7 then ((a.toNat &&& b.toNat : Nat) : Int) else 0
theorem and_small : ∀ a b : Fin 8, bits BinOp.and IntKind.i64 (a.val : Int) (b.val : Int) = ((a.val &&& b.val : Nat) : Int) := by decide +kernel
theorem mask_any (a b : Int) (w : World) : Calls Try.prog 32 #[.int .i64 a, .int .i64 b] w fun e w' => e = .returned (.int .i64 (maskI a b)) ∧ w' = w := by
  go_enter Try.func32, Try.ntmps32
  by_cases ha : inB 0 a 7 = true
  · by_cases hb : inB 0 b 7 = true
    · have h1 : 0 ≤ a ∧ a ≤ 7 := by simpa [inB] using ha
      have h2 : 0 ≤ b ∧ b ≤ 7 := by simpa [inB] using hb
      have Hm := Lib.hid (show bits BinOp.and IntKind.i64 a b = maskI a b by
        have := and_small ⟨a.toNat, by omega⟩ ⟨b.toNat, by omega⟩
        simp only [] at this
        rw [Int.toNat_of_nonneg h1.1, Int.toNat_of_nonneg h2.1] at this
        rw [this]; simp [maskI, ha, hb])
      clear h1 h2
      go_wp2_with (go_at_call 31; refine (rmay_any' _ _).mono ?_; rintro e w' ⟨rfl, rfl⟩)
      go_ret
      exact ⟨by rw [← Hm.out]; rfl, rfl⟩
    · rw [Bool.not_eq_true] at hb
      have Hm := Lib.hid (show maskI a b = 0 by simp [maskI, hb])
      go_wp2_with (go_at_call 31; refine (rmay_any' _ _).mono ?_; rintro e w' ⟨rfl, rfl⟩)
      go_ret
      exact ⟨by rw [Hm.out]; rfl, rfl⟩
  · rw [Bool.not_eq_true] at ha
    have Hm := Lib.hid (show maskI a b = 0 by simp [maskI, ha])
    go_wp2_with (go_at_call 31; refine (rmay_any' _ _).mono ?_; rintro e w' ⟨rfl, rfl⟩)
    go_ret
    exact ⟨by rw [Hm.out]; rfl, rfl⟩

def mT (a b : Int) : Nat → Int
  | 0 => 0
  | j + 1 => mT a b j + if a / 2 ^ j % 2 = 1 ∧ b / 2 ^ j % 2 = 1 then 2 ^ j else 0
theorem mT_succ (a b : Int) (j : Nat) : mT a b (j + 1) = mT a b j + if a / 2 ^ j % 2 = 1 ∧ b / 2 ^ j % 2 = 1 then 2 ^ j else 0 := rfl
theorem mT_small : ∀ a b : Fin 8, mT a.val b.val 3 = ((a.val &&& b.val : Nat) : Int) := by decide +kernel
theorem mT_bd (a b : Int) : ∀ j, 0 ≤ mT a b j ∧ mT a b j < 2 ^ j
  | 0 => by simp [mT]
  | j + 1 => by
    have := mT_bd a b j
    simp only [mT]
    rw [Int.pow_succ]
    split <;> omega

theorem rmask_any (a b : Int) (w : World) : Calls Try.prog 34 #[.int .i64 a, .int .i64 b] w fun e w' => e = .returned (.int .i64 (maskI a b)) ∧ w' = w := by
  go_enter Try.func34, Try.ntmps34
  by_cases ha : inB 0 a 7 = true
  · by_cases hb : inB 0 b 7 = true
    · have h1 : 0 ≤ a ∧ a ≤ 7 := by simpa [inB] using ha
      have h2 : 0 ≤ b ∧ b ≤ 7 := by simpa [inB] using hb
      have Hm := Lib.hid (show mT a b 3 = maskI a b by
        have := mT_small ⟨a.toNat, by omega⟩ ⟨b.toNat, by omega⟩
        simp only [] at this
        rw [Int.toNat_of_nonneg h1.1, Int.toNat_of_nonneg h2.1] at this
        rw [this]; simp [maskI, ha, hb])
      go_wp2_with (go_at_call 33; refine (rfmay_any _ _).mono ?_; rintro e w' ⟨rfl, rfl⟩)
      go_loop [5, 6] (fun v5 v6 => ∃ j : Nat, j ≤ 3 ∧ v6 = .int .i64 (2 ^ j) ∧ v5 = .int .i64 (mT a b j)) (fun _ v6 => (8 - intOf v6).toNat)
      case atStart => exact ⟨0, by omega, rfl, rfl⟩
      case round =>
        obtain ⟨j, hj, rfl, rfl⟩ := hrel
        have hmb := mT_bd a b j
        have hmc : mT a b j < 8 := Int.lt_of_lt_of_le hmb.2 (by have h : ∀ i : Fin 4, (2:Int) ^ i.val ≤ 8 := by decide
                                                                exact h ⟨j, by omega⟩)
        have hm0 := hmb.1
        generalize hx : mT a b j = x at *
        clear hmb
        match j, hj with
        | 0, _ =>
          have Hx := Lib.hid hx
          clear hx
          go_wp2
          all_goals
            go_round
            case rel => exact ⟨1, by omega, rfl, congrArg (Value.int .i64) (by have := Hx.out; rw [show mT a b 1 = mT a b (0 + 1) from rfl, mT_succ, this]; simp at *; omega)⟩
            case measure => simp [intOf]
        | 1, _ =>
          have Hx := Lib.hid hx
          clear hx
          go_wp2
          all_goals
            go_round
            case rel => exact ⟨2, by omega, rfl, congrArg (Value.int .i64) (by have := Hx.out; rw [show mT a b 2 = mT a b (1 + 1) from rfl, mT_succ, this]; simp at *; omega)⟩
            case measure => simp [intOf]
        | 2, _ =>
          have Hx := Lib.hid hx
          clear hx
          go_wp2
          all_goals
            go_round
            case rel => exact ⟨3, by omega, rfl, congrArg (Value.int .i64) (by have := Hx.out; rw [show mT a b 3 = mT a b (2 + 1) from rfl, mT_succ, this]; simp at *; omega)⟩
            case measure => simp [intOf]
        | 3, _ =>
          rw [Hm.out] at hx
          subst hx
          go_wp2
          go_ret
          exact ⟨rfl, rfl⟩
    · rw [Bool.not_eq_true] at hb
      have Hm := Lib.hid (show maskI a b = 0 by simp [maskI, hb])
      go_wp2_with (go_at_call 33; refine (rfmay_any _ _).mono ?_; rintro e w' ⟨rfl, rfl⟩)
      go_ret
      exact ⟨by rw [Hm.out]; rfl, rfl⟩
  · rw [Bool.not_eq_true] at ha
    have Hm := Lib.hid (show maskI a b = 0 by simp [maskI, ha])
    go_wp2_with (go_at_call 33; refine (rfmay_any _ _).mono ?_; rintro e w' ⟨rfl, rfl⟩)
    go_ret
    exact ⟨by rw [Hm.out]; rfl, rfl⟩
end Go.Proofs.Ytndjopbmaoalhaa
