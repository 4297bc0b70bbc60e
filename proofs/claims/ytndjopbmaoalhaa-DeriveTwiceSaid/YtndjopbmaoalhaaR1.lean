import Derived.Test.YtndjopbmaoalhaaC3
import Derived.Deep.QuietTactic
import Derived.BigQuiet
set_option linter.unusedVariables false
set_option linter.unusedSimpArgs false
namespace Go.Proofs.Ytndjopbmaoalhaa
open Go.RowKit Go.Shelf
attribute [local go_sem ↓] run_eql_cap

theorem obj_any (n : Int) (w : World) : Calls Try.prog 40 #[.int .i64 n] w fun e w' => e = .returned (.bool (inB 1 n 65535)) ∧ w' = w := by
  go_enter Try.func40, Try.ntmps40
  go_wp2
  all_goals go_ret
  · rename_i h; exact ⟨by simp [inB, h], rfl⟩
  · rename_i h; exact ⟨by simp [inB]; omega, rfl⟩
theorem rfmay_any (n : Int) (w : World) : Calls Try.prog 33 #[.int .i64 n] w fun e w' => e = .returned (.bool (inB 0 n 7)) ∧ w' = w := by
  go_enter Try.func33, Try.ntmps33
  go_wp2
  all_goals go_ret
  · rename_i h; exact ⟨by simp [inB, h], rfl⟩
  · rename_i h; exact ⟨by simp [inB]; omega, rfl⟩
theorem pow_any (n : Nat) (w : World) (hn : n ≤ 12) : Calls Try.prog 41 #[.int .i64 n] w fun e w' => e = .returned (.int .i64 ((2 ^ n : Nat) : Int)) ∧ w' = w := by
  go_enter Try.func41, Try.ntmps41
  go_wp2
  go_loop [3, 4] (fun v3 v4 => ∃ k : Nat, k ≤ n ∧ v4 = .int .i64 k ∧ v3 = .int .i64 ((2 ^ k : Nat) : Int)) (fun _ v4 => n - (intOf v4).toNat)
  case atStart => exact ⟨0, Nat.zero_le _, rfl, rfl⟩
  case round =>
    obtain ⟨k, hk, rfl, rfl⟩ := hrel
    have hp : 2 ^ k ≤ 2 ^ 12 := Nat.pow_le_pow_right (by decide) (by omega)
    have hp1 : 2 ^ 12 = 4096 := by decide
    rw [hp1] at hp
    clear hp1
    by_cases hlt : k < n
    · have h2 := Lib.hid (show ((2 ^ (k + 1) : Nat) : Int) = ((2 ^ k : Nat) : Int) * 2 by rw [Nat.pow_succ]; simp)
      generalize 2 ^ k = m at *
      go_wp2
      go_round
      case rel => exact ⟨k + 1, by omega, by go_num, by rw [h2.out]⟩
      case measure => simp [intOf]; omega
    · obtain rfl : k = n := by omega
      generalize hm : 2 ^ k = m at *
      have Hm := Lib.hid hm
      clear hm
      go_wp2
      go_ret
      exact ⟨by show Ending.returned (.int .i64 ((m : Nat) : Int)) = _; rw [← Hm.out]; simp, rfl⟩
end Go.Proofs.Ytndjopbmaoalhaa
