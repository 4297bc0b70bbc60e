import Derived.Test.YtndjopbmaoalhaaC0
set_option linter.unusedVariables false
set_option linter.unusedSimpArgs false
namespace Go.Proofs.Ytndjopbmaoalhaa
open Go.RowKit Go.Shelf

theorem bcell {W w1 : World} (hb : Below W.heap.size W w1) : (∀ b o, b < W.heap.size → w1.cell? ⟨b, o, none⟩ = W.cell? ⟨b, o, none⟩) ∧ (∀ b o, b < W.heap.size → w1.frozen? ⟨b, o, none⟩ = W.frozen? ⟨b, o, none⟩) ∧ W.heap.size ≤ w1.heap.size :=
  ⟨fun b o h => hb.cell (p := ⟨b, o, none⟩) h, fun b o h => hb.frozen (p := ⟨b, o, none⟩) h, hb.size⟩
theorem wp_name {P : Program} {c : Code} {Q : Exit → Act → World → Prop} {a : Act} {w : World} (h : ∀ W0, Hid (W0 = w) → c.wp P Q a W0) : c.wp P Q a w := h w rfl
theorem body_ret_eq {P : Program} {fn : Func} {Q : World → Prop} {a : Act} {w : World} {v : Value} (hd : a.defers = []) (hr : (results fn a.tmps).run P w = .ok v w) (hQ : Q w) :
    bodyPost P fn (fun e w' => e = .returned v ∧ Q w') .ret a w := bodyPost_ret hr hd ⟨rfl, hQ⟩

theorem wmay_any (a n : Int) (w : World) (h0 : 0 ≤ a) (h1 : 1 ≤ n) (h2 : a + n ≤ 64) : Calls Try.prog 43 #[.int .i64 a, .int .i64 n] w fun e w' => e = .returned (.bool true) ∧ w' = w := by
  go_enter Try.func43, Try.ntmps43
  go_wp2
  all_goals go_ret
  exact ⟨rfl, rfl⟩

theorem ones_any (n : Nat) (w : World) (h1 : 1 ≤ n) (h2 : n ≤ 63) : Calls Try.prog 44 #[.int .i64 n] w fun e w' => e = .returned (.int .u64 ((2 ^ n - 1 : Nat) : Int)) ∧ w' = w := by
  have hp : 2 ^ n ≤ 2 ^ 63 := Nat.pow_le_pow_right (by decide) h2
  have hp0 : 1 ≤ 2 ^ n := Nat.one_le_two_pow
  have hi : IntKind.u64.wrap (IntKind.u64.wrap ((2 : Int) ^ n) - 1) = ((2 ^ n - 1 : Nat) : Int) := by
    have hc : ((2 : Int) ^ n) = ((2 ^ n : Nat) : Int) := by simp
    rw [hc]
    generalize 2 ^ n = q at *
    have hq : (2:Nat) ^ 63 = 9223372036854775808 := by decide
    rw [hq] at hp
    rw [IntWalk.u64_in ((q : Nat) : Int) (by omega), IntWalk.u64_in _ (by omega)]
    omega
  have Hi := Lib.hid hi
  clear hi hp hp0
  go_enter Try.func44, Try.ntmps44
  go_wp2
  go_ret
  exact ⟨by rw [← Hi.out]; rfl, rfl⟩

theorem field_any (x a n : Nat) (w : World) (hx : x < 18446744073709551616) (h1 : 1 ≤ n) (h2 : n ≤ 63) (h3 : a + n ≤ 64) : Calls Try.prog 42 #[.int .u64 x, .int .i64 a, .int .i64 n] w fun e w' => e = .returned (.tuple #[.int .u64 ((x / 2 ^ a % 2 ^ n : Nat) : Int), .int .i64 0]) ∧ w' = w := by
  have hi : bits BinOp.and IntKind.u64 ((x : Int) / 2 ^ a) ((2 ^ n - 1 : Nat) : Int) = ((x / 2 ^ a % 2 ^ n : Nat) : Int) := by
    have hp : 2 ^ n ≤ 2 ^ 63 := Nat.pow_le_pow_right (by decide) h2
    have hc : ((x : Int) / 2 ^ a) = ((x / 2 ^ a : Nat) : Int) := by simp
    have hd : x / 2 ^ a ≤ x := Nat.div_le_self _ _
    rw [hc, bits_and_u64_nat _ _ (by omega) (by omega), Nat.and_two_pow_sub_one_eq_mod]
  have Hi := Lib.hid hi
  clear hi
  go_enter Try.func42, Try.ntmps42
  go_wp2_with (first | (go_at_call 43; refine (wmay_any _ _ _ (by omega) (by omega) (by omega)).mono ?_; rintro e w' ⟨rfl, rfl⟩) | (go_at_call 44; refine (ones_any _ _ h1 h2).mono ?_; rintro e w' ⟨rfl, rfl⟩))
  go_ret2
  exact ⟨by rw [← Hi.out]; rfl, rfl⟩
end Go.Proofs.Ytndjopbmaoalhaa
