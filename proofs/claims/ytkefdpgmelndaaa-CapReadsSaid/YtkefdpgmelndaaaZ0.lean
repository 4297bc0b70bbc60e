/- Bits: or, and not; a field of a word. Laws of my own, no program's. -/
import Derived.Test.YtkefdpgmelndaaaX7
set_option linter.unusedVariables false
set_option linter.unusedSimpArgs false
namespace Go.Proofs.Ytkefdpgmelndaaa
open Go.RowKit

section
variable {P : Program} {ro : Option Nat} {N : Nat} {fr : Fr} {R l : List Chunk} {d : Option Nat} {ty t t2 : TypeId} {pos : String} {aft : Array Edge} {g : Option (Nat × Bool)} {x y : Operand} {k k' : IntKind} {i : Int} {n a b : Nat}
theorem q_or (hx : ev fr x = some (.int .u64 (a : Nat))) (hy : ev fr y = some (.int .u64 (b : Nat))) (ha : a < 18446744073709551616) (hb : b < 18446744073709551616) : OpQ P ro N fr R ⟨d, .binOp .or t x y t2, ty, pos, aft, g⟩ (.int .u64 ((a ||| b : Nat) : Int)) :=
  q_bin hx hy (fun _ _ => eqGuard_int _ _ _ _ _) (by
    have e1 : (BitVec.ofInt IntKind.u64.bits ((a : Nat) : Int)).toNat = a := by
      show (BitVec.ofInt 64 ((a : Nat) : Int)).toNat = a
      rw [BitVec.ofInt_natCast, BitVec.toNat_ofNat, Nat.mod_eq_of_lt ha]
    have e2 : (BitVec.ofInt IntKind.u64.bits ((b : Nat) : Int)).toNat = b := by
      show (BitVec.ofInt 64 ((b : Nat) : Int)).toNat = b
      rw [BitVec.ofInt_natCast, BitVec.toNat_ofNat, Nat.mod_eq_of_lt hb]
    simp only [binOp, Op.intBits, BitVec.toNat_or, e1, e2]
    rw [wrapN (Nat.or_lt_two_pow (n := 64) ha hb)]
    rfl)
theorem q_andNot (hx : ev fr x = some (.int .u64 (a : Nat))) (hy : ev fr y = some (.int .u64 (b : Nat))) (ha : a < 18446744073709551616) (hb : b < 18446744073709551616) : OpQ P ro N fr R ⟨d, .binOp .andNot t x y t2, ty, pos, aft, g⟩ (.int .u64 ((a &&& (2 ^ 64 - (b + 1)) : Nat) : Int)) :=
  q_bin hx hy (fun _ _ => eqGuard_int _ _ _ _ _) (by
    have e1 : (BitVec.ofInt IntKind.u64.bits ((a : Nat) : Int)).toNat = a := by
      show (BitVec.ofInt 64 ((a : Nat) : Int)).toNat = a
      rw [BitVec.ofInt_natCast, BitVec.toNat_ofNat, Nat.mod_eq_of_lt ha]
    have e2 : (~~~ BitVec.ofInt IntKind.u64.bits ((b : Nat) : Int)).toNat = 2 ^ 64 - (b + 1) := by
      show (~~~ BitVec.ofInt 64 ((b : Nat) : Int)).toNat = _
      rw [BitVec.toNat_not, BitVec.ofInt_natCast, BitVec.toNat_ofNat, Nat.mod_eq_of_lt hb]; omega
    simp only [binOp, Op.intBits, BitVec.toNat_and, e1, e2]
    rw [wrapN (Nat.lt_of_le_of_lt Nat.and_le_left ha)]
    rfl)
end
/-- a word with n bits from at replaced by v -/
def withN (w at' n v : Nat) : Nat := 2 ^ at' * (2 ^ n * (w / 2 ^ (at' + n)) + v) + w % 2 ^ at'
def fieldN (w at' n : Nat) : Nat := w / 2 ^ at' % 2 ^ n
theorem ones_shl {at' n : Nat} (h : at' + n ≤ 64) : (2 ^ n - 1) * 2 ^ at' < 18446744073709551616 := by
  have h1 : 2 ^ n * 2 ^ at' ≤ 2 ^ 64 := by rw [← Nat.pow_add]; exact Nat.pow_le_pow_right (by omega) (by omega)
  have h2 : 0 < 2 ^ at' := Nat.two_pow_pos _
  have h3 : 0 < 2 ^ n := Nat.two_pow_pos _
  have h4 : (2 ^ n - 1) * 2 ^ at' < 2 ^ n * 2 ^ at' := Nat.mul_lt_mul_of_pos_right (by omega) h2
  exact Nat.lt_of_lt_of_le h4 h1
theorem val_shl {at' n v : Nat} (h : at' + n ≤ 64) (hv : v < 2 ^ n) : v * 2 ^ at' < 18446744073709551616 := by
  have h1 : (2 ^ n - 1) * 2 ^ at' < 18446744073709551616 := ones_shl h
  have h2 : v * 2 ^ at' ≤ (2 ^ n - 1) * 2 ^ at' := Nat.mul_le_mul_right _ (by omega)
  omega
theorem with_bits {w at' n v : Nat} (hv : v < 2 ^ n) (i : Nat) : (withN w at' n v).testBit i = if i < at' then w.testBit i else if i < at' + n then v.testBit (i - at') else w.testBit i := by
  unfold withN
  rw [Nat.testBit_two_pow_mul_add _ (Nat.mod_lt _ (Nat.two_pow_pos _))]
  split
  · rw [Nat.testBit_mod_two_pow]; simp [*]
  · rw [Nat.testBit_two_pow_mul_add _ hv]
    by_cases h : i < at' + n
    · rw [if_pos (by omega), if_pos h]
    · rw [if_neg (by omega), if_neg h, Nat.testBit_div_two_pow]
      congr 1; omega
theorem with_eq {w at' n v : Nat} (hw : w < 18446744073709551616) (h : at' + n ≤ 64) (hv : v < 2 ^ n) : (w &&& (2 ^ 64 - ((2 ^ n - 1) * 2 ^ at' + 1))) ||| v * 2 ^ at' = withN w at' n v := by
  apply Nat.eq_of_testBit_eq
  intro i
  rw [with_bits hv, Nat.testBit_or, Nat.testBit_and, Nat.testBit_two_pow_sub_succ (by exact ones_shl h), Nat.mul_comm _ (2 ^ at'), Nat.mul_comm _ (2 ^ at'), Nat.testBit_two_pow_mul, Nat.testBit_two_pow_mul, Nat.testBit_two_pow_sub_one]
  by_cases h1 : i < at'
  · rw [if_pos h1, decide_eq_false (show ¬ at' ≤ i by omega), decide_eq_true (show i < 64 by omega)]; simp
  · rw [if_neg h1, decide_eq_true (show at' ≤ i by omega)]
    by_cases h2 : i < at' + n
    · rw [if_pos h2, decide_eq_true (show i - at' < n by omega)]; simp
    · rw [if_neg h2, decide_eq_false (show ¬ i - at' < n by omega)]
      have h3 : v.testBit (i - at') = false := Nat.testBit_lt_two_pow (Nat.lt_of_lt_of_le hv (Nat.pow_le_pow_right (by omega) (by omega)))
      rw [h3]
      by_cases h4 : i < 64
      · rw [decide_eq_true h4]; simp
      · have : w.testBit i = false := Nat.testBit_lt_two_pow (Nat.lt_of_lt_of_le hw (by exact Nat.pow_le_pow_right (n := 2) (by omega) (show 64 ≤ i by omega)))
        rw [this]; simp
theorem with_lt {w at' n v : Nat} (hw : w < 18446744073709551616) (h : at' + n ≤ 64) (hv : v < 2 ^ n) : withN w at' n v < 18446744073709551616 := by
  rw [← with_eq hw h hv]
  exact Nat.or_lt_two_pow (n := 64) (Nat.lt_of_le_of_lt Nat.and_le_left hw) (val_shl h hv)
theorem field_eq {w at' n : Nat} : (w / 2 ^ at') &&& (2 ^ n - 1) = fieldN w at' n := Nat.and_two_pow_sub_one_eq_mod _ _
theorem field_lt {w at' n : Nat} : fieldN w at' n < 2 ^ n := Nat.mod_lt _ (Nat.two_pow_pos _)
end Go.Proofs.Ytkefdpgmelndaaa
