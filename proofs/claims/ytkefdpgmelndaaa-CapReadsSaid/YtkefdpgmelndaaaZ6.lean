/- Words of a capability: the plain law. -/
import Derived.Test.YtkefdpgmelndaaaZ5
set_option linter.unusedVariables false
set_option linter.unusedSimpArgs false
namespace Go.Proofs.Ytkefdpgmelndaaa
open Go.RowKit

theorem with_up {w at' n v : Nat} (h : w < 2 ^ at') : withN w at' n v = 2 ^ at' * v + w := by
  unfold withN
  rw [Nat.mod_eq_of_lt h, Nat.div_eq_of_lt (Nat.lt_of_lt_of_le h (Nat.pow_le_pow_right (by omega) (by omega)))]
  simp
theorem clr_add (w at' n : Nat) : withN w at' n 0 + 2 ^ at' * fieldN w at' n = w := by
  unfold withN fieldN
  have h1 := Nat.div_add_mod w (2 ^ at')
  have h2 := Nat.div_add_mod (w / 2 ^ at') (2 ^ n)
  rw [Nat.div_div_eq_div_mul, ← Nat.pow_add] at h2
  have h3 : 2 ^ at' * (2 ^ n * (w / 2 ^ (at' + n)) + w / 2 ^ at' % 2 ^ n) + w % 2 ^ at' = w := by rw [h2, h1]
  rw [Nat.mul_add] at h3
  rw [Nat.add_zero]; omega
theorem clr_field {w at' n a2 n2 : Nat} (h : at' + n ≤ a2) : fieldN (withN w at' n 0) a2 n2 = fieldN w a2 n2 := by
  unfold fieldN withN
  congr 1
  obtain ⟨d, rfl⟩ : ∃ d, a2 = (at' + n) + d := ⟨a2 - (at' + n), by omega⟩
  have e : 2 ^ at' * (2 ^ n * (w / 2 ^ (at' + n)) + 0) + w % 2 ^ at' = 2 ^ (at' + n) * (w / 2 ^ (at' + n)) + w % 2 ^ at' := by
    rw [Nat.add_zero, ← Nat.mul_assoc, ← Nat.pow_add]
  have hlt : w % 2 ^ at' < 2 ^ (at' + n) := Nat.lt_of_lt_of_le (Nat.mod_lt _ (Nat.two_pow_pos _)) (Nat.pow_le_pow_right (by omega) (by omega))
  rw [e, Nat.pow_add 2 (at' + n) d, ← Nat.div_div_eq_div_mul, ← Nat.div_div_eq_div_mul, Nat.mul_add_div (Nat.two_pow_pos _), Nat.div_eq_of_lt hlt, Nat.add_zero]
/-- the document's words -/
def rw0 (c : CapT) : Nat := (c.kind + 16 * c.rights + 256 * c.obj + 16777216 * c.page + 1099511627776 * c.serial).toNat
def rw1 (c : CapT) : Nat := (c.badge + 16777216 * c.guard + 68719476736 * c.bits).toNat
theorem words_eq {c : CapT} (h : CapG c) : wordsC c = [rw0 c, rw1 c] := by
  obtain ⟨h1, h2, h3, h4, h5, h6, h7, h8⟩ := h
  obtain ⟨k, o, r, b, g, i, s, p⟩ := c
  simp only at h1 h2 h3 h4 h5 h6 h7 h8
  obtain ⟨k, rfl⟩ : ∃ x : Nat, k = (x : Nat) := ⟨k.toNat, by omega⟩
  obtain ⟨o, rfl⟩ : ∃ x : Nat, o = (x : Nat) := ⟨o.toNat, by omega⟩
  obtain ⟨r, rfl⟩ : ∃ x : Nat, r = (x : Nat) := ⟨r.toNat, by omega⟩
  obtain ⟨b, rfl⟩ : ∃ x : Nat, b = (x : Nat) := ⟨b.toNat, by omega⟩
  obtain ⟨g, rfl⟩ : ∃ x : Nat, g = (x : Nat) := ⟨g.toNat, by omega⟩
  obtain ⟨i, rfl⟩ : ∃ x : Nat, i = (x : Nat) := ⟨i.toNat, by omega⟩
  obtain ⟨s, rfl⟩ : ∃ x : Nat, s = (x : Nat) := ⟨s.toNat, by omega⟩
  obtain ⟨p, rfl⟩ : ∃ x : Nat, p = (x : Nat) := ⟨p.toNat, by omega⟩
  have e0 : (encTo ⟨k, o, r, b, g, i, s, p⟩ FL).1 = withN (withN (withN (withN (withN 0 0 4 k) 4 3 r) 8 16 o) 24 9 p) 40 24 s := by
    simp [encTo, FL, encStep, fvN, fvI]
  have e1 : (encTo ⟨k, o, r, b, g, i, s, p⟩ FL).2 = withN (withN (withN 0 0 24 b) 24 12 g) 36 4 i := by
    simp [encTo, FL, encStep, fvN, fvI]
  unfold wordsC
  rw [e0, e1, with_up (w := 0) (by omega), with_up (at' := 4) (by omega), with_up (at' := 8) (by omega), with_up (at' := 24) (by omega), with_up (at' := 40) (by omega), with_up (w := 0) (by omega), with_up (at' := 24) (by omega), with_up (at' := 36) (by omega)]
  unfold rw0 rw1
  simp only
  congr 1
  · omega
  · congr 1; omega
/-- two words' capability -/
def capN (a b : Nat) : CapT := ⟨((a % 16 : Nat) : Int), ((a / 256 % 65536 : Nat) : Int), ((a / 16 % 8 : Nat) : Int), ((b % 16777216 : Nat) : Int), ((b / 16777216 % 4096 : Nat) : Int), ((b / 68719476736 % 16 : Nat) : Int), ((a / 1099511627776 : Nat) : Int), ((a / 16777216 % 512 : Nat) : Int)⟩
theorem capN_rng {a b : Nat} (ha : a < 18446744073709551616) : CapG (capN a b) := by
  unfold capN
  constructor <;> simp only <;> omega
theorem f_a0 {a n : Nat} : fieldN a 0 n = a % 2 ^ n := by show a / 1 % 2 ^ n = _; rw [Nat.div_one]
theorem f_a4 {a : Nat} : fieldN a 4 3 = a / 16 % 8 := rfl
theorem f_a8 {a : Nat} : fieldN a 8 16 = a / 256 % 65536 := rfl
theorem f_a24 {a : Nat} : fieldN a 24 9 = a / 16777216 % 512 := rfl
theorem f_a24' {a : Nat} : fieldN a 24 12 = a / 16777216 % 4096 := rfl
theorem f_a36 {a : Nat} : fieldN a 36 4 = a / 68719476736 % 16 := rfl
theorem f_a40 {a : Nat} (ha : a < 18446744073709551616) : fieldN a 40 24 = a / 1099511627776 := by
  show a / 1099511627776 % 16777216 = _
  omega
theorem left_aux {a x1 x2 x3 x4 x5 q1 q2 q3 q4 q5 : Nat} (c1 : x1 + q1 = a) (c2 : x2 + 16 * q2 = x1) (c3 : x3 + 256 * q3 = x2) (c4 : x4 + 16777216 * q4 = x3) (c5 : x5 + 1099511627776 * q5 = x4) : x5 = 0 ↔ q1 + 16 * q2 + 256 * q3 + 16777216 * q4 + 1099511627776 * q5 = a := by omega
theorem left_aux2 {b y1 y2 y3 q1 q2 q3 : Nat} (d1 : y1 + q1 = b) (d2 : y2 + 16777216 * q2 = y1) (d3 : y3 + 68719476736 * q3 = y2) : y3 = 0 ↔ q1 + 16777216 * q2 + 68719476736 * q3 = b := by omega
theorem toNat5 (q1 q2 q3 q4 q5 : Nat) : ((q1 : Int) + 16 * (q2 : Int) + 256 * (q3 : Int) + 16777216 * (q4 : Int) + 1099511627776 * (q5 : Int)).toNat = q1 + 16 * q2 + 256 * q3 + 16777216 * q4 + 1099511627776 * q5 := by omega
theorem toNat3 (q1 q2 q3 : Nat) : ((q1 : Int) + 16777216 * (q2 : Int) + 68719476736 * (q3 : Int)).toNat = q1 + 16777216 * q2 + 68719476736 * q3 := by omega
theorem dTo_cap {a b : Nat} (ha : a < 18446744073709551616) : (dTo a b FL).2 = capN a b := by
  have e : (dTo a b FL).2 = ⟨(fieldN a 0 4 : Nat), (fieldN a 8 16 : Nat), (fieldN a 4 3 : Nat), (fieldN b 0 24 : Nat), (fieldN b 24 12 : Nat), (fieldN b 36 4 : Nat), (fieldN a 40 24 : Nat), (fieldN a 24 9 : Nat)⟩ := by
    simp [dTo, FL, dStep, setF, srcN]
  rw [e, f_a0, f_a8, f_a4, f_a0, f_a24', f_a36, f_a40 ha, f_a24]
  rfl
theorem dTo_left {a b : Nat} (ha : a < 18446744073709551616) : (dTo a b FL).1 = (0, 0) ↔ rw0 (capN a b) = a ∧ rw1 (capN a b) = b := by
  have e : (dTo a b FL).1 = (withN (withN (withN (withN (withN a 0 4 0) 4 3 0) 8 16 0) 24 9 0) 40 24 0, withN (withN (withN b 0 24 0) 24 12 0) 36 4 0) := by
    simp [dTo, FL, dStep]
  rw [e]
  obtain ⟨x1, hx1⟩ : ∃ x, withN a 0 4 0 = x := ⟨_, rfl⟩
  obtain ⟨x2, hx2⟩ : ∃ x, withN x1 4 3 0 = x := ⟨_, rfl⟩
  obtain ⟨x3, hx3⟩ : ∃ x, withN x2 8 16 0 = x := ⟨_, rfl⟩
  obtain ⟨x4, hx4⟩ : ∃ x, withN x3 24 9 0 = x := ⟨_, rfl⟩
  obtain ⟨x5, hx5⟩ : ∃ x, withN x4 40 24 0 = x := ⟨_, rfl⟩
  obtain ⟨y1, hy1⟩ : ∃ x, withN b 0 24 0 = x := ⟨_, rfl⟩
  obtain ⟨y2, hy2⟩ : ∃ x, withN y1 24 12 0 = x := ⟨_, rfl⟩
  obtain ⟨y3, hy3⟩ : ∃ x, withN y2 36 4 0 = x := ⟨_, rfl⟩
  rw [hx1, hx2, hx3, hx4, hx5, hy1, hy2, hy3]
  have c1 := clr_add a 0 4
  have c2 := clr_add x1 4 3
  have c3 := clr_add x2 8 16
  have c4 := clr_add x3 24 9
  have c5 := clr_add x4 40 24
  have d1 := clr_add b 0 24
  have d2 := clr_add y1 24 12
  have d3 := clr_add y2 36 4
  have f2 : fieldN x1 4 3 = fieldN a 4 3 := by rw [← hx1]; exact clr_field (by omega)
  have f3 : fieldN x2 8 16 = fieldN a 8 16 := by rw [← hx2, ← hx1, clr_field (by omega), clr_field (by omega)]
  have f4 : fieldN x3 24 9 = fieldN a 24 9 := by rw [← hx3, ← hx2, ← hx1, clr_field (by omega), clr_field (by omega), clr_field (by omega)]
  have f5 : fieldN x4 40 24 = fieldN a 40 24 := by rw [← hx4, ← hx3, ← hx2, ← hx1, clr_field (by omega), clr_field (by omega), clr_field (by omega), clr_field (by omega)]
  have g2 : fieldN y1 24 12 = fieldN b 24 12 := by rw [← hy1]; exact clr_field (by omega)
  have g3 : fieldN y2 36 4 = fieldN b 36 4 := by rw [← hy2, ← hy1, clr_field (by omega), clr_field (by omega)]
  rw [hx1] at c1
  rw [hx2, f2] at c2
  rw [hx3, f3] at c3
  rw [hx4, f4] at c4
  rw [hx5, f5] at c5
  rw [hy1] at d1
  rw [hy2, g2] at d2
  rw [hy3, g3] at d3
  have k0 : rw0 (capN a b) = fieldN a 0 4 + 16 * fieldN a 4 3 + 256 * fieldN a 8 16 + 16777216 * fieldN a 24 9 + 1099511627776 * fieldN a 40 24 := by
    rw [f_a0, f_a8, f_a4, f_a40 ha, f_a24]
    exact toNat5 _ _ _ _ _
  have k1 : rw1 (capN a b) = fieldN b 0 24 + 16777216 * fieldN b 24 12 + 68719476736 * fieldN b 36 4 := by
    rw [f_a0, f_a24', f_a36]
    exact toNat3 _ _ _
  rw [k0, k1, Prod.mk.injEq]
  have e0 := left_aux (a := a) (by rw [← c1, Nat.pow_zero, Nat.one_mul]) c2 c3 c4 c5
  have e1 := left_aux2 (b := b) (by rw [← d1, Nat.pow_zero, Nat.one_mul]) d2 d3
  rw [e0, e1]
theorem decC_eq {a b : Nat} (ha : a < 18446744073709551616) : decC [a, b] = if (rw0 (capN a b) = a ∧ rw1 (capN a b) = b) ∧ mayC (capN a b) = true then (capN a b, 0) else (capZ', 5) := by
  show (if (dTo a b FL).1 = (0, 0) ∧ mayC (dTo a b FL).2 = true then ((dTo a b FL).2, (0 : Int)) else (capZ', 5)) = _
  rw [dTo_cap (b := b) ha]
  by_cases h : (dTo a b FL).1 = (0, 0)
  · simp only [h, (dTo_left ha).1 h, true_and, and_self]
  · simp only [h, false_and, if_false]
    rw [if_neg fun h2 => h ((dTo_left ha).2 h2.1)]
theorem rw0_lt {c : CapT} (h : CapG c) : rw0 c < 18446744073709551616 := by
  obtain ⟨h1, h2, h3, h4, h5, h6, h7, h8⟩ := h
  unfold rw0; omega
theorem rw1_lt {c : CapT} (h : CapG c) : rw1 c < 18446744073709551616 := by
  obtain ⟨h1, h2, h3, h4, h5, h6, h7, h8⟩ := h
  unfold rw1; omega
theorem capN_rw {c : CapT} (h : CapG c) : capN (rw0 c) (rw1 c) = c := by
  obtain ⟨h1, h2, h3, h4, h5, h6, h7, h8⟩ := h
  obtain ⟨k, o, r, b, g, i, s, p⟩ := c
  simp only at h1 h2 h3 h4 h5 h6 h7 h8
  unfold capN rw0 rw1
  simp only [CapT.mk.injEq]
  refine ⟨?_, ?_, ?_, ?_, ?_, ?_, ?_, ?_⟩ <;> omega
/-- what was laid is read again -/
theorem dec_enc {c : CapT} (h : CapG c) (hM : mayC c = true) : decC (wordsC c) = (c, 0) := by
  rw [words_eq h, decC_eq (rw0_lt h), capN_rw h, if_pos ⟨⟨rfl, rfl⟩, hM⟩]
end Go.Proofs.Ytkefdpgmelndaaa
