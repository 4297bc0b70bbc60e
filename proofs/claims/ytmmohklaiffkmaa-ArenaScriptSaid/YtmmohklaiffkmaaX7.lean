/- Shifts and bits; slices made. Laws of my own, no program's. -/
import Derived.Test.YtmmohklaiffkmaaX5
set_option linter.unusedVariables false
set_option linter.unusedSimpArgs false
namespace Go.Proofs.Ytmmohklaiffkmaa
open Go.RowKit

section
variable {P : Program} {ro : Option Nat} {N : Nat} {fr : Fr} {R l : List Chunk} {d : Option Nat} {ty t t2 : TypeId} {pos : String} {aft : Array Edge} {g : Option (Nat × Bool)} {x y : Operand} {k k' : IntKind} {i : Int} {n a b : Nat}
theorem q_shr (hx : ev fr x = some (.int k i)) (hy : ev fr y = some (.int k' (n : Nat))) (hn : n ≤ k.bits) : OpQ P ro N fr R ⟨d, .binOp .shr t x y t2, ty, pos, aft, g⟩ (.int k (i / 2 ^ n)) :=
  q_bin hx hy (fun _ _ => eqGuard_int _ _ _ _ _) (by
    have h1 : ¬ ((n : Nat) : Int) < 0 := by omega
    have h2 : i.fdiv (2 ^ n) = i / 2 ^ n := Int.fdiv_eq_ediv_of_nonneg _ (by have : (0 : Int) ≤ ((2 ^ n : Nat) : Int) := Int.natCast_nonneg _; simpa using this)
    simp only [binOp, Op.shift, if_neg h1, Int.toNat_natCast, Nat.min_eq_left hn, h2])
theorem q_shl (hx : ev fr x = some (.int k i)) (hy : ev fr y = some (.int k' (n : Nat))) (hn : n ≤ k.bits) : OpQ P ro N fr R ⟨d, .binOp .shl t x y t2, ty, pos, aft, g⟩ (.int k (k.wrap (i * 2 ^ n))) :=
  q_bin hx hy (fun _ _ => eqGuard_int _ _ _ _ _) (by
    have h1 : ¬ ((n : Nat) : Int) < 0 := by omega
    simp only [binOp, Op.shift, if_neg h1, Int.toNat_natCast, Nat.min_eq_left hn])
theorem wrapN {a : Nat} (h : a < 18446744073709551616) : IntKind.u64.wrap (a : Int) = (a : Int) := by
  simp [IntKind.wrap, IntKind.signed, IntKind.bits]; omega
theorem q_and (hx : ev fr x = some (.int .u64 (a : Nat))) (hy : ev fr y = some (.int .u64 (b : Nat))) (ha : a < 18446744073709551616) (hb : b < 18446744073709551616) : OpQ P ro N fr R ⟨d, .binOp .and t x y t2, ty, pos, aft, g⟩ (.int .u64 ((a &&& b : Nat) : Int)) :=
  q_bin hx hy (fun _ _ => eqGuard_int _ _ _ _ _) (by
    have e1 : (BitVec.ofInt IntKind.u64.bits ((a : Nat) : Int)).toNat = a := by
      show (BitVec.ofInt 64 ((a : Nat) : Int)).toNat = a
      rw [BitVec.ofInt_natCast, BitVec.toNat_ofNat, Nat.mod_eq_of_lt ha]
    have e2 : (BitVec.ofInt IntKind.u64.bits ((b : Nat) : Int)).toNat = b := by
      show (BitVec.ofInt 64 ((b : Nat) : Int)).toNat = b
      rw [BitVec.ofInt_natCast, BitVec.toNat_ofNat, Nat.mod_eq_of_lt hb]
    simp only [binOp, Op.intBits, BitVec.toNat_and, e1, e2]
    rw [wrapN (Nat.lt_of_le_of_lt Nat.and_le_left ha)]
    rfl)
theorem row_zeros {zv : Value} {zs : List Value} {n k : Nat} (hzv : zv.cells = List.toArray zs) (hzs : zs.length = k) (hk : 0 < n * k) : (Array.range (n * k)).map (fun j => zv.cells[j % zv.cells.size]!) = List.toArray (List.replicate n zs).flatten := by
  have hk0 : 0 < k := Nat.pos_of_ne_zero fun e => by subst e; simp at hk
  apply Array.toList_inj.1
  apply List.ext_getElem?
  intro j
  rw [hzv]
  have hl : (List.replicate n zs).flatten.length = n * k := by simp [hzs]
  by_cases hj : j < n * k
  · have : (List.replicate n zs).flatten[j]? = zs[j % k]? := by
      clear hl hk hk0
      induction n generalizing j with
      | zero => omega
      | succ n ih =>
        rw [List.replicate_succ, List.flatten_cons]
        by_cases hjk : j < k
        · rw [List.getElem?_append_left (by omega), Nat.mod_eq_of_lt hjk]
        · rw [List.getElem?_append_right (by omega), hzs, ih (j - k) (by have := Nat.succ_mul n k; simp only [Nat.succ_eq_add_one] at this; omega), ← Nat.mod_eq_sub_mod (by omega)]
    simp only [Array.toList_map, Array.toList_range, List.getElem?_map, List.getElem?_range hj, Option.map_some]
    rw [this]
    have hlt : j % k < zs.length := by rw [hzs]; exact Nat.mod_lt _ hk0
    simp [hzs, List.getElem?_eq_getElem hlt, List.getElem!_eq_getElem?_getD]
  · rw [List.getElem?_eq_none (by simp; omega), List.getElem?_eq_none (by rw [hl]; omega)]
theorem e_makeSlice {T e kk yb : Nat} {zs : List Value} {xs : List Value} (hx : ev fr x = some (.int .i64 (n : Nat))) [c : ST P T e kk yb] [cz : ZV P e zs] (hzs : zs.length = kk) (hk : 0 < n * kk) (hn : n ≤ 1000000) (hby : yb ≤ 1000) (hxs : xs = (List.replicate n zs).flatten) :
    OpE P ro N fr l ⟨d, .makeSlice T x x, ty, pos, aft, g⟩ (fun v' l' => ∃ b, (∀ c, c ∈ l → c.1 ≠ b) ∧ v' = .slice (some ⟨b, 0, none⟩) n n ∧ l' = (b, .cells (List.toArray xs) e (0, 0)) :: l) := opE_of_sl rfl fun ρ hρ => by
  subst hxs
  obtain ⟨inf, u1, u2, u3, u4⟩ := stV_spec c.out
  obtain ⟨inf', zv, z1, z2, z3⟩ := zvV_spec cz.out
  rw [u2] at z1; cases z1
  simp only [execOp, hρ x _ hx]
  unfold Instr.makeSlice
  rw [sl_bind, sl_under u1]
  have hw : IntKind.i64.wrap ((n : Nat) : Int) = n := i64_in _ ⟨by omega, by omega⟩
  have hb : inf.bytes * n ≤ 1000000000 := by
    rw [u4]; exact Nat.le_trans (Nat.mul_le_mul hby hn) (by omega)
  have hb2 : ((inf.bytes : Nat) : Int) * ((n : Nat) : Int) ≤ 1000000000 := by rw [← Int.natCast_mul]; omega
  simp only [asInt, asIntOf, pure_bind, hw]
  rw [sl_info u2]
  have ht : (decide (((n : Nat) : Int) < 0) || decide (((inf.bytes : Nat) : Int) * ((n : Nat) : Int) > 2 ^ 48)) = false := by
    rw [decide_eq_false (by omega), decide_eq_false (by omega)]; rfl
  simp only [ht, Bool.false_or]
  rw [show (decide (((n : Nat) : Int) < 0) || decide (((n : Nat) : Int) > ((n : Nat) : Int))) = false by rw [decide_eq_false (by omega), decide_eq_false (by omega)]; rfl]
  simp only [Bool.false_eq_true, if_false, Int.toNat_natCast]
  unfold askRoom roomBytes
  have hr : n * inf.bytes ≤ 1000000000 := by rw [Nat.mul_comm]; exact hb
  rw [if_neg (by omega), sl_bind, sl_pure, sl_sizeOf u2, u3]
  have hk1 : ¬ n * kk = 0 := by omega
  simp only [hk1, if_false, zeroValue, sl_bind]
  rw [← sl_bind, sl_info u2, z2]
  simp only [sl_pure]
  have hzv : zv.cells = List.toArray zs := by rw [← z3]
  rw [row_zeros hzv hzs hk]
  simp only [newRow, sl_bind]
  intro b hb
  exact ⟨b, hb, rfl, rfl⟩
end
end Go.Proofs.Ytmmohklaiffkmaa
