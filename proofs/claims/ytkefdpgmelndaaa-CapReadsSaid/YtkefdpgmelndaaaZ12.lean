/- Slices made with room; append in place. Laws of my own, no program's. LendWords, KeptWords. -/
import Derived.Test.YtkefdpgmelndaaaZ11
set_option linter.unusedVariables false
set_option linter.unusedSimpArgs false
namespace Go.Proofs.Ytkefdpgmelndaaa
open Go.RowKit

section
variable {P : Program} {ro : Option Nat} {N : Nat} {fr : Fr} {R l : List Chunk} {d : Option Nat} {ty : TypeId} {pos : String} {aft : Array Edge} {g : Option (Nat × Bool)} {x y s : Operand} {off b : Nat}
/-- a slice made with more room than it has elements -/
theorem e_makeSliceC {T e kk yb n m : Nat} {zs : List Value} {xs : List Value} (hx : ev fr x = some (.int .i64 (n : Nat))) (hy : ev fr y = some (.int .i64 (m : Nat))) [c : ST P T e kk yb] [cz : ZV P e zs] (hzs : zs.length = kk) (hk : 0 < m * kk) (hnm : n ≤ m) (hn : m ≤ 1000000) (hby : yb ≤ 1000) (hxs : xs = (List.replicate m zs).flatten) :
    OpE P ro N fr l ⟨d, .makeSlice T x y, ty, pos, aft, g⟩ (fun v' l' => ∃ b, (∀ c, c ∈ l → c.1 ≠ b) ∧ v' = .slice (some ⟨b, 0, none⟩) n m ∧ l' = (b, .cells (List.toArray xs) e (0, 0)) :: l) := opE_of_sl rfl fun ρ hρ => by
  subst hxs
  obtain ⟨inf, u1, u2, u3, u4⟩ := stV_spec c.out
  obtain ⟨inf', zv, z1, z2, z3⟩ := zvV_spec cz.out
  rw [u2] at z1; cases z1
  simp only [execOp, hρ x _ hx, hρ y _ hy]
  unfold Instr.makeSlice
  rw [sl_bind, sl_under u1]
  have hw : IntKind.i64.wrap ((n : Nat) : Int) = n := i64_in _ ⟨by omega, by omega⟩
  have hw2 : IntKind.i64.wrap ((m : Nat) : Int) = m := i64_in _ ⟨by omega, by omega⟩
  have hb : inf.bytes * m ≤ 1000000000 := by
    rw [u4]; exact Nat.le_trans (Nat.mul_le_mul hby hn) (by omega)
  have hb2 : ((inf.bytes : Nat) : Int) * ((m : Nat) : Int) ≤ 1000000000 := by rw [← Int.natCast_mul]; omega
  simp only [asInt, asIntOf, pure_bind, hw, hw2]
  rw [sl_info u2]
  have ht : (decide (((m : Nat) : Int) < 0) || decide (((inf.bytes : Nat) : Int) * ((m : Nat) : Int) > 2 ^ 48)) = false := by
    rw [decide_eq_false (by omega), decide_eq_false (by omega)]; rfl
  simp only [ht, Bool.false_or]
  rw [show (decide (((n : Nat) : Int) < 0) || decide (((n : Nat) : Int) > ((m : Nat) : Int))) = false by rw [decide_eq_false (by omega), decide_eq_false (by omega)]; rfl]
  simp only [Bool.false_eq_true, if_false, Int.toNat_natCast]
  unfold askRoom roomBytes
  have hr : m * inf.bytes ≤ 1000000000 := by rw [Nat.mul_comm]; exact hb
  rw [if_neg (by omega), sl_bind, sl_pure, sl_sizeOf u2, u3]
  have hk1 : ¬ m * kk = 0 := by omega
  simp only [hk1, if_false, zeroValue, sl_bind]
  rw [← sl_bind, sl_info u2, z2]
  simp only [sl_pure]
  have hzv : zv.cells = List.toArray zs := by rw [← z3]
  rw [row_zeros hzv hzs hk]
  simp only [newRow, sl_bind]
  intro b hb
  exact ⟨b, hb, rfl, rfl⟩
/-- append within the room -/
theorem e_appendIn {T e k yb n m cp gb cap : Nat} {xs news sp : List Value} {F : List Chunk} {cl : Array Value} {ct : TypeId} {fz : Nat × Nat} (hx : ev fr s = some (.slice (some ⟨gb, 0, none⟩) n cap)) (hy : ev fr x = some (.slice (some ⟨b, off, none⟩) m cp)) [c : ST P T e k yb]
    (hxs : xs.length = n * k) (hroom : n + m ≤ cap) (hcl : (xs ++ sp).length = cap * k) (hm : (b, Obj.cells cl ct fz) ∈ (gb, .cells (List.toArray (xs ++ sp)) e (0, 0)) :: F) (hnews : ∀ j u, news[j]? = some u → cl[off + j]? = some u) (hnl : news.length = m * k) (h1 : ∀ u ∈ news, u.oneCell' = true) :
    OpE P ro N fr ((gb, .cells (List.toArray (xs ++ sp)) e (0, 0)) :: F) ⟨d, .call { callee := .builtin .append, args := #[s, x], argTypes := #[T, T] }, ty, pos, aft, g⟩ (fun v' l' => v' = .slice (some ⟨gb, 0, none⟩) (n + m) cap ∧ l' = (gb, .cells (List.toArray (xs ++ news ++ sp.drop (m * k))) e (0, 0)) :: F) := by
  refine ⟨rfl, fun E a W hf hs => ?_⟩
  have hρ := hf.agrees
  obtain ⟨inf, u1, u2, u3, u4⟩ := stV_spec c.out
  have hex : execOp a.eval ⟨d, .call { callee := .builtin .append, args := #[s, x], argTypes := #[T, T] }, ty, pos, aft, g⟩ = (do pure (.value (← Builtin.append_ #[T, T] ty #[.slice (some ⟨gb, 0, none⟩) n cap, .slice (some ⟨b, off, none⟩) m cp])) : Sem Next) := by
    simp [execOp, resolve, hρ s _ hx, hρ x _ hy, invoke, builtin]
  unfold OpVal
  rw [hex, Sem.run_bind]
  have hnw : ∀ j u, news[j]? = some u → W.cell? ((⟨b, off, none⟩ : Addr).add j) = some u := fun j u hj => by rw [addr_add, hs.cell hm]; exact hnews j u hj
  have hn' : news.length = m * inf.size := by rw [u3]; exact hnl
  have hg := hs.has (gb, _) List.mem_cons_self
  have h4 : n * k + news.length ≤ cap * k := by rw [hnl, ← Nat.add_mul]; exact Nat.mul_le_mul_right _ hroom
  have hr := run_append_room (P := P) W T ty e inf u1 u2 gb n cap (List.toArray (xs ++ sp)) hg ⟨b, off, none⟩ m cp news hn' hnw h1 hroom (by
    rw [u3]
    simp only [List.size_toArray]
    rw [hcl]; exact h4)
  rw [hr]
  have e1 : (List.toArray (xs ++ sp)).toList.take (n * inf.size) = xs := by
    rw [u3, ← hxs]
    show (xs ++ sp).take xs.length = xs
    simp
  have e2 : (List.toArray (xs ++ sp)).toList.drop (n * inf.size + news.length) = sp.drop (m * k) := by
    rw [u3, ← hxs, hnl]
    show (xs ++ sp).drop (xs.length + m * k) = _
    rw [List.drop_append, List.drop_of_length_le (by omega)]
    simp
  rw [e1, e2]
  exact ⟨_, ⟨rfl, rfl⟩, hs.row⟩
/-- nothing is appended -/
theorem e_appendNo {T e k yb n gb cap cp : Nat} {p : Option Addr} (hx : ev fr s = some (.slice (some ⟨gb, 0, none⟩) n cap)) (hy : ev fr x = some (.slice p 0 cp)) [c : ST P T e k yb] (hn : n ≤ cap) :
    OpE P ro N fr l ⟨d, .call { callee := .builtin .append, args := #[s, x], argTypes := #[T, T] }, ty, pos, aft, g⟩ (fun v' l' => v' = .slice (some ⟨gb, 0, none⟩) n cap ∧ l' = l) := by
  refine ⟨rfl, fun E a W hf hs => ?_⟩
  have hρ := hf.agrees
  obtain ⟨inf, u1, u2, u3, u4⟩ := stV_spec c.out
  have hex : execOp a.eval ⟨d, .call { callee := .builtin .append, args := #[s, x], argTypes := #[T, T] }, ty, pos, aft, g⟩ = (do pure (.value (← Builtin.append_ #[T, T] ty #[.slice (some ⟨gb, 0, none⟩) n cap, .slice p 0 cp])) : Sem Next) := by
    simp [execOp, resolve, hρ s _ hx, hρ x _ hy, invoke, builtin]
  unfold OpVal
  rw [hex, Sem.run_bind]
  have hr : (Builtin.append_ #[T, T] ty #[.slice (some ⟨gb, 0, none⟩) n cap, .slice p 0 cp]).run P W = .ok (.slice (some ⟨gb, 0, none⟩) n cap) W := by
    cases p <;> simp [Builtin.append_, run_underlying u1, sizeOf, typeInfo, u2, Builtin.lenOf, Builtin.firstCells, hn, storeCells, loadCells, loadCellsFrom]
  rw [hr]
  exact ⟨_, ⟨rfl, rfl⟩, hs⟩
end
end Go.Proofs.Ytkefdpgmelndaaa
