/- Rows of numbers told by a function. -/
import Derived.Test.YtmmohklaiffkmaaS10
set_option linter.unusedVariables false
set_option linter.unusedSimpArgs false
namespace Go.Proofs.Ytmmohklaiffkmaa
open Go.RowKit

def upd {α : Type} (f : Nat → α) (k : Nat) (v : α) : Nat → α := fun i => if i = k then v else f i
theorem upd_same {α : Type} (f : Nat → α) (k : Nat) (v : α) : upd f k v k = v := if_pos rfl
theorem upd_other {α : Type} (f : Nat → α) (k i : Nat) (v : α) (h : i ≠ k) : upd f k v i = f i := if_neg h
theorem upd_upd {α : Type} (f : Nat → α) (k : Nat) (v w : α) : upd (upd f k v) k w = upd f k w := by funext i; unfold upd; split <;> rfl
/-- f a, f (a + 1), .. (n of them) -/
def seqI (f : Nat → Int) (a n : Nat) : List Int := (List.range n).map fun j => f (a + j)
theorem seqI_len (f : Nat → Int) (a n : Nat) : (seqI f a n).length = n := by simp [seqI]
theorem seqI_succ (f : Nat → Int) (a n : Nat) : seqI f a (n + 1) = seqI f a n ++ [f (a + n)] := by simp [seqI, List.range_succ]
theorem seqI_cons (f : Nat → Int) (a n : Nat) : seqI f a (n + 1) = f a :: seqI f (a + 1) n := by
  simp only [seqI, List.range_succ_eq_map, List.map_cons, List.map_map, Nat.add_zero]
  congr 1
  apply List.map_congr_left
  intro j _
  simp only [Function.comp_apply]; congr 1; omega
theorem seqI_mem {f : Nat → Int} {a n : Nat} {x : Int} (h : x ∈ seqI f a n) : ∃ j, j < n ∧ x = f (a + j) := by
  simp only [seqI, List.mem_map, List.mem_range] at h
  obtain ⟨j, hj, e⟩ := h
  exact ⟨j, hj, e.symm⟩
theorem seqI_congr {f g : Nat → Int} {a n : Nat} (h : ∀ j, j < n → f (a + j) = g (a + j)) : seqI f a n = seqI g a n := by
  unfold seqI; apply List.map_congr_left; intro j hj; exact h j (List.mem_range.1 hj)
abbrev fLo : Nat → Int := fun j => 1 + (j : Int)
end Go.Proofs.Ytmmohklaiffkmaa
