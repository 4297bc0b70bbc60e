/- The pools of numbers as plain data, their cells in memory, and what the calls come to. -/
import Derived.WalkKit
import Derived.ProofKit
set_option linter.unusedVariables false
set_option linter.unusedSimpArgs false
namespace Go.Proofs.Ytaomipfblcndlaa
open Go.RowKit

structure ASt where
  obj : Nat → Int
  dead : Nat → Bool
  root : Nat → Int
  ser : Nat → Int
  given : Nat → Int

def ASt.at (s : ASt) (j : Nat) : Value :=
  if j < 80 then
    (if j % 10 = 0 then .int .i64 (s.obj (j / 10))
     else if j % 10 = 1 then .bool (s.dead (j / 10))
     else if j % 10 < 6 then .int .i64 (s.root (4 * (j / 10) + (j % 10 - 2)))
     else .int .i64 (s.ser (4 * (j / 10) + (j % 10 - 6))))
  else .int .i64 (s.given (j - 80))
def ASt.cells (s : ASt) : Array Value := Array.ofFn (n := 112) fun i => s.at i.val
theorem ASt.cells_get (s : ASt) (j : Nat) (h : j < 112) : s.cells[j]? = some (s.at j) := by simp [ASt.cells, h]
theorem ASt.cells_size (s : ASt) : s.cells.size = 112 := by simp [ASt.cells]

def IsA (w : World) (b : Nat) (T : TypeId) (s : ASt) : Prop := w.heap[b]? = some (.cells s.cells T (0, 0))

theorem IsA.cell {w : World} {b : Nat} {T : TypeId} {s : ASt} (h : IsA w b T s) (j : Nat) (hj : j < 112) : w.cell? ⟨b, j, none⟩ = some (s.at j) := by
  simp [World.cell?, show w.heap[b]? = _ from h, ASt.cells_get s j hj]
theorem IsA.frozen {w : World} {b : Nat} {T : TypeId} {s : ASt} (h : IsA w b T s) : ∀ j, w.frozen? ⟨b, j, none⟩ = false := fun j => by simp [World.frozen?, show w.heap[b]? = _ from h]
theorem IsA.obj {w : World} {b : Nat} {T : TypeId} {s : ASt} (h : IsA w b T s) (p : Nat) (hp : p < 8) : w.cell? ⟨b, p * 10, none⟩ = some (.int .i64 (s.obj p)) := by
  rw [h.cell _ (by omega)]; unfold ASt.at; rw [if_pos (by omega), if_pos (by omega), show p * 10 / 10 = p by omega]
theorem IsA.dead {w : World} {b : Nat} {T : TypeId} {s : ASt} (h : IsA w b T s) (p : Nat) (hp : p < 8) : w.cell? ⟨b, p * 10 + 1, none⟩ = some (.bool (s.dead p)) := by
  rw [h.cell _ (by omega)]; unfold ASt.at; rw [if_pos (by omega), if_neg (by omega), if_pos (by omega), show (p * 10 + 1) / 10 = p by omega]
theorem IsA.root {w : World} {b : Nat} {T : TypeId} {s : ASt} (h : IsA w b T s) (p i : Nat) (hp : p < 8) (hi : i < 4) : w.cell? ⟨b, p * 10 + 2 + i, none⟩ = some (.int .i64 (s.root (4 * p + i))) := by
  rw [h.cell _ (by omega)]; unfold ASt.at; rw [if_pos (by omega), if_neg (by omega), if_neg (by omega), if_pos (by omega), show 4 * ((p * 10 + 2 + i) / 10) + ((p * 10 + 2 + i) % 10 - 2) = 4 * p + i by omega]
theorem IsA.ser {w : World} {b : Nat} {T : TypeId} {s : ASt} (h : IsA w b T s) (p i : Nat) (hp : p < 8) (hi : i < 4) : w.cell? ⟨b, p * 10 + 6 + i, none⟩ = some (.int .i64 (s.ser (4 * p + i))) := by
  rw [h.cell _ (by omega)]; unfold ASt.at; rw [if_pos (by omega), if_neg (by omega), if_neg (by omega), if_neg (by omega), show 4 * ((p * 10 + 6 + i) / 10) + ((p * 10 + 6 + i) % 10 - 6) = 4 * p + i by omega]
theorem IsA.given {w : World} {b : Nat} {T : TypeId} {s : ASt} (h : IsA w b T s) (n : Nat) (hn : n < 32) : w.cell? ⟨b, 80 + n, none⟩ = some (.int .i64 (s.given n)) := by
  rw [h.cell _ (by omega)]; unfold ASt.at; rw [if_neg (by omega), show 80 + n - 80 = n by omega]

/-- a function turned at one place -/
def upd {α : Type} (f : Nat → α) (k : Nat) (v : α) : Nat → α := fun i => if i = k then v else f i
theorem upd_same {α : Type} (f : Nat → α) (k : Nat) (v : α) : upd f k v k = v := by simp [upd]
theorem upd_other {α : Type} (f : Nat → α) (k i : Nat) (v : α) (h : i ≠ k) : upd f k v i = f i := by simp [upd, h]

theorem cells_set (s s' : ASt) (k : Nat) (v : Value) (hk : k < 112) (h1 : s'.at k = v) (h2 : ∀ j, j < 112 → j ≠ k → s'.at j = s.at j) : s.cells.setIfInBounds k v = s'.cells := by
  apply Array.ext
  · simp [ASt.cells]
  · intro j hj1 hj2
    have hj : j < 112 := by simpa [ASt.cells] using hj2
    rw [Array.getElem_setIfInBounds (by simpa [ASt.cells] using hj)]
    by_cases e : k = j
    · subst e; simp [ASt.cells, h1]
    · rw [if_neg e]; simp [ASt.cells, h2 j hj (fun h => e h.symm)]
theorem setCell_heap {W : World} {b i : Nat} {c : Array Value} {t : TypeId} {fr : Nat × Nat} (h : W.heap[b]? = some (.cells c t fr)) (v : Value) : (W.setCell ⟨b, i, none⟩ v).heap[b]? = some (.cells (c.setIfInBounds i v) t fr) := by
  obtain ⟨hlt, hk⟩ := Array.getElem?_eq_some_iff.1 h
  show (W.heap.modify b _)[b]? = _
  rw [Array.getElem?_eq_getElem (by rw [Array.size_modify]; exact hlt), Array.getElem_modify_self, hk]
  rfl
theorem IsA.set {w : World} {b : Nat} {T : TypeId} {s s' : ASt} (h : IsA w b T s) (k : Nat) (v : Value) (hk : k < 112) (h1 : s'.at k = v) (h2 : ∀ j, j < 112 → j ≠ k → s'.at j = s.at j) : IsA (w.setCell ⟨b, k, none⟩ v) b T s' := by
  have := setCell_heap (i := k) h v
  rw [cells_set s s' k v hk h1 h2] at this
  exact this
theorem IsA.setObj {w : World} {b : Nat} {T : TypeId} {s : ASt} (h : IsA w b T s) (p : Nat) (hp : p < 8) (v : Int) : IsA (w.setCell ⟨b, p * 10, none⟩ (.int .i64 v)) b T { s with obj := upd s.obj p v } := by
  refine h.set _ _ (by omega) ?_ fun j hj hne => ?_
  · unfold ASt.at; rw [if_pos (by omega), if_pos (by omega), show p * 10 / 10 = p by omega]; exact congrArg _ (upd_same _ _ _)
  · unfold ASt.at
    simp only
    by_cases h0 : j % 10 = 0
    · rw [if_pos h0, if_pos h0]
      by_cases h8 : j < 80
      · rw [if_pos h8, if_pos h8, upd_other _ _ _ _ (by omega)]
      · rw [if_neg h8, if_neg h8]
    · rw [if_neg h0, if_neg h0]
theorem IsA.setRoot {w : World} {b : Nat} {T : TypeId} {s : ASt} (h : IsA w b T s) (p i : Nat) (hp : p < 8) (hi : i < 4) (v : Int) : IsA (w.setCell ⟨b, p * 10 + 2 + i, none⟩ (.int .i64 v)) b T { s with root := upd s.root (4 * p + i) v } := by
  refine h.set _ _ (by omega) ?_ fun j hj hne => ?_
  · unfold ASt.at; rw [if_pos (by omega), if_neg (by omega), if_neg (by omega), if_pos (by omega), show 4 * ((p * 10 + 2 + i) / 10) + ((p * 10 + 2 + i) % 10 - 2) = 4 * p + i by omega]; exact congrArg _ (upd_same _ _ _)
  · unfold ASt.at
    simp only
    by_cases h8 : j < 80
    · rw [if_pos h8, if_pos h8]
      by_cases h0 : j % 10 = 0
      · rw [if_pos h0, if_pos h0]
      · rw [if_neg h0, if_neg h0]
        by_cases h1 : j % 10 = 1
        · rw [if_pos h1, if_pos h1]
        · rw [if_neg h1, if_neg h1]
          by_cases h6 : j % 10 < 6
          · rw [if_pos h6, if_pos h6, upd_other _ _ _ _ (by omega)]
          · rw [if_neg h6, if_neg h6]
    · rw [if_neg h8, if_neg h8]
theorem IsA.setSer {w : World} {b : Nat} {T : TypeId} {s : ASt} (h : IsA w b T s) (p i : Nat) (hp : p < 8) (hi : i < 4) (v : Int) : IsA (w.setCell ⟨b, p * 10 + 6 + i, none⟩ (.int .i64 v)) b T { s with ser := upd s.ser (4 * p + i) v } := by
  refine h.set _ _ (by omega) ?_ fun j hj hne => ?_
  · unfold ASt.at; rw [if_pos (by omega), if_neg (by omega), if_neg (by omega), if_neg (by omega), show 4 * ((p * 10 + 6 + i) / 10) + ((p * 10 + 6 + i) % 10 - 6) = 4 * p + i by omega]; exact congrArg _ (upd_same _ _ _)
  · unfold ASt.at
    simp only
    by_cases h8 : j < 80
    · rw [if_pos h8, if_pos h8]
      by_cases h0 : j % 10 = 0
      · rw [if_pos h0, if_pos h0]
      · rw [if_neg h0, if_neg h0]
        by_cases h1 : j % 10 = 1
        · rw [if_pos h1, if_pos h1]
        · rw [if_neg h1, if_neg h1]
          by_cases h6 : j % 10 < 6
          · rw [if_pos h6, if_pos h6]
          · rw [if_neg h6, if_neg h6, upd_other _ _ _ _ (by omega)]
    · rw [if_neg h8, if_neg h8]
theorem IsA.setGiven {w : World} {b : Nat} {T : TypeId} {s : ASt} (h : IsA w b T s) (n : Nat) (hn : n < 32) (v : Int) : IsA (w.setCell ⟨b, 80 + n, none⟩ (.int .i64 v)) b T { s with given := upd s.given n v } := by
  refine h.set _ _ (by omega) ?_ fun j hj hne => ?_
  · unfold ASt.at; rw [if_neg (by omega), show 80 + n - 80 = n by omega]; exact congrArg _ (upd_same _ _ _)
  · unfold ASt.at
    simp only
    by_cases h8 : j < 80
    · rw [if_pos h8, if_pos h8]
    · rw [if_neg h8, if_neg h8, upd_other _ _ _ _ (by omega)]

/-- the first number below k at which p holds -/
def firstTo (p : Nat → Bool) (k : Nat) : Option Nat := (List.range k).find? p
theorem firstTo_succ (p : Nat → Bool) (k : Nat) : firstTo p (k + 1) = (firstTo p k).or (if p k then some k else none) := by
  unfold firstTo; rw [List.range_succ, List.find?_append]
  cases h : p k <;> simp [List.find?, h]
theorem firstTo_none (p : Nat → Bool) (k : Nat) : firstTo p k = none ↔ ∀ i, i < k → p i = false := by
  unfold firstTo; simp
theorem firstTo_hit (p : Nat → Bool) (k m : Nat) (hm : m < k) (hp : p m = true) (h : firstTo p m = none) : firstTo p k = some m := by
  have : ∀ d, firstTo p (m + 1 + d) = some m := by
    intro d
    induction d with
    | zero => rw [Nat.add_zero, firstTo_succ, h, hp]; rfl
    | succ d ih => rw [← Nat.add_assoc, firstTo_succ, ih]; rfl
  have := this (k - (m + 1))
  rwa [show m + 1 + (k - (m + 1)) = k by omega] at this
theorem firstTo_some (p : Nat → Bool) (k m : Nat) (h : firstTo p k = some m) : m < k ∧ p m = true ∧ ∀ i, i < m → p i = false := by
  unfold firstTo at h
  have h1 := List.find?_some h
  have h2 := List.mem_of_find?_eq_some h
  refine ⟨by simpa using h2, h1, fun i hi => ?_⟩
  cases hb : p i
  · rfl
  · exfalso
    have hk : m < k := by simpa using h2
    have hf : firstTo p i = none ∨ ∃ q, firstTo p i = some q := by cases firstTo p i <;> simp
    have key : ∀ n, n ≤ k → ∀ q, firstTo p n = some q → firstTo p k = some q := by
      intro n hn q hq
      have : ∀ d, firstTo p (n + d) = some q := by
        intro d
        induction d with
        | zero => exact hq
        | succ d ih => rw [← Nat.add_assoc, firstTo_succ, ih]; rfl
      have := this (k - n)
      rwa [show n + (k - n) = k by omega] at this
    rcases hf with hf | ⟨q, hf⟩
    · have := firstTo_hit p k i (by omega) hb hf
      have e : firstTo p k = some m := h
      rw [this] at e; cases e; omega
    · have := key i (by omega) q hf
      have e : firstTo p k = some m := h
      rw [this] at e
      obtain rfl : q = m := Option.some.inj e
      have : q < i := by unfold firstTo at hf; have := List.mem_of_find?_eq_some hf; simpa using this
      omega
end Go.Proofs.Ytaomipfblcndlaa
