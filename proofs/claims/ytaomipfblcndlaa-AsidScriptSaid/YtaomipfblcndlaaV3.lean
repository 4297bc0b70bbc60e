/- AsidScript: the state's invariant and the pools as a list of cells. -/
import Derived.Test.YtaomipfblcndlaaV2
import Derived.Test.YtaomipfblcndlaaB10
import Derived.Test.YtaomipfblcndlaaL0
import Derived.Test.YtaomipfblcndlaaE0
set_option linter.unusedVariables false
set_option linter.unusedSimpArgs false
namespace Go.Proofs.Ytaomipfblcndlaa
open Go.RowKit

theorem Fit.zero : Fit ASt.zero := ⟨fun _ _ => Int.le_refl _, rfl, fun _ _ => Iff.rfl, fun _ _ _ => rfl⟩
theorem Fit.add {s : ASt} (h : Fit s) (o : Int) : Fit (addP s o).2.2 := by
  unfold addP
  split
  · exact h
  · rename_i ho
    split
    · exact h
    · split
      · rename_i p hp
        refine ⟨fun q hq => ?_, h.r0, h.rs, fun n hn h0 => ?_⟩
        · by_cases e : q = p
          · subst e; simp only [upd_same]; omega
          · simp only [upd_other _ _ _ _ e]; exact h.obj q hq
        · by_cases e : n / 4 = p
          · simp only [e, upd_same] at h0; omega
          · simp only [upd_other _ _ _ _ e] at h0; exact h.emp n hn h0
      · exact h
theorem Fit.drop {s : ASt} (h : Fit s) (o : Int) : Fit (dropP s o).2.2 := by
  unfold dropP
  split
  · exact h
  · rename_i p _
    refine ⟨fun q hq => ?_, ?_, fun n hn => ?_, fun n hn h0 => ?_⟩
    · simp only [ASt.drop]
      by_cases e : q = p
      · subst e; rw [upd_same]; omega
      · rw [upd_other _ _ _ _ e]; exact h.obj q hq
    · simp only [ASt.drop]; split
      · rfl
      · exact h.r0
    · simp only [ASt.drop]; split
      · exact Iff.rfl
      · exact h.rs n hn
    · simp only [ASt.drop] at h0 ⊢
      by_cases e : n / 4 = p
      · rw [if_pos e]
      · rw [if_neg e]; rw [upd_other _ _ _ _ e] at h0; exact h.emp n hn h0
theorem Fit.un {s : ASt} (h : Fit s) (r : Int) : Fit (unP s r).2.2 := by
  unfold unP
  split
  · rename_i m _
    refine ⟨h.obj, ?_, fun n hn => ?_, fun n hn h0 => ?_⟩
    · simp only [ASt.give0, upd]; split
      · rfl
      · exact h.r0
    · simp only [ASt.give0]
      by_cases e : n = m
      · subst e; rw [upd_same, upd_same]
      · rw [upd_other _ _ _ _ e, upd_other _ _ _ _ e]; exact h.rs n hn
    · simp only [ASt.give0, upd]; split
      · rfl
      · exact h.emp n hn h0
  · exact h
theorem Fit.assign {s : ASt} (h : Fit s) (o r : Int) (hg : ∀ n, n < 32 → 0 ≤ s.given n ∧ s.given n ≤ 600000) : Fit (assignP s o r).2.2.2 := by
  unfold assignP
  split
  · exact h
  · rename_i p hp
    split
    · exact h
    · rename_i hr
      split
      · exact h
      · split
        · rename_i i hi
          have hp8 := atO_lt s o p hp
          have hmem := List.mem_of_find?_eq_some hi
          have hn0 : 4 * p + i.val ≠ 0 := by
            unfold nums numsTo at hmem
            simp only [List.mem_filterMap, List.mem_range] at hmem
            obtain ⟨j, hj, he⟩ := hmem
            rw [dif_pos hj] at he
            by_cases h0 : 4 * p + j = 0
            · rw [if_pos h0] at he; cases he
            · rw [if_neg h0] at he; cases he; exact h0
          have hi4 := i.isLt
          have hob : s.obj p = o ∧ 1 ≤ o := by
            unfold atO at hp
            split at hp
            · cases hp
            · have := (firstTo_some _ _ _ hp).2.1
              simp at this
              exact ⟨this, by omega⟩
          have hgn := hg (4 * p + i.val) (by omega)
          refine ⟨h.obj, ?_, fun n hn => ?_, fun n hn h0 => ?_⟩
          · simp only [ASt.give]; rw [upd_other _ _ _ _ (by omega)]; exact h.r0
          · simp only [ASt.give]
            by_cases e : n = 4 * p + i.val
            · subst e; rw [upd_same, upd_same]
              constructor
              · intro hh; omega
              · intro hh; unfold serO at hh; omega
            · rw [upd_other _ _ _ _ e, upd_other _ _ _ _ e]; exact h.rs n hn
          · simp only [ASt.give] at h0 ⊢
            by_cases e : n = 4 * p + i.val
            · subst e
              rw [show (4 * p + i.val) / 4 = p by omega] at h0
              omega
            · rw [upd_other _ _ _ _ e]; exact h.emp n hn h0
        · exact h

def ASt.pool (s : ASt) (p : Nat) : List Value := [.int .i64 (s.obj p), .bool (s.dead p), .int .i64 (s.root (4 * p + 0)), .int .i64 (s.root (4 * p + 1)), .int .i64 (s.root (4 * p + 2)), .int .i64 (s.root (4 * p + 3)), .int .i64 (s.ser (4 * p + 0)), .int .i64 (s.ser (4 * p + 1)), .int .i64 (s.ser (4 * p + 2)), .int .i64 (s.ser (4 * p + 3))]
def ASt.ws (s : ASt) : List Value := [s.pool 0, s.pool 1, s.pool 2, s.pool 3, s.pool 4, s.pool 5, s.pool 6, s.pool 7].flatten
def poolK : List (Option IntKind) := (List.replicate 8 [some .i64, none, some .i64, some .i64, some .i64, some .i64, some .i64, some .i64, some .i64, some .i64]).flatten
instance : EQ Try.prog 47 poolK := ⟨by kernel_rfl⟩
theorem ASt.ws_len (s : ASt) : s.ws.length = 80 := rfl
theorem ASt.ws_get (s : ASt) (p i : Nat) (hp : p < 8) (hi : i < 10) : s.ws[p * 10 + i]? = (s.pool p)[i]? := by
  match p, hp with
  | 0, _ | 1, _ | 2, _ | 3, _ | 4, _ | 5, _ | 6, _ | 7, _ =>
    match i, hi with
    | 0, _ | 1, _ | 2, _ | 3, _ | 4, _ | 5, _ | 6, _ | 7, _ | 8, _ | 9, _ => rfl
theorem ASt.ws_cells (s : ASt) : s.cells.extract 0 80 = List.toArray s.ws := by
  apply Array.ext_getElem?
  intro j
  rw [Array.getElem?_extract]
  by_cases hj : j < 80
  · rw [if_pos (by rw [s.cells_size]; omega), Nat.zero_add, s.cells_get j (by omega), List.getElem?_toArray]
    obtain ⟨p, i, hp, hi, rfl⟩ : ∃ p i, p < 8 ∧ i < 10 ∧ j = p * 10 + i := ⟨j / 10, j % 10, by omega, by omega, by omega⟩
    rw [s.ws_get p i hp hi]
    unfold ASt.at
    have hdv : (p * 10 + i) / 10 = p := by omega
    have hm : (p * 10 + i) % 10 = i := by omega
    rw [if_pos hj, hdv, hm]
    match i, hi with
    | 0, _ | 1, _ | 2, _ | 3, _ | 4, _ | 5, _ | 6, _ | 7, _ | 8, _ | 9, _ => rfl
  · rw [if_neg (by omega), List.getElem?_toArray, List.getElem?_eq_none (by rw [s.ws_len]; omega)]
theorem AllK.app {a b : List (Option IntKind)} {x y : List Value} (h : AllK a x) (k : AllK b y) : AllK (a ++ b) (x ++ y) := by
  induction a generalizing x with
  | nil => cases h; exact k
  | cons q a ih => obtain ⟨c, r, rfl, h1, h2⟩ := h; exact ⟨c, r ++ y, rfl, h1, ih h2⟩
theorem ASt.pool_k (s : ASt) (p : Nat) : AllK [some .i64, none, some .i64, some .i64, some .i64, some .i64, some .i64, some .i64, some .i64, some .i64] (s.pool p) :=
  ⟨_, _, rfl, ⟨_, rfl⟩, _, _, rfl, ⟨_, rfl⟩, _, _, rfl, ⟨_, rfl⟩, _, _, rfl, ⟨_, rfl⟩, _, _, rfl, ⟨_, rfl⟩, _, _, rfl, ⟨_, rfl⟩, _, _, rfl, ⟨_, rfl⟩, _, _, rfl, ⟨_, rfl⟩, _, _, rfl, ⟨_, rfl⟩, _, _, rfl, ⟨_, rfl⟩, rfl⟩
theorem ASt.ws_k (s : ASt) : AllK poolK s.ws :=
  (s.pool_k 0).app ((s.pool_k 1).app ((s.pool_k 2).app ((s.pool_k 3).app ((s.pool_k 4).app ((s.pool_k 5).app ((s.pool_k 6).app (AllK.app (s.pool_k 7) (show AllK [] [] from rfl))))))))
theorem AllK.one {a : List (Option IntKind)} {x : List Value} (h : AllK a x) : ∀ v, v ∈ x → v.oneCell' = true := by
  induction a generalizing x with
  | nil => cases h; intro v hv; cases hv
  | cons q a ih =>
    obtain ⟨c, r, rfl, h1, h2⟩ := h
    intro v hv
    rcases List.mem_cons.1 hv with rfl | hv
    · cases q <;> obtain ⟨_, rfl⟩ := h1 <;> rfl
    · exact ih h2 v hv
end Go.Proofs.Ytaomipfblcndlaa
