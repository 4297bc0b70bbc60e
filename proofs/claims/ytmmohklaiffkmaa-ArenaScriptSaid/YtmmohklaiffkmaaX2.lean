/- Rows of any flat struct that came in, as blocks. -/
import Derived.Test.YtmmohklaiffkmaaL0
set_option linter.unusedVariables false
set_option linter.unusedSimpArgs false
namespace Go.Proofs.Ytmmohklaiffkmaa
open Go.RowKit

def InRows (l : List Chunk) (a : Option Addr) (n k : Nat) (rows : List (List Value)) : Prop :=
  0 < n → ∃ bB off cs t fz, a = some ⟨bB, off, none⟩ ∧ (bB, Obj.cells cs t fz) ∈ l ∧ ∀ i row, rows[i]? = some row → off + i * k + k ≤ cs.size ∧ cs.extract (off + i * k) (off + i * k + k) = List.toArray row ∧ ∀ j v, row[j]? = some v → cs[off + i * k + j]? = some v
theorem rows_in {W : World} {a : Option Addr} {n cap : Nat} {rows : List (List Value)} {ks : List (Option IntKind)} (h : IsRows ks W a n cap rows) (hk : 0 < ks.length) : InRows (allOf W) a n ks.length rows := by
  intro h0
  obtain ⟨b, off, rfl, hb, hcell⟩ := h.at_ h0
  have hr0 : ∃ r0, rows[0]? = some r0 := ⟨_, List.getElem?_eq_getElem (by rw [h.size]; exact h0)⟩
  obtain ⟨r0, hr0⟩ := hr0
  have c0 := hcell 0 0 h0 hk
  rw [hr0, Option.getD_some] at c0
  have hl0 := (h.all r0 (List.mem_of_getElem? hr0)).len
  have e0 : r0[0]? = some (r0[0]'(by omega)) := List.getElem?_eq_getElem (by omega)
  unfold World.cell? at c0
  split at c0
  · rename_i cs t fz hob
    have hob' : W.heap[b]? = some (.cells cs t fz) := hob
    refine ⟨b, off, cs, t, fz, rfl, (allOf_mem W b _).2 hob', fun i row hrow => ?_⟩
    have hi : i < n := by have := (List.getElem?_eq_some_iff.1 hrow).1; rw [h.size] at this; exact this
    have hl := (h.all row (List.mem_of_getElem? hrow)).len
    have hc : ∀ j, j < ks.length → cs[off + i * ks.length + j]? = row[j]? := fun j hj => by
      have := hcell i j hi hj
      rw [blk_cell hob', hrow, Option.getD_some] at this
      exact this
    have hlast := hc (ks.length - 1) (by omega)
    rw [List.getElem?_eq_getElem (show ks.length - 1 < row.length by omega)] at hlast
    have hlt := (Array.getElem?_eq_some_iff.1 hlast).1
    refine ⟨by omega, ?_, fun j v hv => ?_⟩
    · apply Array.ext_getElem?
      intro j
      rw [Array.getElem?_extract]
      by_cases hj : j < ks.length
      · rw [if_pos (by omega), hc j hj, List.getElem?_toArray]
      · rw [if_neg (by omega), List.getElem?_toArray, List.getElem?_eq_none (by omega)]
    · have hj := (List.getElem?_eq_some_iff.1 hv).1
      rw [hc j (by omega)]; exact hv
  · rw [e0] at c0
    cases c0
end Go.Proofs.Ytmmohklaiffkmaa
