import Derived.Test.YtaomipfblcndlaaB11
import Derived.Test.YtaomipfblcndlaaL0
set_option linter.unusedVariables false
set_option linter.unusedSimpArgs false
namespace Go.Proofs.Ytaomipfblcndlaa
open Go.RowKit

theorem rows_acts {W : World} {a : Option Addr} {n cap : Nat} {rows : List (List Value)} (h : IsRows [some .i64, some .i64, some .i64] W a n cap rows) : ∃ D A B, InActs (allOf W) a n D A B := by
  have hx : ∀ i, i < n → ∃ x : Int × Int × Int, rows[i]?.getD [] = [.int .i64 x.1, .int .i64 x.2.1, .int .i64 x.2.2] := fun i hi => by
    have hlt : i < rows.length := by rw [h.size]; exact hi
    obtain ⟨c, r, e1, ⟨x, rfl, _⟩, c2, r2, e2, ⟨y, rfl, _⟩, c3, r3, e3, ⟨z, rfl, _⟩, e4⟩ := h.all rows[i] (List.getElem_mem hlt)
    refine ⟨(x, y, z), ?_⟩
    rw [List.getElem?_eq_getElem hlt, Option.getD_some, e1, e2, e3, show r3 = [] from e4]
  obtain ⟨g, hg⟩ : ∃ g : Nat → Int × Int × Int, ∀ i, i < n → rows[i]?.getD [] = [.int .i64 (g i).1, .int .i64 (g i).2.1, .int .i64 (g i).2.2] :=
    ⟨fun i => if hi : i < n then Classical.choose (hx i hi) else (0, 0, 0), fun i hi => by dsimp only; rw [dif_pos hi]; exact Classical.choose_spec (hx i hi)⟩
  refine ⟨fun i => (g i).1, fun i => (g i).2.1, fun i => (g i).2.2, fun h0 => ?_⟩
  obtain ⟨b, off, rfl, hb, hcell⟩ := h.at_ h0
  have c0 := hcell 0 0 h0 (by simp)
  unfold World.cell? at c0
  split at c0
  · rename_i cs t fz hob
    have hob' : W.heap[b]? = some (.cells cs t fz) := hob
    refine ⟨b, off, cs, t, fz, rfl, (allOf_mem W b _).2 hob', fun i hi => ?_⟩
    have c1 := hcell i 0 hi (by simp)
    have c2 := hcell i 1 hi (by simp)
    have c3 := hcell i 2 hi (by simp)
    rw [blk_cell hob', hg i hi] at c1 c2 c3
    simp only [List.length_cons, List.length_nil, Nat.reduceAdd, Nat.add_zero, List.getElem?_cons_zero, List.getElem?_cons_succ] at c1 c2 c3
    have hlt := (Array.getElem?_eq_some_iff.1 c3).1
    refine ⟨by omega, ?_⟩
    apply Array.ext_getElem?
    intro j
    rw [Array.getElem?_extract]
    by_cases hj : j < 3
    · rw [if_pos (by omega)]
      match j, hj with
      | 0, _ => simpa using c1
      | 1, _ => simpa using c2
      | 2, _ => simpa using c3
    · rw [if_neg (by omega)]
      simp; omega
  · obtain ⟨x, hx0⟩ := hx 0 h0
    rw [hx0] at c0
    cases c0
theorem asidSerials_walk' (a : Option Addr) (n cap : Nat) (rows : List (List Value)) (W : World) (h : IsRows [some .i64, some .i64, some .i64] W a n cap rows) :
    Calls Try.prog 4 #[.slice a n cap] W fun e W' => e = .returned (.bool true) ∧ Below W.heap.size W W' := by
  obtain ⟨D, A, B, hg⟩ := rows_acts h
  exact law_walk (asidSerials_any a n cap D A B (allOf W) hg)
end Go.Proofs.Ytaomipfblcndlaa
