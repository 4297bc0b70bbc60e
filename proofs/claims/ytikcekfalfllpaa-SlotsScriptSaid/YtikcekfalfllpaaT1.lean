/- A slice of integers sorted by the library: out of the kit's contract. -/
import Derived.Test.YtikcekfalfllpaaT0
import Derived.Test.YtikcekfalfllpaaX5
set_option linter.unusedVariables false
set_option linter.unusedSimpArgs false
namespace Go.Proofs.Ytikcekfalfllpaa
open Go.RowKit Go.Sort

def intV (x : Int) : Value := .int .i64 x
abbrev srt (zs : List Int) : List Int := zs.mergeSort fun x y => decide (x ≤ y)
theorem sort_any (b cap : Nat) (zs : List Int) (sp : List Value) (hn : zs.length ≤ 1000000) (l : List Chunk) :
    Fn Try.prog 42 [.slice (some ⟨b, 0, none⟩) zs.length cap] ((b, .cells (List.toArray (zs.map intV ++ sp)) 3 (0, 0)) :: l) fun v l' => v = .tuple #[] ∧ l' = (b, .cells (List.toArray ((srt zs).map intV ++ sp)) 3 (0, 0)) :: l := by
  refine ⟨fun E W hs => ?_⟩
  have hH : Holds (Value.int .i64) W b 0 zs.toArray := fun j hj => by
    simp only [List.size_toArray] at hj
    refine ⟨?_, ?_⟩
    · rw [hs.cell (.head _), Nat.zero_add, List.getElem?_toArray, List.getElem?_append_left (by simpa using hj), List.getElem?_map, List.getElem?_eq_getElem hj]
      simp [hj, intV]
    · rw [hs.frz (.head _)]; simp
  have h := AnyM.slices_Sort_int Try.sortA b 0 cap zs W hH (hs.lt (.head _)) (by omega)
  refine (h : Calls Try.prog 42 _ W _).mono ?_
  rintro e w' ⟨rfl, n, os, rfl⟩
  refine ⟨_, _, rfl, ⟨rfl, rfl⟩, ?_⟩
  refine ⟨hs.os, hs.tape, hs.output, by simpa using hs.nodup, fun c hc => ?_⟩
  have hb := hs.lt (.head _)
  simp only at hb
  have hget : ∀ k, k < W.heap.size → (Go.Sort.grow (putRow (Value.int .i64) (Go.Sort.ahead W n) b 0 (srt zs).toArray) os).heap[k]? = (W.heap.modify b (onCells (putCells (Value.int .i64) 0 (srt zs).toArray)))[k]? := fun k hk => by
    show (((Go.Sort.ahead W n).heap.modify b _) ++ os)[k]? = _
    rw [Array.getElem?_append_left (by simpa using hk)]; rfl
  rcases List.mem_cons.1 hc with rfl | hc'
  · rw [hget _ hb, Array.getElem?_modify, if_pos rfl, hs.has _ (.head _)]
    simp only [Option.map_some, onCells]
    congr 2
    apply Array.toList_inj.1
    apply List.ext_getElem?
    intro j
    unfold putCells
    rw [Array.getElem?_toList, Array.getElem?_mapIdx, List.getElem?_toArray]
    have hl : (srt zs).length = zs.length := List.length_mergeSort ..
    by_cases hj : j < zs.length
    · rw [List.getElem?_append_left (by simpa using hj), List.getElem?_append_left (by simpa [hl] using hj), List.getElem?_map, List.getElem?_map, List.getElem?_eq_getElem hj, List.getElem?_eq_getElem (by omega)]
      simp [hj, hl, intV]
    · rw [List.getElem?_append_right (by simpa using Nat.le_of_not_lt hj), List.getElem?_append_right (by simpa [hl] using Nat.le_of_not_lt hj)]
      simp only [List.length_map, hl]
      cases sp[j - zs.length]? with
      | none => rfl
      | some u => simp [hl, hj]
  · have hlt := hs.lt (List.mem_cons_of_mem _ hc')
    rw [hget _ hlt, Array.getElem?_modify, if_neg, hs.has _ (List.mem_cons_of_mem _ hc')]
    intro e
    have := hs.nodup
    rw [List.map_cons, List.nodup_cons] at this
    exact this.1 (List.mem_map.2 ⟨c, hc', e.symm⟩)
theorem sortNone_any (cap : Nat) (p : Option Addr) (l : List Chunk) : Fn Try.prog 42 [.slice p 0 cap] l fun v l' => v = .tuple #[] ∧ l' = l := by
  refine ⟨fun E W hs => ?_⟩
  refine ((AnyM.slices_Sort_int_none Try.sortA p cap W : Calls Try.prog 42 _ W _)).mono ?_
  rintro e w' ⟨rfl, rfl⟩
  exact ⟨_, _, rfl, ⟨rfl, rfl⟩, hs⟩
theorem sortOwn_any (v : Value) (zs : List Int) (cs l : List Chunk) (ho : OwnSl 3 1 v zs.length (zs.map intV) cs) (hn : zs.length ≤ 1000000) :
    Fn Try.prog 42 [v] (cs ++ l) fun r l' => r = .tuple #[] ∧ ∃ cs', OwnSl 3 1 v (srt zs).length ((srt zs).map intV) cs' ∧ l' = cs' ++ l := by
  have hl : (srt zs).length = zs.length := List.length_mergeSort ..
  rcases ho.2 with ⟨rfl, h0, rfl⟩ | ⟨gb, cap, sp, rfl, rfl, hnc, hcm, hcl⟩
  · obtain rfl : zs = [] := List.eq_nil_of_length_eq_zero h0
    exact (sortNone_any 0 none l).mono fun r l' ⟨h1, h2⟩ => ⟨h1, [], by rw [show srt [] = [] by simp [srt]]; exact OwnSl.nil _ _, h2⟩
  · exact (sort_any gb cap zs sp hn l).mono fun r l' ⟨h1, h2⟩ => ⟨h1, _, ⟨by simp, .inr ⟨gb, cap, sp, by rw [hl], rfl, by omega, hcm, by rw [List.length_append, List.length_map, hl, ← hcl, List.length_append, List.length_map]⟩⟩, h2⟩
end Go.Proofs.Ytikcekfalfllpaa
