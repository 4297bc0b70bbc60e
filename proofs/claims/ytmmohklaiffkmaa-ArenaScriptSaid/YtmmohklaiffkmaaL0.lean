/- From a contract on all blocks to the form that a statement's last step wants. -/
import Derived.Test.YtmmohklaiffkmaaS9
import Derived.Below
import Derived.Test.YtmmohklaiffkmaaG0
set_option linter.unusedVariables false
set_option linter.unusedSimpArgs false
namespace Go.Proofs.Ytmmohklaiffkmaa
open Go.RowKit

/-- a list of numbers that came in -/
def InInts (l : List Chunk) (a : Option Addr) (n : Nat) (g : Nat → Int) : Prop :=
  0 < n → ∃ bB off cs t fz, a = some ⟨bB, off, none⟩ ∧ (bB, Obj.cells cs t fz) ∈ l ∧ ∀ i, i < n → cs[off + i * 1]? = some (.int .i64 (g i))

/-- a list of acts that came in -/
def InActs (l : List Chunk) (a : Option Addr) (n : Nat) (D A B : Nat → Int) : Prop :=
  0 < n → ∃ bB off cs t fz, a = some ⟨bB, off, none⟩ ∧ (bB, Obj.cells cs t fz) ∈ l ∧ ∀ i, i < n → off + i * 3 + 3 ≤ cs.size ∧ cs.extract (off + i * 3) (off + i * 3 + 3) = List.toArray [.int .i64 (D i), .int .i64 (A i), .int .i64 (B i)]

def allOf (W : World) : List Chunk := W.heap.toList.zipIdx.map fun x => (x.2, x.1)
theorem allOf_mem (W : World) (k : Nat) (o : Obj) : (k, o) ∈ allOf W ↔ W.heap[k]? = some o := by
  unfold allOf
  rw [List.mem_map]
  constructor
  · rintro ⟨⟨o', k'⟩, h, e⟩
    cases e
    have := List.mem_zipIdx_iff_getElem?.1 h
    simpa using this
  · intro h
    exact ⟨(o, k), List.mem_zipIdx_iff_getElem?.2 (by simpa using h), rfl⟩
theorem sat_all (W : World) : Sat W (allOf W) W := by
  refine ⟨rfl, rfl, rfl, ?_, fun c hc => (allOf_mem W c.1 c.2).1 hc⟩
  unfold allOf
  rw [List.map_map]
  have : (Prod.fst ∘ fun x : Obj × Nat => (x.2, x.1)) = Prod.snd := rfl
  rw [this, List.zipIdx_map_snd]
  exact List.nodup_range'
theorem law_walk {P : Program} {f : FuncId} {args : List Value} {W : World} (h : Fn P f args (allOf W) fun v l' => v = .bool true ∧ ∃ X, l' = X ++ allOf W) :
    Calls P f args.toArray W fun e W' => e = .returned (.bool true) ∧ Below W.heap.size W W' := by
  refine (h.run W W (sat_all W)).mono ?_
  rintro e W' ⟨v, l', rfl, ⟨rfl, X, rfl⟩, hs⟩
  have hb : ∀ k, k < W.heap.size → W'.heap[k]? = W.heap[k]? := fun k hk => by
    rw [Array.getElem?_eq_getElem hk]
    exact hs.has (k, W.heap[k]) (List.mem_append_right _ ((allOf_mem W k _).2 (Array.getElem?_eq_getElem hk)))
  refine ⟨rfl, ⟨hs.os, hs.tape, hs.output, ?_, hb⟩⟩
  by_cases h0 : W.heap.size = 0
  · omega
  · have h1 := hb (W.heap.size - 1) (by omega)
    rw [Array.getElem?_eq_getElem (xs := W.heap) (by omega)] at h1
    have := (Array.getElem?_eq_some_iff.1 h1).1
    omega
theorem rows_ints {W : World} {a : Option Addr} {n cap : Nat} {rows : List (List Value)} (h : IsRows [some .i64] W a n cap rows) : ∃ g, InInts (allOf W) a n g := by
  have hx : ∀ i, i < n → ∃ x : Int, rows[i]?.getD [] = [.int .i64 x] := fun i hi => by
    have hlt : i < rows.length := by rw [h.size]; exact hi
    obtain ⟨c, r, e1, ⟨x, rfl, _⟩, e2⟩ := h.all rows[i] (List.getElem_mem hlt)
    refine ⟨x, ?_⟩
    rw [List.getElem?_eq_getElem hlt, Option.getD_some, e1, show r = [] from e2]
  refine ⟨fun i => if hi : i < n then Classical.choose (hx i hi) else 0, fun h0 => ?_⟩
  obtain ⟨b, off, rfl, hb, hcell⟩ := h.at_ h0
  have c0 := hcell 0 0 h0 (by simp)
  unfold World.cell? at c0
  split at c0
  · rename_i cs t fz hob
    refine ⟨b, off, cs, t, fz, rfl, (allOf_mem W b _).2 hob, fun i hi => ?_⟩
    have ci := hcell i 0 hi (by simp)
    have hob' : W.heap[b]? = some (.cells cs t fz) := hob
    rw [blk_cell hob', Classical.choose_spec (hx i hi)] at ci
    show cs[off + i * 1]? = some (.int .i64 (if hi : i < n then Classical.choose (hx i hi) else 0))
    rw [dif_pos hi]
    simpa using ci
  · have := hx 0 h0
    obtain ⟨x, hx0⟩ := this
    rw [hx0] at c0
    cases c0
theorem rows_acts {W : World} {a : Option Addr} {n cap : Nat} {rows : List (List Value)} (h : IsRows [some .i64, some .i64, some .i64] W a n cap rows) : ∃ D A B, InActs (allOf W) a n D A B := by
  have hx : ∀ i, i < n → ∃ x : Int × Int × Int, rows[i]?.getD [] = [.int .i64 x.1, .int .i64 x.2.1, .int .i64 x.2.2] := fun i hi => by
    have hlt : i < rows.length := by rw [h.size]; exact hi
    obtain ⟨c, r, e1, ⟨x, rfl, _⟩, c2, r2, e2, ⟨y, rfl, _⟩, c3, r3, e3, ⟨z, rfl, _⟩, e4⟩ := h.all rows[i] (List.getElem_mem hlt)
    refine ⟨(x, y, z), ?_⟩
    rw [List.getElem?_eq_getElem hlt, Option.getD_some, e1, e2, e3, show r3 = [] from e4]
  obtain ⟨g, hg⟩ : ∃ g : Nat → Int × Int × Int, ∀ i, i < n → rows[i]?.getD [] = [.int .i64 (g i).1, .int .i64 (g i).2.1, .int .i64 (g i).2.2] :=
    ⟨fun i => if hi : i < n then Classical.choose (hx i hi) else (0, 0, 0), fun i hi => by dsimp only; rw [dif_pos hi]; exact Classical.choose_spec (hx i hi)⟩
  refine ⟨fun i => (g i).1, fun i => (g i).2.1, fun i => (g i).2.2, fun h0 => ?_⟩
  obtain ⟨b, off, rfl, hb, hcell⟩ := h.at_ h0
  have c0 := hcell 0 0 h0 (by simp)
  unfold World.cell? at c0
  split at c0
  · rename_i cs t fz hob
    have hob' : W.heap[b]? = some (.cells cs t fz) := hob
    refine ⟨b, off, cs, t, fz, rfl, (allOf_mem W b _).2 hob', fun i hi => ?_⟩
    have c1 := hcell i 0 hi (by simp)
    have c2 := hcell i 1 hi (by simp)
    have c3 := hcell i 2 hi (by simp)
    rw [blk_cell hob', hg i hi] at c1 c2 c3
    simp only [List.length_cons, List.length_nil, Nat.reduceAdd, Nat.add_zero, List.getElem?_cons_zero, List.getElem?_cons_succ] at c1 c2 c3
    have hlt := (Array.getElem?_eq_some_iff.1 c3).1
    refine ⟨by omega, ?_⟩
    apply Array.ext_getElem?
    intro j
    rw [Array.getElem?_extract]
    by_cases hj : j < 3
    · rw [if_pos (by omega)]
      match j, hj with
      | 0, _ => simpa using c1
      | 1, _ => simpa using c2
      | 2, _ => simpa using c3
    · rw [if_neg (by omega)]
      simp; omega
  · obtain ⟨x, hx0⟩ := hx 0 h0
    rw [hx0] at c0
    cases c0
end Go.Proofs.Ytmmohklaiffkmaa
