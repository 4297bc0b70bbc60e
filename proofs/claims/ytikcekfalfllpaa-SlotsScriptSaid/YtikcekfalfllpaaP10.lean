/- SlotsOwn: what is read of slots; the acts; the walk. -/
import Derived.Test.YtikcekfalfllpaaP9
import Derived.Test.YtikcekfalfllpaaX0
import Derived.Test.YtikcekfalfllpaaX2
set_option linter.unusedVariables false
set_option linter.unusedSimpArgs false
namespace Go.Proofs.Ytikcekfalfllpaa
open Go.RowKit

theorem asc_at {α : Type} {key : α → Int} {L : List α} (h : L.Pairwise fun x y => key x < key y) {t : α} (ht : t ∈ L) : findK key L (key t) = some t := by
  have hnd : (L.map key).Nodup := List.pairwise_map.2 (h.imp fun hxy => by omega)
  cases hf : findK key L (key t) with
  | none => exact absurd rfl (findK_none.1 hf t ht)
  | some u => obtain ⟨h1, h2⟩ := findK_some hf; rw [nd_stamp hnd h1 ht h2]
theorem IsS.asc {b : Nat} {D : SD} {lq : List Chunk} (h : IsS b D lq) : D.Pairwise fun x y => x.1 < y.1 := by
  obtain ⟨S, m, es, clock, rfl, hS⟩ := h
  exact List.pairwise_map.2 hS.mb.asc
theorem find_put (D : SD) (s : slT) (c : CapT) (a : Int) : findK Prod.fst (putD D s c) a = (findK Prod.fst D a).map fun x => if x.1 = s.1 then (x.1, x.2.set s.2.toNat c) else x := by
  unfold findK putD
  rw [List.find?_map]
  have e : ((fun t : Int × List CapT => decide (t.1 = a)) ∘ fun x => if x.1 = s.1 then (x.1, x.2.set s.2.toNat c) else x) = fun t => decide (t.1 = a) := by
    funext x
    show decide ((if x.1 = s.1 then (x.1, x.2.set s.2.toNat c) else x).1 = a) = decide (x.1 = a)
    split <;> rfl
  rw [e]
theorem size_put (D : SD) (s : slT) (c : CapT) (a : Int) : sizeD (putD D s c) a = sizeD D a := by
  unfold sizeD
  rw [find_put]
  cases findK Prod.fst D a with
  | none => rfl
  | some x =>
    simp only [Option.map_some]
    split
    · simp
    · rfl
theorem ok_put (D : SD) (s : slT) (c : CapT) (s' : slT) : okD (putD D s c) s' = okD D s' := by unfold okD; rw [size_put]
theorem at_put {D : SD} {s : slT} {c : CapT} (h : okD D s = true) : atD (putD D s c) s = c := by
  unfold okD sizeD at h
  rw [Bool.and_eq_true, decide_eq_true_eq, decide_eq_true_eq] at h
  unfold atD
  rw [find_put]
  cases hf : findK Prod.fst D s.1 with
  | none => rw [hf] at h; simp at h; omega
  | some x =>
    rw [hf] at h
    simp only at h
    simp only [Option.map_some]
    rw [if_pos (findK_some hf).2]
    show (x.2.set s.2.toNat c).getD s.2.toNat capZ = c
    rw [List.getD_eq_getElem?_getD, List.getElem?_set_self (by omega)]; rfl
theorem at_put_ne {D : SD} {s s' : slT} {c : CapT} (h0 : 0 ≤ s.2) (h0' : 0 ≤ s'.2) (h : s' ≠ s) : atD (putD D s c) s' = atD D s' := by
  unfold atD
  rw [find_put]
  cases hf : findK Prod.fst D s'.1 with
  | none => rfl
  | some x =>
    simp only [Option.map_some]
    split
    · rename_i hx
      have hx2 := (findK_some hf).2
      have hne : s'.2 ≠ s.2 := fun e => h (Prod.ext (by rw [← hx2, hx]) e)
      show (x.2.set s.2.toNat c).getD s'.2.toNat capZ = x.2.getD s'.2.toNat capZ
      rw [List.getD_eq_getElem?_getD, List.getD_eq_getElem?_getD, List.getElem?_set_ne (by omega)]
    · rfl
theorem usedTo_mem {a : Int} {C : List CapT} {h : HdT} : ∀ {k : Nat}, h ∈ usedTo a C k → ∃ j : Nat, h.1 = (a, (j : Int)) ∧ C[j]? = some h.2
  | 0, hm => by cases hm
  | k + 1, hm => by
    rcases List.mem_append.1 hm with hm | hm
    · exact usedTo_mem hm
    · split at hm
      · rename_i c hc
        split at hm
        · cases hm
        · rw [List.mem_singleton.1 hm]; exact ⟨k, rfl, hc⟩
      · cases hm
theorem used_at {D : SD} (hs : D.Pairwise fun x y => x.1 < y.1) {h : HdT} (hm : h ∈ usedD D) : okD D h.1 = true ∧ atD D h.1 = h.2 ∧ 0 ≤ h.1.2 := by
  obtain ⟨x, hx, h2⟩ := List.mem_flatMap.1 hm
  obtain ⟨j, h3, h4⟩ := usedTo_mem h2
  have hf := asc_at (key := Prod.fst) hs hx
  have hj := (List.getElem?_eq_some_iff.1 h4).1
  rw [h3]
  refine ⟨?_, ?_, by simp⟩
  · unfold okD sizeD
    simp only
    rw [hf]
    simp only
    rw [decide_eq_true (by omega), decide_eq_true (by omega)]; rfl
  · unfold atD
    simp only
    rw [hf]
    show x.2.getD ((j : Nat) : Int).toNat capZ = h.2
    rw [List.getD_eq_getElem?_getD, Int.toNat_natCast, h4]; rfl
/-- three nodes of four slots -/
def Room (D : SD) : Prop := D.map Prod.fst = [1, 2, 3] ∧ ∀ x, x ∈ D → x.2.length = 4
theorem Room.put {D : SD} (h : Room D) (s : slT) (c : CapT) : Room (putD D s c) := by
  refine ⟨?_, fun x hx => ?_⟩
  · rw [← h.1]
    unfold putD
    rw [List.map_map]
    apply List.map_congr_left
    intro x _
    show (if x.1 = s.1 then (x.1, x.2.set s.2.toNat c) else x).1 = x.1
    split <;> rfl
  · obtain ⟨y, hy, rfl⟩ := List.mem_map.1 hx
    split
    · simp [h.2 y hy]
    · exact h.2 y hy
theorem Room.ok {D : SD} (h : Room D) {s : slT} (h1 : 1 ≤ s.1) (h2 : s.1 ≤ 3) (h3 : 0 ≤ s.2) (h4 : s.2 < 4) : okD D s = true := by
  have hm : s.1 ∈ D.map Prod.fst := by rw [h.1]; simp; omega
  obtain ⟨x, hx, he⟩ := List.mem_map.1 hm
  unfold okD sizeD
  cases hf : findK Prod.fst D s.1 with
  | none => exact absurd he (findK_none.1 hf x hx)
  | some y =>
    have := h.2 y (findK_some hf).1
    have hlt : s.2 < ((y.2.length : Nat) : Int) := by omega
    simp [h3, hlt]
theorem set_room {D : SD} {s : slT} {c : CapT} (h : okD D s = true) : setD D s c = if mayC c = true then (0, putD D s c) else (5, D) := by unfold setD; rw [if_pos h]
abbrev Z4 : List CapT := [capZ, capZ, capZ, capZ]
theorem ow1 : addN [] 1 4 = (0, [(1, Z4)]) := rfl
theorem ow2 : addN [(1, Z4)] 2 4 = (0, [(1, Z4), (2, Z4)]) := rfl
theorem ow3 : addN [(1, Z4), (2, Z4)] 3 4 = (0, [(1, Z4), (2, Z4), (3, Z4)]) := rfl
theorem room0 : Room [(1, Z4), (2, Z4), (3, Z4)] := ⟨rfl, by simp⟩
abbrev ActS := (Int × Int) × slT × CapT
abbrev encR (x : ActS) : List Value := encA x.1.1 x.1.2 x.2.1 x.2.2
theorem acts_of : ∀ {rows : List (List Value)}, (∀ r, r ∈ rows → ∃ x : ActS, r = encR x) → ∃ xs : List ActS, rows = xs.map encR
  | [], _ => ⟨[], rfl⟩
  | r :: rows, h => by
    obtain ⟨x, hx⟩ := h r List.mem_cons_self
    obtain ⟨xs, hxs⟩ := acts_of fun r' hr' => h r' (List.mem_cons_of_mem _ hr')
    exact ⟨x :: xs, by rw [hx, hxs]; rfl⟩
theorem acts_rows {W : World} {a : Option Addr} {n cap : Nat} {rows : List (List Value)} (h : IsRows (some .i64 :: some .i64 :: some .i64 :: some .i64 :: capK) W a n cap rows) : ∃ acts : List ActS, acts.length = n ∧ InRows (allOf W) a n 12 (acts.map encR) := by
  obtain ⟨acts, hx⟩ := acts_of (rows := rows) fun r hr => by
    obtain ⟨_, _, rfl, ⟨d, rfl, _⟩, _, _, rfl, ⟨i, rfl, _⟩, _, _, rfl, ⟨s1, rfl, _⟩, _, _, rfl, ⟨s2, rfl, _⟩, h2⟩ := h.all r hr
    obtain ⟨c, rfl⟩ := cap_of h2
    exact ⟨((d, i), (s1, s2), c), rfl⟩
  refine ⟨acts, ?_, ?_⟩
  · have := h.size; rw [hx] at this; simpa using this
  · rw [← hx]; exact rows_in h (by decide)
theorem ext_cells {xs : Array Value} {o : Nat} {ys : List Value} (hle : o + ys.length ≤ xs.size) (h : ∀ j v, ys[j]? = some v → xs[o + j]? = some v) : xs.extract o (o + ys.length) = List.toArray ys := by
  apply Array.ext_getElem?
  intro j
  have e : (List.toArray ys)[j]? = ys[j]? := by simp
  rw [Array.getElem?_extract, e]
  by_cases hj : j < ys.length
  · rw [if_pos (by omega), h j _ (List.getElem?_eq_getElem hj), List.getElem?_eq_getElem hj]
  · rw [if_neg (by omega), List.getElem?_eq_none (by omega)]
theorem ext_part {xs : Array Value} {o k j n : Nat} {ys : List Value} (h : xs.extract o (o + k) = List.toArray ys) (hle : o + k ≤ xs.size) (hj : j + n ≤ k) : xs.extract (o + j) (o + j + n) = List.toArray ((ys.drop j).take n) := by
  apply Array.ext_getElem?
  intro i
  have e : (List.toArray ((ys.drop j).take n))[i]? = ((ys.drop j).take n)[i]? := by simp
  rw [Array.getElem?_extract, e]
  by_cases hi : i < n
  · rw [if_pos (by omega), List.getElem?_take_of_lt hi, List.getElem?_drop]
    have e2 : (List.toArray ys)[j + i]? = ys[j + i]? := by simp
    rw [← e2, ← h, Array.getElem?_extract, if_pos (by omega), Nat.add_assoc]
  · rw [if_neg (by omega), List.getElem?_eq_none (by simp; omega)]
theorem OwnSl.hds {v : Value} {L : List HdT} {cs l : List Chunk} (h : OwnSl 56 10 v L.length (hcs L) cs) (hs : ∀ c, c ∈ cs → c ∈ l) : RowSl l v 10 encE L := OwnSl.rowSl (enc := encE) h (fun _ => rfl) hs
instance : EQ Try.prog 31 [some .i64, some .i64] := ⟨by kernel_rfl⟩
theorem encT_k (s : slT) : AllK [some .i64, some .i64] (encT s) := ⟨_, _, rfl, ⟨_, rfl⟩, _, _, rfl, ⟨_, rfl⟩, rfl⟩
theorem eqT_f {x y : slT} (h : x ≠ y) : eqCells (encT x) (encT y) = false := by
  cases h2 : eqCells (encT x) (encT y) with
  | false => rfl
  | true =>
    have := (eqCells_iff (encT_k x) (encT_k y)).1 h2
    simp only [encT, List.cons.injEq, Value.int.injEq, true_and, and_true] at this
    exact absurd (Prod.ext this.1 this.2) h
end Go.Proofs.Ytikcekfalfllpaa
