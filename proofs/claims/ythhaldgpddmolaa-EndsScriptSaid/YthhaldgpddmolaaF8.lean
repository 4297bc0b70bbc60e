/- EndsOnce, the plain law. -/
import Derived.Test.YthhaldgpddmolaaF7
import Derived.Test.YthhaldgpddmolaaX2
set_option linter.unusedVariables false
set_option linter.unusedSimpArgs false
namespace Go.Proofs.Ythhaldgpddmolaa
open Go.RowKit

def allT (D : DE) : List Int := D.flatMap (·.2.1)
structure Ends4 (D : DE) : Prop where
  ids : D.map (·.1) = [1, 2, 3, 4]
  el : ∀ t, t ∈ allT D → 1 ≤ t ∧ t ≤ 6
  nd : (allT D).Nodup
theorem allT_append (A B : DE) : allT (A ++ B) = allT A ++ allT B := List.flatMap_append
theorem allT_cons (x : Int × List Int × Bool) (B : DE) : allT (x :: B) = x.2.1 ++ allT B := rfl
theorem mem_allT {D : DE} {t : Int} : t ∈ allT D ↔ ∃ x, x ∈ D ∧ t ∈ x.2.1 := by unfold allT; rw [List.mem_flatMap]
theorem hasT_iff {D : DE} {t : Int} : hasT D t = true ↔ t ∈ allT D := by
  unfold hasT
  rw [List.any_eq_true, mem_allT]
  exact ⟨fun ⟨x, h1, h2⟩ => ⟨x, h1, of_decide_eq_true h2⟩, fun ⟨x, h1, h2⟩ => ⟨x, h1, decide_eq_true h2⟩⟩
theorem split_at {D : DE} {id : Int} (hn : (D.map (·.1)).Nodup) {x : Int × List Int × Bool} (hx : x ∈ D) (hid : x.1 = id) : ∃ A B, D = A ++ x :: B ∧ ∀ y, updD D id y = A ++ (id, y) :: B := by
  obtain ⟨A, B, rfl⟩ := List.append_of_mem hx
  rw [List.map_append, List.map_cons, List.nodup_append] at hn
  obtain ⟨h1, h2, h3⟩ := hn
  rw [List.nodup_cons] at h2
  have key : ∀ (L : DE) (y : List Int × Bool), (∀ z, z ∈ L → z.1 ≠ id) → L.map (fun z => if z.1 = id then (z.1, y) else z) = L := fun L y hL => by
    conv => rhs; rw [← List.map_id L]
    apply List.map_congr_left
    intro z hz
    rw [if_neg (hL z hz)]; rfl
  refine ⟨A, B, rfl, fun y => ?_⟩
  unfold updD
  rw [List.map_append, List.map_cons, key A y fun z hz e => h3 _ (List.mem_map.2 ⟨z, hz, rfl⟩) _ List.mem_cons_self (by rw [e, hid]), key B y fun z hz e => h2.1 (List.mem_map.2 ⟨z, hz, by rw [e, hid]⟩), if_pos hid, hid]
theorem updD_ids (D : DE) (id : Int) (y : List Int × Bool) : (updD D id y).map (·.1) = D.map (·.1) := by
  unfold updD
  rw [List.map_map]
  apply List.map_congr_left
  intro x _
  simp only [Function.comp_apply]; split <;> rfl
theorem findD_mem {D : DE} {id : Int} {y : List Int × Bool} (h : findD D id = some y) : (id, y) ∈ D := by
  unfold findD at h
  rw [Option.map_eq_some_iff] at h
  obtain ⟨x, hx, rfl⟩ := h
  have h1 := List.find?_some hx
  have h2 := List.mem_of_find?_eq_some hx
  have : x.1 = id := by simpa using h1
  rw [← this]; exact h2
theorem one_of_nodup {D : DE} (h : (allT D).Nodup) (t : Int) : OneAt D t := fun x y hx hy h1 h2 => by
  by_cases e : x = y
  · rw [e]
  · exfalso
    unfold allT at h
    rw [List.nodup_iff_pairwise_ne, List.pairwise_flatMap] at h
    have hp := h.2
    have key : ∀ (L : DE), L.Pairwise (fun a b => ∀ x ∈ a.2.1, ∀ y ∈ b.2.1, x ≠ y) → x ∈ L → y ∈ L → False := fun L hL h3 h4 => by
      induction L with
      | nil => cases h3
      | cons z L ih =>
        rw [List.pairwise_cons] at hL
        rcases List.mem_cons.1 h3 with r1 | r1 <;> rcases List.mem_cons.1 h4 with r2 | r2
        · exact e (by rw [r1, r2])
        · exact hL.1 y r2 t (by rw [← r1]; exact h1) t h2 rfl
        · exact hL.1 x r1 t (by rw [← r2]; exact h2) t h1 rfl
        · exact ih hL.2 r1 r2
    exact key D hp hx hy
theorem ids_nodup {D : DE} (h : D.map (·.1) = [1, 2, 3, 4]) : (D.map (·.1)).Nodup := by rw [h]; decide
theorem Ends4.wait {D : DE} (h : Ends4 D) (id t : Int) (s : Bool) (h6 : t ≤ 6) : Ends4 (waitD D id t s).2 := by
  unfold waitD
  cases hf : findD D id with
  | none => exact h
  | some y =>
    simp only
    split
    · exact h
    split
    · exact h
    split
    · exact h
    rename_i h1 h2 h3
    obtain ⟨A, B, rfl, hu⟩ := split_at (ids_nodup h.ids) (findD_mem hf) rfl
    have hno : t ∉ allT (A ++ (id, y) :: B) := fun hm => h2 (hasT_iff.2 hm)
    have hel := h.el
    have hnd := h.nd
    refine ⟨by rw [updD_ids]; exact h.ids, ?_, ?_⟩ <;> simp only [hu, allT_append, allT_cons] at hno hel hnd ⊢
    · intro u hm
      simp only [List.mem_append, List.mem_singleton] at hm
      rcases hm with hm | (hm | rfl) | hm
      · exact hel u (List.mem_append_left _ hm)
      · exact hel u (List.mem_append_right _ (List.mem_append_left _ hm))
      · exact ⟨by omega, h6⟩
      · exact hel u (List.mem_append_right _ (List.mem_append_right _ hm))
    · have hp : (allT A ++ ((y.1 ++ [t]) ++ allT B)).Perm (t :: (allT A ++ (y.1 ++ allT B))) := by
        have := (List.perm_middle (a := t) (l₁ := allT A ++ y.1) (l₂ := allT B))
        simpa using this
      rw [hp.nodup_iff, List.nodup_cons]
      exact ⟨hno, hnd⟩
theorem Ends4.remove {D : DE} (h : Ends4 D) (t : Int) : Ends4 (removeD D t).2 := by
  unfold removeD
  cases hf : D.find? fun x => decide (t ∈ x.2.1) with
  | none => exact h
  | some x =>
    obtain ⟨A, B, rfl, hu⟩ := split_at (ids_nodup h.ids) (List.mem_of_find?_eq_some hf) rfl
    have hel := h.el
    have hnd := h.nd
    have hs : (x.2.1.eraseIdx (x.2.1.idxOf t)).Sublist x.2.1 := List.eraseIdx_sublist ..
    simp only
    refine ⟨by rw [updD_ids]; exact h.ids, ?_, ?_⟩ <;> simp only [hu, allT_append, allT_cons] at hel hnd ⊢
    · intro u hm
      have hss : (allT A ++ (x.2.1.eraseIdx (x.2.1.idxOf t) ++ allT B)).Sublist (allT A ++ (x.2.1 ++ allT B)) := List.Sublist.append_left (List.Sublist.append_right hs _) _
      exact hel u (hss.subset hm)
    · have hss : (allT A ++ (x.2.1.eraseIdx (x.2.1.idxOf t) ++ allT B)).Sublist (allT A ++ (x.2.1 ++ allT B)) := List.Sublist.append_left (List.Sublist.append_right hs _) _
      exact hnd.sublist hss
theorem nodup_sub : ∀ {l m : List Int}, l.Nodup → (∀ x, x ∈ l → x ∈ m) → l.length ≤ m.length
  | [], m, _, _ => Nat.zero_le _
  | x :: l, m, hn, hs => by
    rw [List.nodup_cons] at hn
    have hx := hs x List.mem_cons_self
    have ih := nodup_sub (l := l) (m := m.erase x) hn.2 fun y hy => (List.mem_erase_of_ne (fun e => hn.1 (by rw [← e]; exact hy))).2 (hs y (List.mem_cons_of_mem _ hy))
    rw [List.length_erase_of_mem hx] at ih
    have := List.length_pos_of_mem hx
    rw [List.length_cons]; omega
theorem nodup_le : ∀ {l : List Int}, l.Nodup → (∀ t, t ∈ l → 1 ≤ t ∧ t ≤ 6) → l.length ≤ 6 := fun {l} hn he => by
  have hsub : ∀ t, t ∈ l → t ∈ ([1, 2, 3, 4, 5, 6] : List Int) := fun t ht => by
    obtain ⟨h1, h2⟩ := he t ht
    have : t = 1 ∨ t = 2 ∨ t = 3 ∨ t = 4 ∨ t = 5 ∨ t = 6 := by omega
    rcases this with rfl | rfl | rfl | rfl | rfl | rfl <;> decide
  exact nodup_sub hn hsub
theorem Ends4.len {D : DE} (h : Ends4 D) : ∀ x, x ∈ D → x.2.1.length ≤ 1000000 := fun x hx => by
  have h1 := nodup_le h.nd h.el
  have h2 : x.2.1.length ≤ (allT D).length := by
    unfold allT
    rw [List.flatMap_def]
    exact (List.sublist_flatten_of_mem (L := D.map (·.2.1)) (List.mem_map.2 ⟨x, hx, rfl⟩)).length_le
  omega
theorem wait_same {D : DE} (id t : Int) (s : Bool) (h1 : 0 < (listD D id).1.length) (h2 : (!((listD D id).2 == s)) = true) : ¬ (waitD D id t s).1 = 0 := by
  unfold listD at h1 h2
  unfold waitD
  cases hf : findD D id with
  | none => rw [hf] at h1; simp at h1
  | some y =>
    rw [hf] at h1 h2
    simp only at h1 h2 ⊢
    by_cases h0 : y.1.length = 0
    · rw [if_pos h0] at h1; simp at h1
    · rw [if_neg h0] at h1 h2
      split
      · exact (by decide : ¬ (2 : Int) = 0)
      split
      · exact (by decide : ¬ (16 : Int) = 0)
      · rw [if_pos ⟨h1, h2⟩]; exact (by decide : ¬ (16 : Int) = 0)
theorem list_k {D : DE} (h : Ends4 D) {k : Nat} {x : Int × List Int × Bool} (hx : D[k]? = some x) : (listD D ((k : Int) + 1)).1 = x.2.1 := by
  have hid : x.1 = (k : Int) + 1 := by
    have h1 : (D.map (·.1))[k]? = some x.1 := by rw [List.getElem?_map, hx]; rfl
    rw [h.ids] at h1
    match k, h1 with
    | 0, h1 => simpa using h1.symm
    | 1, h1 => simpa using h1.symm
    | 2, h1 => simpa using h1.symm
    | 3, h1 => simpa using h1.symm
    | k + 4, h1 => simp at h1
  have hf : findD D ((k : Int) + 1) = some x.2 := by
    unfold findD
    have hs : (D.find? fun y => y.1 == (k : Int) + 1).isSome = true := List.find?_isSome.2 ⟨x, List.mem_of_getElem? hx, by simpa using hid⟩
    obtain ⟨y, hy⟩ := Option.isSome_iff_exists.1 hs
    rw [hy]
    have h1 : y.1 = (k : Int) + 1 := by have := List.find?_some hy; simpa using this
    have : y = x := nd_inj (f := (·.1)) (ids_nodup h.ids) (List.mem_of_find?_eq_some hy) (List.mem_of_getElem? hx) (by rw [h1, hid])
    rw [this]; rfl
  unfold listD
  rw [hf]
  simp only
  split
  · rename_i h0; exact (List.eq_nil_of_length_eq_zero h0).symm
  · rfl
/-- how often v stands in ys -/
def cnt (ys : List Int) (v : Nat) : Int := ((ys.count (v : Int) : Nat) : Int)
theorem cnt_snoc (ys : List Int) (u : Nat) : upd (cnt ys) u (cnt ys u + 1) = cnt (ys ++ [(u : Int)]) := by
  funext v
  unfold upd cnt
  rw [List.count_append, List.count_singleton]
  by_cases e : v = u
  · subst e; simp
  · have : ¬ (v : Int) = (u : Int) := by omega
    rw [if_neg e, if_neg (by simp; omega)]; simp
theorem cnt_le (ys : List Int) (v : Nat) : 0 ≤ cnt ys v ∧ cnt ys v ≤ ys.length := by
  have := List.count_le_length (a := (v : Int)) (l := ys)
  unfold cnt; omega
theorem cnt_one {ys : List Int} (h : ys.Nodup) (v : Nat) : cnt ys v ≤ 1 := by
  have := List.nodup_iff_count.1 h (v : Int)
  unfold cnt; omega
abbrev ctA (b : Nat) (pr : Nat → Int) : Chunk := (b, .cells (Array.ofFn (n := 7) fun i => .int .i64 (pr i.val)) 36 (0, 0))
theorem ctA_zero : (Array.ofFn (n := 7) fun i => Value.int .i64 (cnt [] i.val)) = List.toArray [.int .i64 0, .int .i64 0, .int .i64 0, .int .i64 0, .int .i64 0, .int .i64 0, .int .i64 0] := by kernel_rfl
theorem ctA_get (pr : Nat → Int) (k : Nat) (hk : k < 7) : (Array.ofFn (n := 7) fun i => Value.int .i64 (pr i.val))[k * 1]? = some (.int .i64 (pr k)) := by simp [hk]
theorem ctA_set (pr : Nat → Int) (k : Nat) (hk : k < 7) (v : Int) : (Array.ofFn (n := 7) fun i => Value.int .i64 (pr i.val)).setIfInBounds (k * 1) (.int .i64 v) = Array.ofFn (n := 7) fun i => Value.int .i64 (upd pr k v i.val) := by
  apply Array.ext_getElem?
  intro j
  rw [Nat.mul_one]
  by_cases hj : j < 7
  · by_cases e : k = j
    · subst e; rw [Array.getElem?_setIfInBounds_self_of_lt (by simpa using hk)]; simp [hk, upd]
    · rw [Array.getElem?_setIfInBounds_ne e]; simp [hj, upd, Ne.symm e]
  · rw [Array.getElem?_eq_none (by simpa using hj), Array.getElem?_eq_none (by simpa using hj)]
theorem low_small (u : Nat) (h : u < 7) : lowV (u : Int) (7 : Nat) = u := by
  unfold lowV
  rw [Int.emod_eq_of_lt (by omega) (by omega), Int.emod_eq_of_lt (by omega) (by omega)]; omega
end Go.Proofs.Ythhaldgpddmolaa
