/- EndsScript: what holds of the endpoints; the walk. -/
import Derived.Test.YthhaldgpddmolaaH4
set_option linter.unusedVariables false
set_option linter.unusedSimpArgs false
namespace Go.Proofs.Ythhaldgpddmolaa
open Go.RowKit

structure GoodS (D : DE) (n : Nat) : Prop where
  ids : (D.map (·.1)).Nodup
  nd : (allT D).Nodup
  len : D.length ≤ n
  each : ∀ x, x ∈ D → x.2.1.length ≤ n
theorem GoodS.none : GoodS [] 0 := ⟨List.nodup_nil, List.nodup_nil, Nat.le_refl _, fun x hx => by cases hx⟩
theorem GoodS.more {D : DE} {n : Nat} (h : GoodS D n) : GoodS D (n + 1) := ⟨h.ids, h.nd, Nat.le_succ_of_le h.len, fun x hx => Nat.le_succ_of_le (h.each x hx)⟩
theorem findD_not_mem {D : DE} {id : Int} (h : findD D id = none) : ∀ x, x ∈ D → x.1 ≠ id := fun x hx e => by
  unfold findD at h
  rw [Option.map_eq_none_iff, List.find?_eq_none] at h
  exact h x hx (by simpa using e)
theorem GoodS.add {D : DE} {n : Nat} (h : GoodS D n) (id : Int) : GoodS (addD D id).2 (n + 1) := by
  unfold addD
  split
  · exact h.more
  split
  · exact h.more
  rename_i hc hf
  have hno := findD_not_mem (D := D) (id := id) (by cases hx : findD D id with | none => rfl | some r => rw [hx] at hf; exact absurd rfl hf)
  refine ⟨?_, ?_, by rw [List.length_append, List.length_singleton]; exact Nat.succ_le_succ h.len, fun x hx => ?_⟩
  · rw [List.map_append, List.nodup_append]
    refine ⟨h.ids, by simp, fun a ha b hb e => ?_⟩
    obtain ⟨x, hx, rfl⟩ := List.mem_map.1 ha
    have : b = id := by simpa using hb
    exact hno x hx (by rw [e, this])
  · rw [allT_append]; simpa [allT] using h.nd
  · rcases List.mem_append.1 hx with hx | hx
    · exact Nat.le_succ_of_le (h.each x hx)
    · rw [List.mem_singleton.1 hx]; exact Nat.zero_le _
theorem allT_sub {D D' : DE} (h : D'.Sublist D) : (allT D').Sublist (allT D) := by
  unfold allT
  induction h with
  | slnil => exact .slnil
  | cons a _ ih => rw [List.flatMap_cons]; exact ih.trans (List.sublist_append_right _ _)
  | cons_cons a _ ih => rw [List.flatMap_cons, List.flatMap_cons]; exact List.Sublist.append (List.Sublist.refl _) ih
theorem GoodS.drop {D : DE} {n : Nat} (h : GoodS D n) (id : Int) : GoodS (dropD D id).2.2 n := by
  unfold dropD
  split
  · have hs : (D.eraseP fun x => x.1 == id).Sublist D := List.eraseP_sublist
    exact ⟨h.ids.sublist (hs.map _), h.nd.sublist (allT_sub hs), Nat.le_trans hs.length_le h.len, fun x hx => h.each x (hs.subset hx)⟩
  · exact h
theorem updD_len (D : DE) (id : Int) (y : List Int × Bool) : (updD D id y).length = D.length := by unfold updD; rw [List.length_map]
theorem GoodS.wait {D : DE} {n : Nat} (h : GoodS D n) (id t : Int) (s : Bool) : GoodS (waitD D id t s).2 (n + 1) := by
  unfold waitD
  cases hf : findD D id with
  | none => exact h.more
  | some y =>
    simp only
    split
    · exact h.more
    split
    · exact h.more
    split
    · exact h.more
    rename_i h1 h2 h3
    obtain ⟨A, B, rfl, hu⟩ := split_at h.ids (findD_mem hf) rfl
    have hno : t ∉ allT (A ++ (id, y) :: B) := fun hm => h2 (hasT_iff.2 hm)
    have hnd := h.nd
    refine ⟨by rw [updD_ids]; exact h.ids, ?_, by rw [updD_len]; exact Nat.le_succ_of_le h.len, fun x hx => ?_⟩
    · rw [hu]
      simp only [allT_append, allT_cons] at hno hnd ⊢
      have hp : (allT A ++ ((y.1 ++ [t]) ++ allT B)).Perm (t :: (allT A ++ (y.1 ++ allT B))) := by
        have := (List.perm_middle (a := t) (l₁ := allT A ++ y.1) (l₂ := allT B))
        simpa using this
      rw [hp.nodup_iff, List.nodup_cons]
      exact ⟨hno, hnd⟩
    · rw [hu] at hx
      rcases List.mem_append.1 hx with hx | hx
      · exact Nat.le_succ_of_le (h.each x (List.mem_append_left _ hx))
      · rcases List.mem_cons.1 hx with rfl | hx
        · have := h.each (id, y) (List.mem_append_right _ List.mem_cons_self)
          simp only [List.length_append, List.length_singleton]
          exact Nat.succ_le_succ this
        · exact Nat.le_succ_of_le (h.each x (List.mem_append_right _ (List.mem_cons_of_mem _ hx)))
theorem GoodS.remove {D : DE} {n : Nat} (h : GoodS D n) (t : Int) : GoodS (removeD D t).2 n := by
  unfold removeD
  cases hf : D.find? fun x => decide (t ∈ x.2.1) with
  | none => exact h
  | some x =>
    obtain ⟨A, B, rfl, hu⟩ := split_at h.ids (List.mem_of_find?_eq_some hf) rfl
    have hnd := h.nd
    have hs : (x.2.1.eraseIdx (x.2.1.idxOf t)).Sublist x.2.1 := List.eraseIdx_sublist ..
    simp only
    refine ⟨by rw [updD_ids]; exact h.ids, ?_, by rw [updD_len]; exact h.len, fun z hz => ?_⟩
    · rw [hu]
      simp only [allT_append, allT_cons] at hnd ⊢
      exact hnd.sublist (List.Sublist.append_left (List.Sublist.append_right hs _) _)
    · rw [hu] at hz
      rcases List.mem_append.1 hz with hz | hz
      · exact h.each z (List.mem_append_left _ hz)
      · rcases List.mem_cons.1 hz with rfl | hz
        · exact Nat.le_trans hs.length_le (h.each x (List.mem_append_right _ List.mem_cons_self))
        · exact h.each z (List.mem_append_right _ (List.mem_cons_of_mem _ hz))
theorem dropD_len {D : DE} {n : Nat} (h : GoodS D n) (id : Int) : (dropD D id).1.length ≤ n := by
  unfold dropD
  cases hf : findD D id with
  | none => exact Nat.zero_le _
  | some y => exact h.each _ (findD_mem hf)
theorem listD_len {D : DE} {n : Nat} (h : GoodS D n) (id : Int) : (listD D id).1.length ≤ n := by
  unfold listD
  cases hf : findD D id with
  | none => exact Nat.zero_le _
  | some y =>
    simp only
    split
    · exact Nat.zero_le _
    · exact h.each _ (findD_mem hf)
theorem IntSl.mono {l l2 : List Chunk} {v : Value} {xs : List Int} (h : IntSl l v xs) (hs : ∀ c, c ∈ l → c ∈ l2) : IntSl l2 v xs := by
  obtain ⟨a, cap, e, hI⟩ := h
  refine ⟨a, cap, e, fun h0 => ?_⟩
  obtain ⟨b, off, cs, t, fz, h1, h2, h3⟩ := hI h0
  exact ⟨b, off, cs, t, fz, h1, hs _ h2, h3⟩
theorem Fn.mono' {P : Program} {f : FuncId} {args : List Value} {l : List Chunk} {K K' : Value → List Chunk → Prop} (h : Fn P f args l K) (hk : ∀ v l', K v l' → K' v l') : Fn P f args l K' := Fn.re .refl h fun v l' h => ⟨l', .refl, hk v l' h⟩
theorem Fn.mvD {P : Program} {f : FuncId} {args : List Value} {M A F : List Chunk} {Pv : Value → List Chunk → Value → Prop} {I : List Chunk → Prop} (h : Fn P f args (A ++ (M ++ F)) fun v l' => ∃ sl cs, Pv sl cs v ∧ ∃ A', I A' ∧ l' = cs ++ (A' ++ (M ++ F))) :
    Fn P f args (M ++ (A ++ F)) fun v l' => ∃ sl cs, Pv sl cs v ∧ ∃ A', I A' ∧ l' = M ++ (cs ++ (A' ++ F)) :=
  Fn.re (Keep.of_perm (List.perm_append_comm_assoc M A F)) h fun v l' ⟨sl, cs, h1, A', h2, h3⟩ => ⟨_, by rw [h3]; exact Keep.of_perm (((List.perm_append_comm_assoc A' M F).append_left cs).trans (List.perm_append_comm_assoc cs M _)), sl, cs, h1, A', h2, rfl⟩
end Go.Proofs.Ythhaldgpddmolaa
