/- TreeRebuilt's plain law: a tree laid anew, level by level. -/
import Derived.Test.YtidkpfkkljcnaaaJ15
set_option linter.unusedVariables false
set_option linter.unusedSimpArgs false
namespace Go.Proofs.Ytidkpfkkljcnaaa
open Go.RowKit

/-- the levels below d of L, those up to d of R -/
def lvl (d : Int) (L R : DT) : DT := L.filter (fun x => decide (x.2 < d)) ++ R.filter (fun x => decide (x.2 ≤ d))
theorem lvl_skip {d : Int} {L R : DT} {x : SlotT × Int} (h : x.2 ≠ d) : lvl d (L ++ [x]) R = lvl d L (x :: R) := by
  unfold lvl
  rw [List.filter_append, List.filter_cons, List.filter_cons, List.filter_nil, List.append_assoc]
  by_cases h1 : x.2 < d
  · rw [decide_eq_true h1, decide_eq_true (show x.2 ≤ d by omega)]; rfl
  · rw [decide_eq_false h1, decide_eq_false (show ¬ x.2 ≤ d by omega)]; rfl
theorem lvl_up (d : Int) (D : DT) : lvl d [] D = lvl (d + 1) D [] := by
  unfold lvl
  rw [List.filter_nil, List.nil_append, List.filter_nil, List.append_nil]
  apply List.filter_congr
  intro x _
  have : (x.2 ≤ d) = (x.2 < d + 1) := propext (by omega)
  simp only [this]
theorem lvl_roots {D : DT} {n : Nat} (h : GoodT D n) : D.filter (fun x => decide (x.2 = 0)) = lvl 1 D [] := by
  unfold lvl
  rw [List.filter_nil, List.append_nil]
  apply List.filter_congr
  intro x hx
  have := (h.dep.bound x hx).1
  have : (x.2 = 0) = (x.2 < 1) := propext (by omega)
  simp only [this]
theorem lvl_all {D : DT} {n : Nat} (h : GoodT D n) : lvl ((D.length : Int) + 1) D [] = D := by
  unfold lvl
  rw [List.filter_nil, List.append_nil]
  apply List.filter_eq_self.2
  intro x hx
  have := (h.dep.bound x hx).2
  simp only [decide_eq_true_eq]; omega
theorem lvl_mem {d : Int} {L R : DT} {x : SlotT × Int} (h : x ∈ lvl d L R) : x ∈ L ∨ x ∈ R := by
  unfold lvl at h
  rcases List.mem_append.1 h with h | h
  · exact .inl (List.mem_filter.1 h).1
  · exact .inr (List.mem_filter.1 h).1
theorem lvl_root {D : DT} {n : Nat} (h : GoodT D n) {i : Nat} {x : SlotT × Int} (hx : D[i]? = some x) :
    rootD ((D.take i).filter fun x => decide (x.2 = 0)) x.1 = (0, (D.take i).filter (fun x => decide (x.2 = 0)) ++ [(x.1, 0)]) := by
  unfold rootD
  rw [if_neg]
  intro h2
  rw [hasD_yes] at h2
  obtain ⟨y, hy, e⟩ := List.mem_map.1 h2
  obtain ⟨hy, _⟩ := List.mem_filter.1 hy
  obtain ⟨k, hk⟩ := List.mem_iff_getElem?.1 hy
  rw [List.getElem?_take] at hk
  split at hk
  · exact nodup_at h.nd (by assumption) hk hx e
  · cases hk
/-- the last one ahead with a lesser depth, and what Child makes of it -/
theorem lvl_child {D L R : DT} {n : Nat} {x y : SlotT × Int} {d : Int} {p : Nat} (h : GoodT D n) (hD : D = L ++ x :: R) (hx : x.2 = d) (hp : p < L.length) (hy : D[p]? = some y) (hyd : y.2 < d) (hm : ∀ m z, p < m → m < L.length → D[m]? = some z → d ≤ z.2) :
    childD (lvl d (L ++ [x]) R) y.1 x.1 = (0, lvl d L (x :: R)) := by
  have hyL : L[p]? = some y := by rw [hD, List.getElem?_append_left hp] at hy; exact hy
  obtain ⟨M, M2, hML, hMl⟩ : ∃ M M2, L = M ++ y :: M2 ∧ M.length = p := by
    refine ⟨L.take p, L.drop (p + 1), ?_, by simp; omega⟩
    have h1 := List.take_append_drop p L
    rw [List.drop_eq_getElem_cons hp] at h1
    rw [List.getElem?_eq_getElem hp] at hyL
    rw [Option.some.inj hyL] at h1
    exact h1.symm
  have hM2 : ∀ z, z ∈ M2 → d ≤ z.2 := fun z hz => by
    obtain ⟨k, hk⟩ := List.mem_iff_getElem?.1 hz
    have hkl := (List.getElem?_eq_some_iff.1 hk).1
    refine hm (p + 1 + k) z (by omega) (by rw [hML]; simp; omega) ?_
    rw [hD, hML, List.getElem?_append_left (by simp; omega), List.getElem?_append_right (by omega), hMl, show p + 1 + k - p = k + 1 by omega, List.getElem?_cons_succ]
    exact hk
  have hfM2 : M2.filter (fun x => decide (x.2 < d)) = [] := List.filter_eq_nil_iff.2 fun z hz => by
    have := hM2 z hz; simp only [decide_eq_true_eq]; omega
  have hnext : d ≤ y.2 + 1 := by
    have hd := h.dep
    rw [hD, hML, List.append_assoc, DepOk.app] at hd
    obtain ⟨_, _, _, h4⟩ := hd
    cases M2 with
    | nil => have := h4.2.1; omega
    | cons z M2 => have h5 := h4.2.1; have h6 := hM2 z List.mem_cons_self; omega
  have hyd1 : y.2 + 1 = d := by omega
  have hnd := h.nd
  rw [hD, List.map_append, List.map_cons] at hnd
  have hnd2 := List.nodup_cons.1 (List.perm_middle.nodup_iff.1 hnd)
  have hT : lvl d (L ++ [x]) R = M.filter (fun x => decide (x.2 < d)) ++ (y.1, y.2) :: R.filter (fun x => decide (x.2 ≤ d)) := by
    unfold lvl
    rw [List.filter_append, hML, List.filter_append, List.filter_cons, hfM2, decide_eq_true hyd, List.filter_cons, List.filter_nil, decide_eq_false (show ¬ x.2 < d by omega)]
    simp
  have hT2 : lvl d L (x :: R) = M.filter (fun x => decide (x.2 < d)) ++ (y.1, y.2) :: (x.1, y.2 + 1) :: R.filter (fun x => decide (x.2 ≤ d)) := by
    unfold lvl
    rw [hML, List.filter_append, List.filter_cons, hfM2, decide_eq_true hyd, List.filter_cons, decide_eq_true (show x.2 ≤ d by omega), hyd1, ← hx]
    simp
  have hno : hasD (lvl d (L ++ [x]) R) x.1 = false := hasD_no.2 fun z hz e => by
    rw [hT] at hz
    rcases List.mem_append.1 hz with hz | hz
    · exact hnd2.1 (List.mem_append_left _ (List.mem_map.2 ⟨z, by rw [hML]; exact List.mem_append_left _ (List.mem_filter.1 hz).1, e⟩))
    · rcases List.mem_cons.1 hz with rfl | hz
      · exact hnd2.1 (List.mem_append_left _ (List.mem_map.2 ⟨y, by rw [hML]; simp, e⟩))
      · exact hnd2.1 (List.mem_append_right _ (List.mem_map.2 ⟨z, (List.mem_filter.1 hz).1, e⟩))
  have hsp : splitD y.1 (lvl d (L ++ [x]) R) = some (M.filter (fun x => decide (x.2 < d)), y.2, R.filter (fun x => decide (x.2 ≤ d))) := by
    rw [hT]
    refine splitD_of fun z hz e => ?_
    have h1 : (L.map Prod.fst).Nodup := (List.nodup_append.1 hnd).1
    rw [hML, List.map_append, List.map_cons] at h1
    exact (List.nodup_append.1 h1).2.2 z.1 (List.mem_map.2 ⟨z, (List.mem_filter.1 hz).1, rfl⟩) y.1 List.mem_cons_self e
  unfold childD
  rw [hsp]
  simp only
  rw [hno, hT2]
  rfl
theorem RowSl.mono {α : Type} {l l' : List Chunk} {v : Value} {k : Nat} {enc : α → List Value} {xs : List α} (h : RowSl l v k enc xs) (hs : ∀ c, c ∈ l → c ∈ l') : RowSl l' v k enc xs := by
  obtain ⟨a, cap, h1, h2⟩ := h
  exact ⟨a, cap, h1, fun h0 => by
    obtain ⟨b, off, cs, t, fz, k1, k2, k3⟩ := h2 h0
    exact ⟨b, off, cs, t, fz, k1, hs _ k2, k3⟩⟩
theorem lvl_small {d : Int} {D L R : DT} {n : Nat} (h : GoodT D n) (hn : n ≤ 1000000) (hD : ∀ x, x ∈ L ∨ x ∈ R → x ∈ D) : SmallD (lvl d L R) := fun x hx => h.small hn x (hD x (lvl_mem hx))
end Go.Proofs.Ytidkpfkkljcnaaa
