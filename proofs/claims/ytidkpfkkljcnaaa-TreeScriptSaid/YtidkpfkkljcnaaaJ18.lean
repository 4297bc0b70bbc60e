/- TreeRemoved's plain law: what is below a slot when another one is taken out. -/
import Derived.Test.YtidkpfkkljcnaaaJ16
set_option linter.unusedVariables false
set_option linter.unusedSimpArgs false
namespace Go.Proofs.Ytidkpfkkljcnaaa
open Go.RowKit

abbrev twD (e : Int) (B : DT) : DT := B.takeWhile fun x => decide (e < x.2)
theorem tw_cons_t {e : Int} {x : SlotT × Int} {B : DT} (h : e < x.2) : twD e (x :: B) = x :: twD e B := List.takeWhile_cons_of_pos (by simpa using h)
theorem tw_cons_f {e : Int} {x : SlotT × Int} {B : DT} (h : ¬ e < x.2) : twD e (x :: B) = [] := List.takeWhile_cons_of_neg (by simpa using h)
theorem decW_t {d : Int} {x : SlotT × Int} {r : DT} (h : d < x.2) : decW d (x :: r) = (x.1, x.2 - 1) :: decW d r := by
  unfold decW
  rw [List.takeWhile_cons_of_pos (by simpa using h), List.dropWhile_cons_of_pos (by simpa using h)]; rfl
theorem decW_f {d : Int} {x : SlotT × Int} {r : DT} (h : ¬ d < x.2) : decW d (x :: r) = x :: r := by
  unfold decW
  rw [List.takeWhile_cons_of_neg (by simpa using h), List.dropWhile_cons_of_neg (by simpa using h)]; rfl
/-- below something above it: all come still -/
theorem tw_dec_above {e d : Int} (h : e < d) : ∀ (B : DT), (twD e (decW d B)).map Prod.fst = (twD e B).map Prod.fst
  | [] => rfl
  | x :: r => by
    by_cases h1 : d < x.2
    · rw [decW_t h1, tw_cons_t (show e < (x.1, x.2 - 1).2 by simp only; omega), tw_cons_t (show e < x.2 by omega), List.map_cons, List.map_cons, tw_dec_above h r]
    · rw [decW_f h1]
/-- nothing that was below it comes below what stands as deep -/
theorem tw_dec_level {e d f : Int} (h : d ≤ e) {B : DT} (hB : DepOk f B) (hf : f ≤ d + 1) : twD e (decW d B) = [] := by
  cases B with
  | nil => rfl
  | cons x r =>
    have := hB.2.1
    by_cases h1 : d < x.2
    · rw [decW_t h1, tw_cons_f (show ¬ e < (x.1, x.2 - 1).2 by simp only; omega)]
    · rw [decW_f h1, tw_cons_f (by omega)]
/-- below something that came up itself -/
theorem tw_dec_in {e d : Int} (h : d < e) : ∀ (B : DT), (twD (e - 1) (decW d B)).map Prod.fst = (twD e B).map Prod.fst
  | [] => rfl
  | x :: r => by
    by_cases h1 : d < x.2
    · rw [decW_t h1]
      by_cases h2 : e < x.2
      · rw [tw_cons_t (show e - 1 < (x.1, x.2 - 1).2 by simp only; omega), tw_cons_t h2, List.map_cons, List.map_cons, tw_dec_in h r]
      · rw [tw_cons_f (show ¬ e - 1 < (x.1, x.2 - 1).2 by simp only; omega), tw_cons_f h2]
    · rw [decW_f h1, tw_cons_f (by omega), tw_cons_f (by omega)]
theorem tw_app {e : Int} {A B : DT} : twD e (A ++ B) = if A.all (fun x => decide (e < x.2)) then A ++ twD e B else twD e A := by
  induction A with
  | nil => rfl
  | cons x A ih =>
    rw [List.cons_append, List.all_cons]
    by_cases h : e < x.2
    · rw [tw_cons_t h, tw_cons_t h, ih, decide_eq_true h, Bool.true_and]; split <;> rfl
    · rw [tw_cons_f h, tw_cons_f h, decide_eq_false h]; rfl
theorem splitD_mid {D : DT} (hn : (D.map Prod.fst).Nodup) {A B : DT} {x : SlotT × Int} (h : D = A ++ x :: B) : splitD x.1 D = some (A, x.2, B) := by
  rw [h]
  refine splitD_of fun z hz e => ?_
  rw [h, List.map_append, List.map_cons] at hn
  exact (List.nodup_append.1 hn).2.2 z.1 (List.mem_map.2 ⟨z, hz, rfl⟩) x.1 List.mem_cons_self e
theorem belowD_mid {D : DT} (hn : (D.map Prod.fst).Nodup) {A B : DT} {x : SlotT × Int} (h : D = A ++ x :: B) : belowD D x.1 = (twD x.2 B).map Prod.fst := by
  unfold belowD; rw [splitD_mid hn h]
/-- what comes up is split where it was split -/
theorem decW_split {d : Int} {t : SlotT × Int} : ∀ (B1 B2 : DT), (∃ B1', decW d (B1 ++ t :: B2) = B1' ++ (t.1, t.2 - 1) :: decW d B2 ∧ d < t.2) ∨ (∃ B1', decW d (B1 ++ t :: B2) = B1' ++ t :: B2)
  | [], B2 => by
    by_cases h : d < t.2
    · exact .inl ⟨[], by rw [List.nil_append, decW_t h]; rfl, h⟩
    · exact .inr ⟨[], by rw [List.nil_append, decW_f h]⟩
  | x :: B1, B2 => by
    by_cases h : d < x.2
    · rw [List.cons_append, decW_t h]
      rcases decW_split (d := d) (t := t) B1 B2 with ⟨B1', h1, h2⟩ | ⟨B1', h1⟩
      · exact .inl ⟨(x.1, x.2 - 1) :: B1', by rw [h1]; rfl, h2⟩
      · exact .inr ⟨(x.1, x.2 - 1) :: B1', by rw [h1]; rfl⟩
    · rw [List.cons_append, decW_f h]
      exact .inr ⟨x :: B1, rfl⟩
theorem filter_ne {L : List SlotT} {s : SlotT} (h : s ∉ L) : L.filter (fun x => decide (x ≠ s)) = L := List.filter_eq_self.2 fun x hx => by
  simp only [decide_eq_true_eq]; exact fun e => h (e ▸ hx)
theorem below_removed {D : DT} {n : Nat} (h : GoodT D n) {A B : DT} {s : SlotT × Int} (hD : D = A ++ s :: B) {t : SlotT × Int} (ht : t ∈ D) (hts : t.1 ≠ s.1) :
    belowD (A ++ decW s.2 B) t.1 = (belowD D t.1).filter (fun x => decide (x ≠ s.1)) := by
  have hg := h.remove s.1
  have hrm : removeD D s.1 = (0, A ++ decW s.2 B) := by unfold removeD; rw [splitD_mid h.nd hD]
  rw [hrm] at hg
  have hnd := h.nd
  rw [hD, List.map_append, List.map_cons] at hnd
  have hn2 := (List.nodup_cons.1 (List.perm_middle.nodup_iff.1 hnd)).1
  have hsA : s.1 ∉ A.map Prod.fst := fun hm => hn2 (List.mem_append_left _ hm)
  have hsB : s.1 ∉ B.map Prod.fst := fun hm => hn2 (List.mem_append_right _ hm)
  have htw : ∀ (e : Int) (X : DT), s.1 ∉ X.map Prod.fst → s.1 ∉ (twD e X).map Prod.fst := fun e X hX hm => by
    obtain ⟨z, hz, e1⟩ := List.mem_map.1 hm
    exact hX (List.mem_map.2 ⟨z, (List.takeWhile_prefix _).subset hz, e1⟩)
  rw [hD] at ht
  rcases List.mem_append.1 ht with ht | ht
  · obtain ⟨A1, A2, rfl⟩ := List.append_of_mem ht
    have hsA2 : s.1 ∉ A2.map Prod.fst := fun hm => hsA (by rw [List.map_append, List.map_cons]; exact List.mem_append_right _ (List.mem_cons_of_mem _ hm))
    rw [belowD_mid hg.nd (A := A1) (B := A2 ++ decW s.2 B) (x := t) (by simp), belowD_mid h.nd (A := A1) (B := A2 ++ s :: B) (x := t) (by rw [hD]; simp), tw_app, tw_app]
    by_cases hal : A2.all (fun x => decide (t.2 < x.2)) = true
    · rw [if_pos hal, if_pos hal, List.map_append, List.map_append, List.filter_append, filter_ne hsA2]
      congr 1
      by_cases hst : t.2 < s.2
      · rw [tw_cons_t hst, List.map_cons, List.filter_cons, tw_dec_above hst, filter_ne (htw _ _ hsB)]
        simp
      · have hdep := h.dep
        rw [hD] at hdep
        have h3 := (DepOk.app.1 hdep).2.2.2
        rw [tw_cons_f hst, tw_dec_level (by omega) h3 (Int.le_refl _)]
        rfl
    · rw [if_neg hal, if_neg hal, filter_ne (htw _ _ hsA2)]
  · rcases List.mem_cons.1 ht with rfl | ht
    · exact absurd rfl hts
    · obtain ⟨B1, B2, rfl⟩ := List.append_of_mem ht
      have hsB2 : s.1 ∉ B2.map Prod.fst := fun hm => hsB (by rw [List.map_append, List.map_cons]; exact List.mem_append_right _ (List.mem_cons_of_mem _ hm))
      rw [belowD_mid h.nd (A := A ++ s :: B1) (B := B2) (x := t) (by rw [hD]; simp)]
      rcases decW_split (d := s.2) (t := t) B1 B2 with ⟨B1', h1, h2⟩ | ⟨B1', h1⟩
      · rw [belowD_mid hg.nd (A := A ++ B1') (B := decW s.2 B2) (x := (t.1, t.2 - 1)) (by rw [h1]; simp), filter_ne (htw _ _ hsB2)]
        exact tw_dec_in h2 B2
      · rw [belowD_mid hg.nd (A := A ++ B1') (B := B2) (x := t) (by rw [h1]; simp), filter_ne (htw _ _ hsB2)]
theorem below_len (D : DT) (s : SlotT) : (belowD D s).length ≤ D.length := by
  unfold belowD
  cases h : splitD s D with
  | none => simp
  | some z =>
    obtain ⟨A, d, B⟩ := z
    simp only
    rw [List.length_map, (splitD_some h).1]
    have := (List.takeWhile_prefix (l := B) fun x => decide (d < x.2)).length_le
    simp; omega
theorem removed_out {D : DT} {n : Nat} (h : GoodT D n) {A B : DT} {s : SlotT × Int} (hD : D = A ++ s :: B) : hasD (A ++ decW s.2 B) s.1 = false ∧ belowD (A ++ decW s.2 B) s.1 = [] := by
  have hnd := h.nd
  rw [hD, List.map_append, List.map_cons] at hnd
  have hn2 := (List.nodup_cons.1 (List.perm_middle.nodup_iff.1 hnd)).1
  have h1 : ∀ x, x ∈ A ++ decW s.2 B → x.1 ≠ s.1 := fun x hx e => by
    have hm : x.1 ∈ (A ++ decW s.2 B).map Prod.fst := List.mem_map.2 ⟨x, hx, rfl⟩
    rw [List.map_append, decW_fst, e] at hm
    exact hn2 hm
  refine ⟨hasD_no.2 h1, ?_⟩
  unfold belowD; rw [splitD_none.2 h1]
end Go.Proofs.Ytidkpfkkljcnaaa
