/- QueueOnce, the plain law. -/
import Derived.Test.YtegnnombkjmolaaW8
set_option linter.unusedVariables false
set_option linter.unusedSimpArgs false
namespace Go.Proofs.Ytegnnombkjmolaa
open Go.RowKit

theorem findP_none_mem {X : Nat → List Int} {id : Int} (h : findP X id = none) (p : Nat) (hp : p < 8) : id ∉ X p := fun hm => by
  have hf : p ∈ fallT (neX X) 0 := (fallT_mem _ _ _).2 ⟨Nat.zero_le _, hp, by
    simp [neX]; intro e; rw [e] at hm; cases hm⟩
  have := List.find?_eq_none.1 h p hf
  simp [hm] at this
theorem fallT_sorted (ne : Nat → Bool) : (fallT ne 0).Pairwise (fun a b => b < a) := by
  unfold fallT
  refine List.Pairwise.filter _ ?_
  rw [List.pairwise_map]
  refine List.Pairwise.imp_of_mem (R := (· < ·)) ?_ List.pairwise_lt_range
  intro a b ha hb hab
  rw [List.mem_range] at ha hb
  omega
structure Once (X : Nat → List Int) (pr : Nat → Int) (n : Nat) : Prop where
  len : ∀ p, (X p).length ≤ n
  ids : ∀ p x, x ∈ X p → 1 ≤ x ∧ x ≤ 9 ∧ pr x.toNat = (p : Int)
  nd : ∀ p, (X p).Nodup
  hi : ∀ p, 8 ≤ p → X p = []
theorem Once.none : Once noX (fun _ => 0) 0 := ⟨fun _ => Nat.le_refl _, fun _ _ h => (by cases h), fun _ => List.nodup_nil, fun _ _ => rfl⟩
theorem Once.more {X : Nat → List Int} {pr : Nat → Int} {n : Nat} (h : Once X pr n) : Once X pr (n + 1) := ⟨fun p => Nat.le_succ_of_le (h.len p), h.ids, h.nd, h.hi⟩
theorem erased (xs : List Int) (id : Int) (h : xs.Nodup) : id ∉ xs.eraseIdx (xs.idxOf id) := by
  induction xs with
  | nil => simp
  | cons x xs ih =>
    rw [List.nodup_cons] at h
    by_cases e : x = id
    · subst e; simpa using h.1
    · rw [List.idxOf_cons, show (x == id) = false by simpa using e]
      simp only [cond_false, List.eraseIdx_cons_succ, List.mem_cons, not_or]
      exact ⟨fun e' => e e'.symm, ih h.2⟩
theorem Once.drop {X : Nat → List Int} {pr : Nat → Int} {n : Nat} (h : Once X pr n) (id : Int) : Once (dropQ X id).2 pr n := by
  unfold dropQ
  cases hf : findP X id with
  | none => exact h
  | some p =>
    obtain ⟨hp, hm, _⟩ := findP_some X id p hf
    have hs : ((X p).eraseIdx ((X p).idxOf id)).Sublist (X p) := List.eraseIdx_sublist ..
    simp only
    refine ⟨fun q => ?_, fun q x hx => ?_, fun q => ?_, fun q hq => ?_⟩ <;> unfold upd at * <;> by_cases e : q = p <;> (first | rw [if_pos e] at * | rw [if_neg e] at *) <;> (try subst e)
    · exact Nat.le_trans hs.length_le (h.len _)
    · exact h.len q
    · exact h.ids _ x (hs.subset hx)
    · exact h.ids _ x hx
    · exact (h.nd _).sublist hs
    · exact h.nd q
    · omega
    · exact h.hi q hq
theorem Once.back {X : Nat → List Int} {pr : Nat → Int} {n : Nat} (h : Once X pr n) (id : Int) : Once (backQ X id).2 pr n := by
  unfold backQ
  cases hf : findP X id with
  | none => exact h
  | some p =>
    obtain ⟨hp, hm, hlt⟩ := findP_some X id p hf
    have hs : ((X p).eraseIdx ((X p).idxOf id)).Sublist (X p) := List.eraseIdx_sublist ..
    have hl : ((X p).eraseIdx ((X p).idxOf id)).length + 1 = (X p).length := by rw [List.length_eraseIdx, if_pos hlt]; omega
    simp only
    refine ⟨fun q => ?_, fun q x hx => ?_, fun q => ?_, fun q hq => ?_⟩ <;> unfold upd at * <;> by_cases e : q = p <;> (first | rw [if_pos e] at * | rw [if_neg e] at *) <;> (try subst e)
    · rw [List.length_append, List.length_singleton, hl]; exact h.len _
    · exact h.len q
    · rcases List.mem_append.1 hx with hx | hx
      · exact h.ids _ x (hs.subset hx)
      · rw [List.mem_singleton.1 hx]; exact h.ids _ _ hm
    · exact h.ids _ x hx
    · refine List.nodup_append.2 ⟨(h.nd _).sublist hs, by simp, fun a ha b hb e => ?_⟩
      rw [List.mem_singleton.1 hb] at e
      subst e
      exact erased _ _ (h.nd _) ha
    · exact h.nd q
    · omega
    · exact h.hi q hq
theorem Once.add {X : Nat → List Int} {pr : Nat → Int} {n : Nat} (h : Once X pr n) (id prio : Int) (h9 : id ≤ 9) (h0 : (addQ X id prio).1 = 0) : Once (addQ X id prio).2 (upd pr id.toNat prio) (n + 1) := by
  unfold addQ at h0 ⊢
  split at h0
  · cases h0
  split at h0
  · cases h0
  rename_i hc hf
  rw [if_neg hc, if_neg hf]
  obtain ⟨p, rfl⟩ : ∃ p : Nat, prio = p := ⟨prio.toNat, by omega⟩
  have hp : p < 8 := by omega
  rw [Int.toNat_natCast]
  have hno : ∀ q, id ∉ X q := fun q hq => by
    by_cases hq8 : q < 8
    · exact findP_none_mem (by cases hx : findP X id with | none => rfl | some r => rw [hx] at hf; exact absurd rfl hf) q hq8 hq
    · rw [h.hi q (by omega)] at hq; cases hq
  have hne : ∀ q x, x ∈ X q → upd pr id.toNat (p : Int) x.toNat = pr x.toNat := fun q x hx => upd_other _ _ _ _ fun e => by
    have := (h.ids q x hx).1
    have e2 : x = id := by omega
    subst e2; exact hno q hx
  simp only
  refine ⟨fun q => ?_, fun q x hx => ?_, fun q => ?_, fun q hq => ?_⟩
  · unfold upd; split
    · rw [List.length_append, List.length_singleton]; exact Nat.succ_le_succ (h.len p)
    · exact Nat.le_succ_of_le (h.len q)
  · by_cases e : q = p
    · subst e; rw [upd_same] at hx
      rcases List.mem_append.1 hx with hx | hx
      · obtain ⟨i1, i2, i3⟩ := h.ids _ x hx
        exact ⟨i1, i2, by rw [hne _ x hx]; exact i3⟩
      · rw [List.mem_singleton.1 hx]; exact ⟨by omega, h9, upd_same ..⟩
    · rw [upd_other _ _ _ _ e] at hx
      obtain ⟨i1, i2, i3⟩ := h.ids _ x hx
      exact ⟨i1, i2, by rw [hne _ x hx]; exact i3⟩
  · unfold upd; split
    · refine List.nodup_append.2 ⟨h.nd p, by simp, fun a ha b hb e => ?_⟩
      rw [List.mem_singleton.1 hb] at e
      subst e
      exact hno p ha
    · exact h.nd q
  · rw [upd_other _ _ _ _ (by omega)]; exact h.hi q hq
theorem Once.sorted {X : Nat → List Int} {pr : Nat → Int} {n : Nat} (h : Once X pr n) : (allX X (fallT (neX X) 0)).Pairwise (fun x y => x ≠ y ∧ pr y.toNat ≤ pr x.toNat) := by
  unfold allX
  rw [List.pairwise_flatMap]
  refine ⟨fun p _ => ?_, ?_⟩
  · refine List.Pairwise.imp_of_mem (R := (· ≠ ·)) ?_ (h.nd p)
    intro x y hx hy hne
    exact ⟨hne, by rw [(h.ids p x hx).2.2, (h.ids p y hy).2.2]; exact Int.le_refl _⟩
  · refine (fallT_sorted _).imp fun {a b} hab x hx y hy => ⟨?_, ?_⟩
    · rintro rfl
      have h1 := (h.ids a x hx).2.2
      have h2 := (h.ids b x hy).2.2
      omega
    · rw [(h.ids a x hx).2.2, (h.ids b y hy).2.2]; omega
theorem Once.each {X : Nat → List Int} {pr : Nat → Int} {n : Nat} (h : Once X pr n) (x : Int) (hx : x ∈ allX X (fallT (neX X) 0)) : 1 ≤ x ∧ x ≤ 9 ∧ (findP X x).isSome = true := by
  unfold allX at hx
  rw [List.mem_flatMap] at hx
  obtain ⟨p, hp, hm⟩ := hx
  obtain ⟨h1, h2, _⟩ := h.ids p x hm
  exact ⟨h1, h2, List.find?_isSome.2 ⟨p, hp, by simpa using hm⟩⟩
theorem Once.all_len {X : Nat → List Int} {pr : Nat → Int} {n : Nat} (h : Once X pr n) : (allX X (fallT (neX X) 0)).length ≤ 8 * n :=
  Nat.le_trans (allX_len X n _ fun p _ => h.len p) (Nat.mul_le_mul_right _ (fallT_len _))
abbrev prA (b : Nat) (pr : Nat → Int) : Chunk := (b, .cells (Array.ofFn (n := 10) fun i => .int .i64 (pr i.val)) 45 (0, 0))
theorem prA_zero : (Array.ofFn (n := 10) fun i => Value.int .i64 ((fun _ => (0 : Int)) i.val)) = List.toArray [.int .i64 0, .int .i64 0, .int .i64 0, .int .i64 0, .int .i64 0, .int .i64 0, .int .i64 0, .int .i64 0, .int .i64 0, .int .i64 0] := by kernel_rfl
theorem prA_get (pr : Nat → Int) (k : Nat) (hk : k < 10) : (Array.ofFn (n := 10) fun i => Value.int .i64 (pr i.val))[k * 1]? = some (.int .i64 (pr k)) := by simp [hk]
theorem prA_set (pr : Nat → Int) (k : Nat) (hk : k < 10) (v : Int) : (Array.ofFn (n := 10) fun i => Value.int .i64 (pr i.val)).setIfInBounds (k * 1) (.int .i64 v) = Array.ofFn (n := 10) fun i => Value.int .i64 (upd pr k v i.val) := by
  apply Array.ext_getElem?
  intro j
  rw [Nat.mul_one]
  by_cases hj : j < 10
  · by_cases e : k = j
    · subst e; rw [Array.getElem?_setIfInBounds_self_of_lt (by simpa using hk)]; simp [hk, upd_same]
    · rw [Array.getElem?_setIfInBounds_ne e]; simp [hj, upd_other _ _ _ _ (Ne.symm e)]
  · rw [Array.getElem?_eq_none (by simpa using hj), Array.getElem?_eq_none (by simpa using hj)]
end Go.Proofs.Ytegnnombkjmolaa
