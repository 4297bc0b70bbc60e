/- The queue and chapter 21's own answer side by side, as plain data. -/
import Derived.Test.YtegnnombkjmolaaY2
set_option linter.unusedVariables false
set_option linter.unusedSimpArgs false
namespace Go.Proofs.Ytegnnombkjmolaa
open Go.RowKit

structure Uniq (X : Nat → List Int) (n : Nat) : Prop where
  len : ∀ p, (X p).length ≤ n
  pos : ∀ p x, x ∈ X p → 1 ≤ x
  uq : ∀ p q x, x ∈ X p → x ∈ X q → p = q
  nd : ∀ p, (X p).Nodup
  hi : ∀ p, 8 ≤ p → X p = []
theorem Uniq.none : Uniq noX 0 := ⟨fun _ => Nat.le_refl _, fun _ _ h => (by cases h), fun _ _ _ h => (by cases h), fun _ => List.nodup_nil, fun _ _ => rfl⟩
theorem Uniq.more {X : Nat → List Int} {n : Nat} (h : Uniq X n) : Uniq X (n + 1) := ⟨fun p => Nat.le_succ_of_le (h.len p), h.pos, h.uq, h.nd, h.hi⟩
/-- a list put in place of the p-th, of the same or fewer, or with id behind, which stands nowhere else -/
theorem Uniq.put {X : Nat → List Int} {n m : Nat} (h : Uniq X n) (p : Nat) (hp : p < 8) (Y : List Int) (hm : n ≤ m) (hl : Y.length ≤ m) (hY : ∀ x, x ∈ Y → 1 ≤ x ∧ ∀ q, x ∈ X q → q = p) (hn : Y.Nodup) : Uniq (upd X p Y) m := by
  refine ⟨fun q => ?_, fun q x hx => ?_, fun q r x h1 h2 => ?_, fun q => ?_, fun q hq => ?_⟩
  · unfold upd; split
    · exact hl
    · exact Nat.le_trans (h.len q) hm
  · unfold upd at hx; split at hx
    · exact (hY x hx).1
    · exact h.pos q x hx
  · unfold upd at h1 h2
    by_cases e1 : q = p <;> by_cases e2 : r = p <;> simp only [e1, e2, if_true, if_false] at h1 h2
    · rw [e1, e2]
    · rw [e1]; exact ((hY x h1).2 r h2).symm
    · rw [e2]; exact (hY x h2).2 q h1
    · exact h.uq q r x h1 h2
  · unfold upd; split
    · exact hn
    · exact h.nd q
  · rw [upd_other _ _ _ _ (by omega)]; exact h.hi q hq
theorem findP_uq {X : Nat → List Int} {n : Nat} (h : Uniq X n) {id : Int} {p : Nat} (hm : id ∈ X p) : findP X id = some p := by
  refine findP_of ?_ hm fun q hq => h.uq q p id hq hm
  by_cases hp : p < 8
  · exact hp
  · rw [h.hi p (by omega)] at hm; cases hm
theorem findP_no {X : Nat → List Int} {n : Nat} (h : Uniq X n) {id : Int} (hf : findP X id = none) (p : Nat) : id ∉ X p := fun hm => by
  rw [findP_uq h hm] at hf; cases hf
theorem Uniq.drop {X : Nat → List Int} {n : Nat} (h : Uniq X n) (id : Int) : Uniq (dropQ X id).2 n := by
  unfold dropQ
  cases hf : findP X id with
  | none => exact h
  | some p =>
    obtain ⟨hp, hm, _⟩ := findP_some X id p hf
    have hs : ((X p).eraseIdx ((X p).idxOf id)).Sublist (X p) := List.eraseIdx_sublist ..
    exact h.put p hp _ (Nat.le_refl _) (Nat.le_trans hs.length_le (h.len p)) (fun x hx => ⟨h.pos p x (hs.subset hx), fun q hq => h.uq q p x hq (hs.subset hx)⟩) ((h.nd p).sublist hs)
theorem Uniq.back {X : Nat → List Int} {n : Nat} (h : Uniq X n) (id : Int) : Uniq (backQ X id).2 n := by
  unfold backQ
  cases hf : findP X id with
  | none => exact h
  | some p =>
    obtain ⟨hp, hm, hlt⟩ := findP_some X id p hf
    have hs : ((X p).eraseIdx ((X p).idxOf id)).Sublist (X p) := List.eraseIdx_sublist ..
    have hl : ((X p).eraseIdx ((X p).idxOf id)).length + 1 = (X p).length := by rw [List.length_eraseIdx, if_pos hlt]; omega
    refine h.put p hp _ (Nat.le_refl _) (by rw [List.length_append, List.length_singleton, hl]; exact h.len p) (fun x hx => ?_) ?_
    · rcases List.mem_append.1 hx with hx | hx
      · exact ⟨h.pos p x (hs.subset hx), fun q hq => h.uq q p x hq (hs.subset hx)⟩
      · rw [List.mem_singleton.1 hx]; exact ⟨h.pos p id hm, fun q hq => h.uq q p id hq hm⟩
    · refine List.nodup_append.2 ⟨(h.nd p).sublist hs, by simp, fun a ha b hb e => ?_⟩
      rw [List.mem_singleton.1 hb] at e
      subst e
      exact erased _ _ (h.nd p) ha
theorem Uniq.add {X : Nat → List Int} {n : Nat} (h : Uniq X n) (id prio : Int) : Uniq (addQ X id prio).2 (n + 1) := by
  unfold addQ
  split
  · exact h.more
  split
  · exact h.more
  rename_i hc hf
  have hno := findP_no h (id := id) (by cases hx : findP X id with | none => rfl | some r => rw [hx] at hf; exact absurd rfl hf)
  refine h.put _ (by omega) _ (Nat.le_succ _) (by rw [List.length_append, List.length_singleton]; exact Nat.succ_le_succ (h.len _)) (fun x hx => ?_) ?_
  · rcases List.mem_append.1 hx with hx | hx
    · exact ⟨h.pos _ x hx, fun q hq => h.uq q _ x hq hx⟩
    · rw [List.mem_singleton.1 hx]; exact ⟨by omega, fun q hq => absurd hq (hno q)⟩
  · refine List.nodup_append.2 ⟨h.nd _, by simp, fun a ha b hb e => ?_⟩
    rw [List.mem_singleton.1 hb] at e
    subst e
    exact hno _ ha

def pairsP (X : Nat → List Int) (p : Nat) : List (Int × Int) := (X p).map fun x => (x, (p : Int))
def refL (X : Nat → List Int) : List (Int × Int) := [7, 6, 5, 4, 3, 2, 1, 0].flatMap (pairsP X)
theorem flatMap_filter {α β : Type} (ne : α → Bool) (f : α → List β) : ∀ (l : List α), (∀ p, p ∈ l → ne p = false → f p = []) → (l.filter ne).flatMap f = l.flatMap f
  | [], _ => rfl
  | p :: l, h => by
    have ih := flatMap_filter ne f l fun q hq => h q (List.mem_cons_of_mem _ hq)
    cases hp : ne p with
    | true => rw [List.filter_cons, hp, if_pos rfl, List.flatMap_cons, List.flatMap_cons, ih]
    | false => rw [List.filter_cons, hp, if_neg (by simp), List.flatMap_cons, h p List.mem_cons_self hp, ih]; rfl
theorem allX_desc (X : Nat → List Int) : allX X (fallT (neX X) 0) = [7, 6, 5, 4, 3, 2, 1, 0].flatMap X := by
  unfold allX fallT
  rw [show ((List.range (8 - 0)).map (7 - ·)) = [7, 6, 5, 4, 3, 2, 1, 0] by decide]
  exact flatMap_filter _ _ _ fun p _ h => by
    unfold neX at h; simpa using h
theorem map_pair (xs : List Int) (c : Int) : (xs.map fun x => (x, c)).map Prod.fst = xs := by
  rw [List.map_map]
  exact List.map_id' xs
theorem fsts_ref (X : Nat → List Int) : fsts (refL X) = allX X (fallT (neX X) 0) := by
  rw [allX_desc]
  unfold fsts refL
  rw [List.map_flatMap]
  congr 1
  funext p
  exact map_pair _ _
theorem mem_all (X : Nat → List Int) (id : Int) : (findP X id).isSome = decide (id ∈ allX X (fallT (neX X) 0)) := by
  unfold allX
  rw [Bool.eq_iff_iff, decide_eq_true_iff, List.mem_flatMap, findP, List.find?_isSome]
  simp
theorem first_all (X : Nat → List Int) : firstQ X = ((allX X (fallT (neX X) 0)).headD 0, decide (0 < (allX X (fallT (neX X) 0)).length)) := by
  unfold firstQ allX
  cases h : fallT (neX X) 0 with
  | nil => rfl
  | cons p r =>
    have hp := (fallT_mem (neX X) 0 p).1 (by rw [h]; exact List.mem_cons_self)
    have hn : X p ≠ [] := by have := hp.2.2; simpa [neX] using this
    obtain ⟨x, xs, hx⟩ := List.exists_cons_of_ne_nil hn
    have e : (p :: r).flatMap X = x :: (xs ++ r.flatMap X) := by rw [List.flatMap_cons, hx]; rfl
    rw [e]
    simp only [List.headD_cons, List.length_cons, hx]
    rw [decide_eq_true (Nat.succ_pos _)]
theorem split8 : ∀ p, p < 8 → [7, 6, 5, 4, 3, 2, 1, 0] = [7, 6, 5, 4, 3, 2, 1, 0].take (7 - p) ++ p :: [7, 6, 5, 4, 3, 2, 1, 0].drop (8 - p) ∧ (∀ q ∈ [7, 6, 5, 4, 3, 2, 1, 0].take (7 - p), p < q) ∧ (∀ q ∈ [7, 6, 5, 4, 3, 2, 1, 0].drop (8 - p), q < p) := by decide
/-- the list around one priority -/
theorem ref_split (X : Nat → List Int) (p : Nat) (hp : p < 8) : ∃ H Lo, (∀ Y, refL (upd X p Y) = H ++ (Y.map (fun x => (x, (p : Int))) ++ Lo)) ∧ refL X = H ++ (pairsP X p ++ Lo) ∧ (∀ y ∈ H, ¬ y.2 < (p : Int) ∧ ∃ q, q ≠ p ∧ y.1 ∈ X q) ∧ (∀ y ∈ Lo, y.2 < (p : Int) ∧ ∃ q, q ≠ p ∧ y.1 ∈ X q) := by
  obtain ⟨h1, h2, h3⟩ := split8 p hp
  obtain ⟨hi, ehi⟩ : ∃ hi, [7, 6, 5, 4, 3, 2, 1, 0].take (7 - p) = hi := ⟨_, rfl⟩
  obtain ⟨lo, elo⟩ : ∃ lo, [7, 6, 5, 4, 3, 2, 1, 0].drop (8 - p) = lo := ⟨_, rfl⟩
  rw [ehi] at h1 h2
  rw [elo] at h1 h3
  have key : ∀ (l : List Nat), (∀ q ∈ l, q ≠ p) → ∀ Y, l.flatMap (pairsP (upd X p Y)) = l.flatMap (pairsP X) := fun l hl Y => by
    induction l with
    | nil => rfl
    | cons q l ih =>
      rw [List.flatMap_cons, List.flatMap_cons, ih fun r hr => hl r (List.mem_cons_of_mem _ hr)]
      congr 1
      unfold pairsP
      rw [upd_other _ _ _ _ (hl q List.mem_cons_self)]
  refine ⟨hi.flatMap (pairsP X), lo.flatMap (pairsP X), fun Y => ?_, ?_, fun y hy => ?_, fun y hy => ?_⟩
  · unfold refL
    rw [h1, List.flatMap_append, List.flatMap_cons, key hi (fun q hq => by have := h2 q hq; omega), key lo (fun q hq => by have := h3 q hq; omega)]
    congr 2
    unfold pairsP
    rw [upd_same]
  · unfold refL; rw [h1, List.flatMap_append, List.flatMap_cons]
  · rw [List.mem_flatMap] at hy
    obtain ⟨q, hq, hm⟩ := hy
    unfold pairsP at hm
    rw [List.mem_map] at hm
    obtain ⟨x, hx, rfl⟩ := hm
    have := h2 q hq
    exact ⟨by simp only; omega, q, by omega, hx⟩
  · rw [List.mem_flatMap] at hy
    obtain ⟨q, hq, hm⟩ := hy
    unfold pairsP at hm
    rw [List.mem_map] at hm
    obtain ⟨x, hx, rfl⟩ := hm
    have := h3 q hq
    exact ⟨by simp only; omega, q, by omega, hx⟩
theorem ins_over (id prio : Int) : ∀ (l acc : List (Int × Int)), (∀ y ∈ l, ¬ y.2 < prio) → l.foldl (insF id prio) (acc, false) = (acc ++ l, false)
  | [], acc, _ => by simp
  | y :: l, acc, h => by
    rw [List.foldl_cons, insF, if_neg fun hc => h y List.mem_cons_self hc.2, ins_over id prio l _ fun z hz => h z (List.mem_cons_of_mem _ hz)]
    simp
theorem ins_done (id prio : Int) : ∀ (l acc : List (Int × Int)), l.foldl (insF id prio) (acc, true) = (acc ++ l, true)
  | [], acc => by simp
  | y :: l, acc => by
    have e : insF id prio (acc, true) y = (acc ++ [y], true) := if_neg fun hc => by have := hc.1; simp at this
    rw [List.foldl_cons, e, ins_done id prio l]
    simp
theorem insL_at (id prio : Int) (A B : List (Int × Int)) (hA : ∀ y ∈ A, ¬ y.2 < prio) (hB : ∀ y ∈ B, y.2 < prio) : insL (A ++ B) id prio = A ++ ((id, prio) :: B) := by
  unfold insL
  rw [List.foldl_append, ins_over id prio A [] hA, List.nil_append]
  cases B with
  | nil => simp
  | cons y B =>
    have e : insF id prio (A, false) y = (A ++ [(id, prio)] ++ [y], true) := if_pos ⟨rfl, hB y List.mem_cons_self⟩
    rw [List.foldl_cons, e, ins_done]
    simp
theorem radd_law {X : Nat → List Int} {n : Nat} (h : Uniq X n) (id prio : Int) : raddQ (refL X) id prio = ((addQ X id prio).1, refL (addQ X id prio).2) := by
  unfold raddQ addQ
  have hm := mem_all X id
  split
  · rfl
  · rename_i hc
    rw [fsts_ref]
    by_cases hin : id ∈ allX X (fallT (neX X) 0)
    · rw [if_pos hin, if_pos (by rw [hm]; simpa using hin)]
    · rw [if_neg hin, if_neg (by rw [hm]; simpa using hin)]
      obtain ⟨p, rfl⟩ : ∃ p : Nat, prio = p := ⟨prio.toNat, by omega⟩
      rw [Int.toNat_natCast]
      obtain ⟨H, Lo, h1, h2, h3, h4⟩ := ref_split X p (by omega)
      simp only
      rw [h1, h2, ← List.append_assoc, insL_at id p (H ++ pairsP X p) Lo ?_ fun y hy => (h4 y hy).1]
      · simp [pairsP]
      · intro y hy
        rcases List.mem_append.1 hy with hy | hy
        · exact (h3 y hy).1
        · unfold pairsP at hy
          rw [List.mem_map] at hy
          obtain ⟨x, _, rfl⟩ := hy
          simp
theorem fsts_append (L M : List (Int × Int)) : fsts (L ++ M) = fsts L ++ fsts M := by simp [fsts]
theorem fsts_pairs (X : Nat → List Int) (p : Nat) : fsts (pairsP X p) = X p := map_pair _ _
/-- where one stands in the list -/
theorem ref_at {X : Nat → List Int} {n : Nat} (h : Uniq X n) {id : Int} {p : Nat} (hp : p < 8) (hm : id ∈ X p) : ∃ H Lo, (∀ Y, refL (upd X p Y) = H ++ (Y.map (fun x => (x, (p : Int))) ++ Lo)) ∧ refL X = H ++ (pairsP X p ++ Lo) ∧ (fsts (refL X)).idxOf id = H.length + (X p).idxOf id := by
  obtain ⟨H, Lo, h1, h2, h3, h4⟩ := ref_split X p hp
  refine ⟨H, Lo, h1, h2, ?_⟩
  have hH : id ∉ fsts H := fun hc => by
    unfold fsts at hc
    rw [List.mem_map] at hc
    obtain ⟨y, hy, e⟩ := hc
    obtain ⟨_, q, hq, hx⟩ := h3 y hy
    rw [e] at hx
    exact hq (h.uq q p id hx hm)
  rw [h2, fsts_append, fsts_append, fsts_pairs, List.idxOf_append, if_neg hH, List.idxOf_append, if_pos hm, fsts_len]
  omega
theorem rdrop_law {X : Nat → List Int} {n : Nat} (h : Uniq X n) (id : Int) : rdropQ (refL X) id = ((dropQ X id).1, refL (dropQ X id).2) := by
  unfold rdropQ dropQ
  have hm := mem_all X id
  rw [← fsts_ref] at hm
  cases hf : findP X id with
  | none =>
    rw [hf] at hm
    rw [if_neg (by simpa using hm)]
  | some p =>
    rw [hf] at hm
    rw [if_pos (by simpa using hm)]
    obtain ⟨hp, hmem, hlt⟩ := findP_some X id p hf
    obtain ⟨H, Lo, h1, h2, h3⟩ := ref_at h hp hmem
    simp only
    rw [h3, h1, h2, List.eraseIdx_append_of_length_le (by omega), Nat.add_sub_cancel_left, List.eraseIdx_append_of_lt_length (by simpa [pairsP] using hlt)]
    congr 3
    unfold pairsP
    rw [List.eraseIdx_eq_take_drop_succ, List.eraseIdx_eq_take_drop_succ, List.map_append, List.map_take, List.map_drop]
theorem rback_law {X : Nat → List Int} {n : Nat} (h : Uniq X n) (id : Int) : rbackQ (refL X) id = ((backQ X id).1, refL (backQ X id).2) := by
  unfold rbackQ
  have hm := mem_all X id
  rw [← fsts_ref] at hm
  cases hf : findP X id with
  | none =>
    rw [hf] at hm
    rw [if_neg (by simpa using hm)]
    unfold backQ; rw [hf]
  | some p =>
    rw [hf] at hm
    rw [if_pos (by simpa using hm)]
    obtain ⟨hp, hmem, hlt⟩ := findP_some X id p hf
    obtain ⟨H, Lo, h1, h2, h3⟩ := ref_at h hp hmem
    have hpr : prioOf (refL X) id = (p : Int) := by
      unfold prioOf
      rw [h3, h2, List.getElem?_append_right (by omega), Nat.add_sub_cancel_left, List.getElem?_append_left (by simpa [pairsP] using hlt)]
      unfold pairsP
      rw [List.getElem?_map, List.getElem?_eq_getElem hlt]; rfl
    have hd : dropQ X id = (true, upd X p ((X p).eraseIdx ((X p).idxOf id))) := by unfold dropQ; rw [hf]
    have hu := h.drop id
    rw [hpr, rdrop_law h, radd_law hu]
    rw [hd] at hu ⊢
    simp only at hu ⊢
    have hno : findP (upd X p ((X p).eraseIdx ((X p).idxOf id))) id = none := findP_none fun q hq => by
      by_cases e : q = p
      · subst e; rw [upd_same] at hq; exact erased _ _ (h.nd _) hq
      · rw [upd_other _ _ _ _ e] at hq; exact e (h.uq q p id hq hmem)
    have hpos := h.pos p id hmem
    unfold addQ backQ
    rw [if_neg (by omega), hno, hf, if_neg (by simp), Int.toNat_natCast]
    simp only
    rw [upd_same, upd_upd]
end Go.Proofs.Ytegnnombkjmolaa
