/- The tree's plain law: acts, depths, slots. -/
import Derived.Test.YtidkpfkkljcnaaaJ9
set_option linter.unusedVariables false
set_option linter.unusedSimpArgs false
namespace Go.Proofs.Ytidkpfkkljcnaaa
open Go.RowKit

abbrev ActT := Int × SlotT × SlotT
abbrev encA (x : ActT) : List Value := [.int .i64 x.1, .int .i64 x.2.1.1, .int .i64 x.2.1.2, .int .i64 x.2.2.1, .int .i64 x.2.2.2]
def actD (D : DT) (x : ActT) : DT := if x.1 = 0 then (rootD D x.2.1).2 else if x.1 = 1 then (childD D x.2.1 x.2.2).2 else if x.1 = 2 then (removeD D x.2.1).2 else if x.1 = 3 then (moveD D x.2.1 x.2.2).2 else if x.1 = 4 then swapD D x.2.1 x.2.2 else D
def playD (xs : List ActT) : DT := xs.foldl actD []
theorem playD_snoc (xs : List ActT) (x : ActT) : playD (xs ++ [x]) = actD (playD xs) x := by simp [playD]
/-- the first depth is at most e, each at most one more than the one ahead -/
def DepOk : Int → DT → Prop
  | _, [] => True
  | e, x :: r => 0 ≤ x.2 ∧ x.2 ≤ e ∧ DepOk (x.2 + 1) r
theorem DepOk.mono : ∀ {D : DT} {e f : Int}, DepOk e D → e ≤ f → DepOk f D
  | [], _, _, _, _ => trivial
  | x :: r, e, f, ⟨h1, h2, h3⟩, h => ⟨h1, by omega, h3⟩
theorem DepOk.bound : ∀ {D : DT} {e : Int}, DepOk e D → ∀ x, x ∈ D → 0 ≤ x.2 ∧ x.2 ≤ e + D.length
  | [], _, _, x, hx => by cases hx
  | y :: r, e, ⟨h1, h2, h3⟩, x, hx => by
    rw [List.length_cons]
    rcases List.mem_cons.1 hx with rfl | hx
    · exact ⟨h1, by omega⟩
    · have := DepOk.bound h3 x hx
      exact ⟨this.1, by omega⟩
def lastE : Int → DT → Int
  | e, [] => e
  | _, x :: r => lastE (x.2 + 1) r
theorem DepOk.app : ∀ {A B : DT} {e : Int}, DepOk e (A ++ B) ↔ DepOk e A ∧ DepOk (lastE e A) B
  | [], B, e => ⟨fun h => ⟨trivial, h⟩, fun h => h.2⟩
  | x :: A, B, e => by
    show 0 ≤ x.2 ∧ x.2 ≤ e ∧ DepOk (x.2 + 1) (A ++ B) ↔ (0 ≤ x.2 ∧ x.2 ≤ e ∧ DepOk (x.2 + 1) A) ∧ DepOk (lastE (x.2 + 1) A) B
    rw [DepOk.app (A := A)]
    exact ⟨fun ⟨h1, h2, h3, h4⟩ => ⟨⟨h1, h2, h3⟩, h4⟩, fun ⟨⟨h1, h2, h3⟩, h4⟩ => ⟨h1, h2, h3, h4⟩⟩
theorem DepOk.last : ∀ {A : DT} {e : Int}, DepOk e A → 0 ≤ e → 0 ≤ lastE e A
  | [], _, _, h => h
  | x :: A, e, ⟨h1, _, h3⟩, _ => by show 0 ≤ lastE (x.2 + 1) A; exact DepOk.last h3 (by omega)
theorem DepOk.dec {d : Int} (hd : 0 ≤ d) : ∀ {B : DT} {e f : Int}, DepOk e B → e ≤ f + 1 → d ≤ f → DepOk f (decW d B)
  | [], _, _, _, _, _ => trivial
  | x :: r, e, f, ⟨h1, h2, h3⟩, he, hf => by
    by_cases h : d < x.2
    · have e1 : decW d (x :: r) = (x.1, x.2 - 1) :: decW d r := by
        unfold decW
        rw [List.takeWhile_cons_of_pos (by simpa using h), List.dropWhile_cons_of_pos (by simpa using h)]; rfl
      rw [e1]
      refine ⟨by simp only; omega, by simp only; omega, ?_⟩
      exact DepOk.dec hd h3 (by simp only; omega) (by simp only; omega)
    · have e1 : decW d (x :: r) = x :: r := by
        unfold decW
        rw [List.takeWhile_cons_of_neg (by simpa using h), List.dropWhile_cons_of_neg (by simpa using h)]; rfl
      rw [e1]
      exact ⟨h1, by omega, h3⟩
theorem decW_fst (d : Int) (B : DT) : (decW d B).map Prod.fst = B.map Prod.fst := by
  unfold decW
  rw [List.map_append, List.map_map]
  have : (List.takeWhile (fun x : SlotT × Int => decide (d < x.2)) B).map (Prod.fst ∘ fun x => (x.1, x.2 - 1)) = (List.takeWhile (fun x : SlotT × Int => decide (d < x.2)) B).map Prod.fst := rfl
  rw [this, ← List.map_append, List.takeWhile_append_dropWhile]
theorem decW_len (d : Int) (B : DT) : (decW d B).length = B.length := by
  have := congrArg List.length (decW_fst d B); simpa using this
structure GoodT (D : DT) (n : Nat) : Prop where
  nd : (D.map Prod.fst).Nodup
  dep : DepOk 0 D
  len : D.length ≤ n
theorem GoodT.small {D : DT} {n : Nat} (h : GoodT D n) (hn : n ≤ 1000000) : SmallD D := fun x hx => by
  have := h.dep.bound x hx
  have := h.len
  omega
theorem splitD_some {s : SlotT} : ∀ {D A B : DT} {d : Int}, splitD s D = some (A, d, B) → D = A ++ (s, d) :: B ∧ ∀ x, x ∈ A → x.1 ≠ s
  | [], _, _, _, h => by cases h
  | y :: r, A, B, d, h => by
    unfold splitD at h
    by_cases e : y.1 = s
    · rw [if_pos e] at h
      cases h
      refine ⟨by rw [← e]; rfl, by simp⟩
    · rw [if_neg e] at h
      cases h2 : splitD s r with
      | none => rw [h2] at h; cases h
      | some z =>
        rw [h2] at h
        obtain ⟨A', d', B'⟩ := z
        cases h
        obtain ⟨rfl, h3⟩ := splitD_some h2
        refine ⟨rfl, fun x hx => ?_⟩
        rcases List.mem_cons.1 hx with rfl | hx
        · exact e
        · exact h3 x hx
theorem splitD_none {s : SlotT} : ∀ {D : DT}, splitD s D = none ↔ ∀ x, x ∈ D → x.1 ≠ s
  | [] => ⟨fun _ x hx => (by cases hx), fun _ => rfl⟩
  | y :: r => by
    unfold splitD
    by_cases e : y.1 = s
    · rw [if_pos e]; exact ⟨fun h => (by cases h), fun h => absurd e (h y List.mem_cons_self)⟩
    · rw [if_neg e]
      constructor
      · intro h x hx
        have h2 : splitD s r = none := by cases h2 : splitD s r with | none => rfl | some z => rw [h2] at h; cases h
        rcases List.mem_cons.1 hx with rfl | hx
        · exact e
        · exact splitD_none.1 h2 x hx
      · intro h
        rw [splitD_none.2 fun x hx => h x (List.mem_cons_of_mem _ hx)]; rfl
theorem splitD_of {s : SlotT} {d : Int} {A B : DT} (h : ∀ x, x ∈ A → x.1 ≠ s) : splitD s (A ++ (s, d) :: B) = some (A, d, B) := by
  induction A with
  | nil => show splitD s ((s, d) :: B) = _; unfold splitD; rw [if_pos rfl]
  | cons y A ih =>
    show splitD s (y :: (A ++ (s, d) :: B)) = _
    unfold splitD
    rw [if_neg (h y List.mem_cons_self), ih fun x hx => h x (List.mem_cons_of_mem _ hx)]; rfl
theorem hasD_no {D : DT} {s : SlotT} : hasD D s = false ↔ ∀ x, x ∈ D → x.1 ≠ s := by
  unfold hasD
  rw [← splitD_none]
  cases splitD s D <;> simp
theorem hasD_yes {D : DT} {s : SlotT} : hasD D s = true ↔ s ∈ D.map Prod.fst := by
  constructor
  · intro h
    unfold hasD at h
    cases h2 : splitD s D with
    | none => rw [h2] at h; cases h
    | some z =>
      obtain ⟨A, d, B⟩ := z
      rw [(splitD_some h2).1]; simp
  · intro h
    cases h2 : hasD D s with
    | true => rfl
    | false =>
      obtain ⟨x, hx, rfl⟩ := List.mem_map.1 h
      exact absurd rfl (hasD_no.1 h2 x hx)
theorem GoodT.mono {D : DT} {n m : Nat} (h : GoodT D n) (hm : n ≤ m) : GoodT D m := ⟨h.nd, h.dep, Nat.le_trans h.len hm⟩
theorem GoodT.root {D : DT} {n : Nat} (h : GoodT D n) (s : SlotT) : GoodT (rootD D s).2 (n + 1) := by
  unfold rootD
  by_cases hs : hasD D s = true
  · rw [if_pos hs]; exact h.mono (by omega)
  · rw [if_neg hs]
    have hno := hasD_no.1 (by simpa using hs)
    refine ⟨?_, DepOk.app.2 ⟨h.dep, by simp only; omega, h.dep.last (by omega), trivial⟩, by have := h.len; simp; omega⟩
    rw [List.map_append, List.nodup_append]
    refine ⟨h.nd, by simp, fun a ha c hc e => ?_⟩
    obtain ⟨x, hx, rfl⟩ := List.mem_map.1 ha
    exact hno x hx (by rw [e]; simpa using hc)
theorem GoodT.child {D : DT} {n : Nat} (h : GoodT D n) (p s : SlotT) : GoodT (childD D p s).2 (n + 1) := by
  unfold childD
  cases h2 : splitD p D with
  | none => exact h.mono (by omega)
  | some z =>
    obtain ⟨A, d, B⟩ := z
    simp only
    by_cases hs : hasD D s = true
    · rw [if_pos hs]; exact h.mono (by omega)
    · rw [if_neg hs]
      have hno := hasD_no.1 (by simpa using hs)
      obtain ⟨rfl, hA⟩ := splitD_some h2
      obtain ⟨h3, h4, h5, h6⟩ := DepOk.app.1 h.dep
      refine ⟨?_, DepOk.app.2 ⟨h3, h4, h5, by simp only; omega, by simp only; omega, h6.mono (by simp only; omega)⟩, by have := h.len; simp at this ⊢; omega⟩
      have hp : ((A ++ (p, d) :: (s, d + 1) :: B).map Prod.fst).Perm (s :: (A ++ (p, d) :: B).map Prod.fst) := by
        have : (A ++ (p, d) :: (s, d + 1) :: B).Perm ((s, d + 1) :: (A ++ (p, d) :: B)) := by
          have e : A ++ (p, d) :: (s, d + 1) :: B = (A ++ [(p, d)]) ++ (s, d + 1) :: B := by simp
          have e2 : A ++ (p, d) :: B = (A ++ [(p, d)]) ++ B := by simp
          rw [e, e2]; exact List.perm_middle
        exact this.map _
      rw [hp.nodup_iff, List.nodup_cons]
      refine ⟨fun hm => ?_, h.nd⟩
      obtain ⟨x, hx, e⟩ := List.mem_map.1 hm
      exact hno x hx e
theorem GoodT.remove {D : DT} {n : Nat} (h : GoodT D n) (s : SlotT) : GoodT (removeD D s).2 n := by
  unfold removeD
  cases h2 : splitD s D with
  | none => exact h
  | some z =>
    obtain ⟨A, d, B⟩ := z
    simp only
    obtain ⟨rfl, hA⟩ := splitD_some h2
    obtain ⟨h3, h4, h5, h6⟩ := DepOk.app.1 h.dep
    refine ⟨?_, DepOk.app.2 ⟨h3, h6.dec h4 (by simp only at h5 ⊢; omega) h5⟩, by have := h.len; rw [List.length_append, decW_len]; simp at this ⊢; omega⟩
    rw [List.map_append, decW_fst, ← List.map_append]
    exact h.nd.sublist ((List.Sublist.append_left (List.sublist_cons_self _ _) _).map _)
theorem GoodT.move {D : DT} {n : Nat} (h : GoodT D n) (a c : SlotT) : GoodT (moveD D a c).2 n := by
  unfold moveD
  cases h2 : splitD a D with
  | none => exact h
  | some z =>
    obtain ⟨A, d, B⟩ := z
    simp only
    by_cases hs : hasD D c = true
    · rw [if_pos hs]; exact h
    · rw [if_neg hs]
      have hno := hasD_no.1 (by simpa using hs)
      obtain ⟨rfl, hA⟩ := splitD_some h2
      obtain ⟨h3, h4, h5, h6⟩ := DepOk.app.1 h.dep
      refine ⟨?_, DepOk.app.2 ⟨h3, h4, h5, h6⟩, by have := h.len; simp at this ⊢; omega⟩
      have hn := h.nd
      rw [List.map_append, List.map_cons] at hn ⊢
      have hn2 := List.nodup_cons.1 (List.perm_middle.nodup_iff.1 hn)
      refine List.perm_middle.nodup_iff.2 (List.nodup_cons.2 ⟨fun hm => ?_, hn2.2⟩)
      rcases List.mem_append.1 hm with hm | hm
      · obtain ⟨x, hx, e⟩ := List.mem_map.1 hm; exact hno x (List.mem_append_left _ hx) e
      · obtain ⟨x, hx, e⟩ := List.mem_map.1 hm; exact hno x (List.mem_append_right _ (.tail _ hx)) e
theorem DepOk.map {f : SlotT × Int → SlotT × Int} (hf : ∀ x, (f x).2 = x.2) : ∀ {D : DT} {e : Int}, DepOk e D → DepOk e (D.map f)
  | [], _, _ => trivial
  | x :: r, e, ⟨h1, h2, h3⟩ => by
    refine ⟨by rw [hf]; exact h1, by rw [hf]; exact h2, ?_⟩
    rw [hf]; exact DepOk.map hf h3
theorem swpS_snd (a c : SlotT) (x : SlotT × Int) : (swpS a c x).2 = x.2 := by unfold swpS; split <;> (try split) <;> rfl
theorem GoodT.swap {D : DT} {n : Nat} (h : GoodT D n) (a c : SlotT) : GoodT (swapD D a c) n := by
  refine ⟨?_, h.dep.map (swpS_snd a c), by unfold swapD; rw [List.length_map]; exact h.len⟩
  unfold swapD
  rw [List.map_map, List.nodup_iff_pairwise_ne, List.pairwise_map]
  have hn := h.nd
  rw [List.nodup_iff_pairwise_ne, List.pairwise_map] at hn
  exact hn.imp fun hne e => hne (swpS_inj e)
theorem GoodT.act {D : DT} {n : Nat} (h : GoodT D n) (x : ActT) : GoodT (actD D x) (n + 1) := by
  unfold actD
  split
  · exact h.root _
  · split
    · exact h.child _ _
    · split
      · exact (h.remove _).mono (by omega)
      · split
        · exact (h.move _ _).mono (by omega)
        · split
          · exact (h.swap _ _).mono (by omega)
          · exact h.mono (by omega)
theorem GoodT.none : GoodT [] 0 := ⟨by simp, trivial, by simp⟩
theorem good_play (xs : List ActT) : GoodT (playD xs) xs.length := by
  have key : ∀ (xs : List ActT) (D : DT) (n : Nat), GoodT D n → GoodT (xs.foldl actD D) (n + xs.length) := by
    intro xs
    induction xs with
    | nil => intro D n h; exact h
    | cons x xs ih => intro D n h; have := ih _ _ (h.act x); rw [List.length_cons, show n + (xs.length + 1) = n + 1 + xs.length by omega]; exact this
  have := key xs [] 0 .none
  rwa [Nat.zero_add] at this
theorem swap_swap (D : DT) (a c : SlotT) : swapD (swapD D a c) a c = D := by
  unfold swapD
  rw [List.map_map]
  have : ∀ x, (swpS a c ∘ swpS a c) x = x := fun x => by
    show swpS a c (swpS a c x) = x
    apply Prod.ext
    · rw [swpS_fst, swpS_fst, swf_swf]
    · rw [swpS_snd, swpS_snd]
  rw [List.map_congr_left fun x _ => this x, List.map_id']
theorem move_back {D : DT} {n : Nat} (h : GoodT D n) {a c : SlotT} (h0 : (moveD D a c).1 = 0) : moveD (moveD D a c).2 c a = (0, D) := by
  unfold moveD at h0 ⊢
  cases h2 : splitD a D with
  | none => rw [h2] at h0; cases h0
  | some z =>
    obtain ⟨A, d, B⟩ := z
    rw [h2] at h0
    simp only at h0 ⊢
    by_cases hs : hasD D c = true
    · rw [if_pos hs] at h0; cases h0
    · rw [if_neg hs]
      have hno := hasD_no.1 (by simpa using hs)
      obtain ⟨rfl, hA⟩ := splitD_some h2
      have hnd := h.nd
      rw [List.map_append, List.map_cons] at hnd
      have hac : c ≠ a := fun e => hno (a, d) (by simp) e.symm
      simp only
      rw [splitD_of fun x hx => hno x (List.mem_append_left _ hx)]
      simp only
      have h3 : hasD (A ++ (c, d) :: B) a = false := hasD_no.2 fun x hx e => by
        have hn2 := (List.nodup_cons.1 (List.perm_middle.nodup_iff.1 hnd)).1
        rcases List.mem_append.1 hx with hx | hx
        · exact hA x hx e
        · rcases List.mem_cons.1 hx with rfl | hx
          · exact hac e
          · exact hn2 (List.mem_append_right _ (List.mem_map.2 ⟨x, hx, e⟩))
      rw [h3]; rfl
theorem move_same {D : DT} {a c : SlotT} (h0 : (moveD D a c).1 ≠ 0) : (moveD D a c).2 = D := by
  unfold moveD at h0 ⊢
  cases h2 : splitD a D with
  | none => rfl
  | some z =>
    obtain ⟨A, d, B⟩ := z
    rw [h2] at h0
    simp only at h0 ⊢
    by_cases hs : hasD D c = true
    · rw [if_pos hs]
    · rw [if_neg hs] at h0; exact absurd rfl h0
theorem acts_of : ∀ {rows : List (List Value)}, (∀ r, r ∈ rows → ∃ x : ActT, r = encA x) → ∃ xs : List ActT, rows = xs.map encA
  | [], _ => ⟨[], rfl⟩
  | r :: rows, h => by
    obtain ⟨x, hx⟩ := h r List.mem_cons_self
    obtain ⟨xs, hxs⟩ := acts_of (rows := rows) fun q hq => h q (List.mem_cons_of_mem _ hq)
    exact ⟨x :: xs, by rw [hx, hxs]; rfl⟩
end Go.Proofs.Ytidkpfkkljcnaaa
