/- Arena: Add. -/
-- GU
import Derived.Test.YtmmohklaiffkmaaO6
set_option linter.unusedVariables false
set_option linter.unusedSimpArgs false
namespace Go.Proofs.Ytmmohklaiffkmaa
open Go.RowKit

def insD (os : OL) (o : ObT) : OL := os.takeWhile (fun x => decide (x.id ≤ o.id)) ++ o :: os.dropWhile (fun x => decide (x.id ≤ o.id))
def newO (S : ArT) (kd sz fi : Int) : ObT := ⟨nextD S fi, kd, sz, fi, framesD kd sz, 0, 0, 0, 0⟩
def addE (S : ArT) (kd sz fi : Int) : Int :=
  if framesD kd sz = 0 then 2 else if fi < 0 ∨ fi > S.n - framesD kd sz then 3
  else if (S.os.all fun o => apartD kd fi (framesD kd sz) o) = false then 16 else if nextD S fi = 0 then 11 else 0
def addD (S : ArT) (kd sz fi : Int) : (Int × Int) × ArT :=
  if addE S kd sz fi = 0 then ((nextD S fi, 0), { S with g := upd S.g fi.toNat (S.g fi.toNat + 1), os := insD S.os (newO S kd sz fi) }) else ((0, addE S kd sz fi), S)
theorem frames_rng (k s : Int) : 0 ≤ framesD k s ∧ framesD k s ≤ 64 := by
  unfold framesD
  repeat' split
  all_goals omega
theorem ins_at {os : OL} {o : ObT} {k : Nat} (hk : k ≤ os.length) (h1 : ∀ x ∈ os.take k, x.id ≤ o.id) (h2 : ∀ x ∈ os.drop k, ¬ x.id ≤ o.id) : insD os o = os.take k ++ o :: os.drop k := by
  have e : os = os.take k ++ os.drop k := (List.take_append_drop ..).symm
  have t1 : os.takeWhile (fun x => decide (x.id ≤ o.id)) = os.take k := by
    conv => lhs; rw [e]
    rw [List.takeWhile_append_of_pos fun x hx => by simpa using h1 x hx]
    cases hd : os.drop k with
    | nil => simp
    | cons y r =>
      rw [List.takeWhile_cons_of_neg, List.append_nil]
      simpa using h2 y (by rw [hd]; exact .head _)
  have t2 : os.dropWhile (fun x => decide (x.id ≤ o.id)) = os.drop k := by
    conv => lhs; rw [e]
    rw [List.dropWhile_append_of_pos fun x hx => by simpa using h1 x hx]
    cases hd : os.drop k with
    | nil => simp
    | cons y r =>
      rw [List.dropWhile_cons_of_neg]
      simpa using h2 y (by rw [hd]; exact .head _)
  unfold insD
  rw [t1, t2]
theorem asc_get {os : OL} (h : os.Pairwise fun x y => x.id < y.id) {i j : Nat} {x y : ObT} (hx : os[i]? = some x) (hy : os[j]? = some y) (hij : i < j) : x.id < y.id := by
  obtain ⟨h1, rfl⟩ := List.getElem?_eq_some_iff.1 hx
  obtain ⟨h2, rfl⟩ := List.getElem?_eq_some_iff.1 hy
  exact List.pairwise_iff_getElem.1 h i j h1 h2 hij
theorem ins_mem {os : OL} {o x : ObT} : x ∈ insD os o ↔ x = o ∨ x ∈ os := by
  unfold insD
  have e := List.takeWhile_append_dropWhile (p := fun x : ObT => decide (x.id ≤ o.id)) (l := os)
  conv => rhs; rw [← e]
  simp only [List.mem_append, List.mem_cons]
  constructor
  · rintro (h | h | h)
    · exact .inr (.inl h)
    · exact .inl h
    · exact .inr (.inr h)
  · rintro (h | h | h)
    · exact .inr (.inl h)
    · exact .inl h
    · exact .inr (.inr h)
theorem ins_len (os : OL) (o : ObT) : (insD os o).length = os.length + 1 := by
  unfold insD
  have e := congrArg List.length (List.takeWhile_append_dropWhile (p := fun x : ObT => decide (x.id ≤ o.id)) (l := os))
  rw [List.length_append] at e
  rw [List.length_append, List.length_cons]; omega
theorem dropW_gt {os : OL} (h : os.Pairwise fun x y => x.id < y.id) (a : Int) : ∀ x ∈ os.dropWhile (fun x => decide (x.id ≤ a)), a < x.id := by
  induction os with
  | nil => intro x hx; cases hx
  | cons y r ih =>
    obtain ⟨h1, h2⟩ := List.pairwise_cons.1 h
    intro x hx
    by_cases hy : y.id ≤ a
    · rw [List.dropWhile_cons_of_pos (by simpa using hy)] at hx
      exact ih h2 x hx
    · rw [List.dropWhile_cons_of_neg (by simpa using hy)] at hx
      rcases List.mem_cons.1 hx with rfl | hx
      · omega
      · have := h1 x hx; omega
theorem takeW_le {os : OL} (a : Int) : ∀ x ∈ os.takeWhile (fun x => decide (x.id ≤ a)), x.id ≤ a := by
  induction os with
  | nil => intro x hx; cases hx
  | cons y r ih =>
    intro x hx
    by_cases hy : y.id ≤ a
    · rw [List.takeWhile_cons_of_pos (by simpa using hy)] at hx
      rcases List.mem_cons.1 hx with rfl | hx
      · exact hy
      · exact ih x hx
    · rw [List.takeWhile_cons_of_neg (by simpa using hy)] at hx; cases hx
theorem ins_asc {os : OL} {o : ObT} (h : os.Pairwise fun x y => x.id < y.id) (hne : ∀ x ∈ os, x.id ≠ o.id) : (insD os o).Pairwise fun x y => x.id < y.id := by
  unfold insD
  have hT := (List.takeWhile_sublist (l := os) fun x : ObT => decide (x.id ≤ o.id))
  have hD := (List.dropWhile_sublist (l := os) fun x : ObT => decide (x.id ≤ o.id))
  refine List.pairwise_append.2 ⟨h.sublist hT, List.pairwise_cons.2 ⟨fun x hx => dropW_gt h o.id x hx, h.sublist hD⟩, fun x hx y hy => ?_⟩
  have h1 := takeW_le o.id x hx
  have h2 := hne x (hT.subset hx)
  rcases List.mem_cons.1 hy with rfl | hy
  · omega
  · have := dropW_gt h o.id y hy; omega
theorem next_pos {S : ArT} (hS : S.Ok) {f : Int} (h : nextD S f ≠ 0) : 0 ≤ f ∧ f < S.n ∧ nextD S f = f + 1 + 64 * S.g f.toNat ∧ nextD S f ≤ 65535 ∧ 1 ≤ nextD S f := by
  unfold nextD at *
  have := hS.g1 f.toNat
  split at h
  · exact absurd rfl h
  split at h
  · exact absurd rfl h
  split at h
  · exact absurd rfl h
  rename_i h1 h2 h3
  rw [if_neg h1, if_neg h2, if_neg h3]
  refine ⟨by omega, by omega, rfl, by omega, by omega⟩
theorem next_new {S : ArT} (hS : S.Ok) {f : Int} (h : nextD S f ≠ 0) : ∀ x ∈ S.os, x.id ≠ nextD S f := by
  intro x hx he
  obtain ⟨f0, f1, f2, _⟩ := next_pos hS h
  obtain ⟨a0, a1, c, c0, c1, c2⟩ := hS.num x hx
  have := hS.n2
  have e : x.fi = f := by omega
  subst e
  omega
theorem addE_zero {S : ArT} {kd sz fi : Int} (h : addE S kd sz fi = 0) : framesD kd sz ≠ 0 ∧ 0 ≤ fi ∧ fi ≤ S.n - framesD kd sz ∧ (S.os.all fun o => apartD kd fi (framesD kd sz) o) = true ∧ nextD S fi ≠ 0 := by
  unfold addE at h
  split at h
  · omega
  split at h
  · omega
  split at h
  · omega
  split at h
  · omega
  rename_i h1 h2 h3 h4
  exact ⟨h1, by omega, by omega, by simpa using h3, h4⟩
theorem add_ok {S : ArT} (hS : S.Ok) (kd sz fi : Int) : (addD S kd sz fi).2.Ok := by
  unfold addD
  split
  · rename_i h
    obtain ⟨h1, h2, h3, h4, h5⟩ := addE_zero h
    obtain ⟨f0, f1, f2, f3, f4⟩ := next_pos hS h5
    have hg := hS.g1 fi.toNat
    refine ⟨hS.n1, hS.n2, fun j => ?_, ins_asc hS.asc (next_new hS h5), fun x hx => ?_, fun x hx => ?_⟩
    · show 0 ≤ upd S.g fi.toNat (S.g fi.toNat + 1) j ∧ upd S.g fi.toNat (S.g fi.toNat + 1) j ≤ 1024
      by_cases e : j = fi.toNat
      · subst e; rw [upd_same]; omega
      · rw [upd_other _ _ _ _ e]; exact hS.g1 j
    · rcases ins_mem.1 hx with rfl | hx
      · exact ⟨f4, f3⟩
      · exact hS.rng x hx
    · show 0 ≤ x.fi ∧ x.fi < S.n ∧ ∃ c : Int, 0 ≤ c ∧ c < upd S.g fi.toNat (S.g fi.toNat + 1) x.fi.toNat ∧ _
      rcases ins_mem.1 hx with rfl | hx
      · exact ⟨f0, f1, S.g fi.toNat, hg.1, by rw [show (newO S kd sz fi).fi.toNat = fi.toNat from rfl, upd_same]; omega, f2⟩
      · obtain ⟨a0, a1, c, c0, c1, c2⟩ := hS.num x hx
        refine ⟨a0, a1, c, c0, ?_, c2⟩
        by_cases e : x.fi.toNat = fi.toNat
        · rw [e, upd_same]; rw [e] at c1; omega
        · rw [upd_other _ _ _ _ e]; exact c1
  · exact hS
end Go.Proofs.Ytmmohklaiffkmaa
