/- Arena: the state as plain data and its blocks. -/
import Derived.Test.YtmmohklaiffkmaaO2
import Derived.Test.YtmmohklaiffkmaaX3
import Derived.Test.YtmmohklaiffkmaaX1
import Derived.Test.YtmmohklaiffkmaaX0
import Derived.Test.YtmmohklaiffkmaaL0
import Derived.Test.YtmmohklaiffkmaaX5
set_option linter.unusedVariables false
set_option linter.unusedSimpArgs false
namespace Go.Proofs.Ytmmohklaiffkmaa
open Go.RowKit

abbrev intV (x : Int) : Value := .int .i64 x
structure ObT where
  id : Int
  kd : Int
  sz : Int
  fi : Int
  fr : Int
  ma : Int
  se : Int
  pg : Int
  lv : Int
deriving DecidableEq
abbrev obC (o : ObT) : List Value := [.int .i64 o.id, .int .i64 o.kd, .int .i64 o.sz, .int .i64 o.fi, .int .i64 o.fr, .int .i64 o.ma, .int .i64 o.se, .int .i64 o.pg, .int .i64 o.lv]
abbrev obO : ObT := ⟨0, 0, 0, 0, 0, 0, 0, 0, 0⟩
abbrev OL := List ObT
def ocs (os : OL) : List Value := os.flatMap obC
theorem ocs_l (os : OL) : (ocs os).length = os.length * 9 := by
  induction os with
  | nil => rfl
  | cons x r ih =>
    rw [show ocs (x :: r) = obC x ++ ocs r from rfl, List.length_append, ih]
    show 9 + r.length * 9 = (r.length + 1) * 9
    omega
theorem ocs_app (a b : OL) : ocs (a ++ b) = ocs a ++ ocs b := List.flatMap_append ..
theorem ocs_one (os : OL) : ∀ u ∈ ocs os, u.oneCell' = true := by
  intro u hu
  obtain ⟨o, _, h⟩ := List.mem_flatMap.1 hu
  simp only [obC, List.mem_cons, List.not_mem_nil, or_false] at h
  rcases h with rfl | rfl | rfl | rfl | rfl | rfl | rfl | rfl | rfl <;> rfl
/-- the place of a row's cell -/
theorem ocs_at {os : OL} {i : Nat} {o : ObT} (h : os[i]? = some o) (sp : List Value) (j : Nat) (hj : j < 9) : (List.toArray (ocs os ++ sp))[i * 9 + j]? = (obC o)[j]? := by
  obtain ⟨h1, h2⟩ := flat_row (enc := obC) (k := 9) (fun _ => rfl) sp os i o h
  rw [← h1, List.getElem?_take, if_pos hj, List.getElem?_drop, List.getElem?_toArray]; rfl
theorem ocs_ext {os : OL} {i : Nat} {o : ObT} (h : os[i]? = some o) (sp : List Value) : i * 9 + 9 ≤ (List.toArray (ocs os ++ sp)).size ∧ (List.toArray (ocs os ++ sp)).extract (i * 9) (i * 9 + 9) = List.toArray (obC o) := by
  obtain ⟨h1, h2⟩ := flat_row (enc := obC) (k := 9) (fun _ => rfl) sp os i o h
  refine ⟨by rw [List.size_toArray]; exact h2, ?_⟩
  rw [List.extract_toArray, List.extract_eq_take_drop, Nat.add_sub_cancel_left]
  exact congrArg List.toArray h1
theorem split_at {os : OL} {i : Nat} {o : ObT} (h : os[i]? = some o) : os = os.take i ++ o :: os.drop (i + 1) := by
  obtain ⟨hi, rfl⟩ := List.getElem?_eq_some_iff.1 h
  rw [List.getElem_cons_drop, List.take_append_drop]
theorem ocs_set {os : OL} {i : Nat} {o o' : ObT} (h : os[i]? = some o) (sp : List Value) (j : Nat) (v : Value) (hj : j < 9) (he : (obC o).set j v = obC o') : (List.toArray (ocs os ++ sp)).setIfInBounds (i * 9 + j) v = List.toArray (ocs (os.set i o') ++ sp) := by
  have hi := (List.getElem?_eq_some_iff.1 h).1
  have e1 : ocs os ++ sp = ocs (os.take i) ++ (obC o ++ (ocs (os.drop (i + 1)) ++ sp)) := by
    conv => lhs; rw [split_at h]
    rw [ocs_app, show ocs (o :: os.drop (i + 1)) = obC o ++ ocs (os.drop (i + 1)) from rfl]; simp
  have e2 : ocs (os.set i o') ++ sp = ocs (os.take i) ++ (obC o' ++ (ocs (os.drop (i + 1)) ++ sp)) := by
    rw [List.set_eq_take_append_cons_drop, if_pos hi, ocs_app, show ocs (o' :: os.drop (i + 1)) = obC o' ++ ocs (os.drop (i + 1)) from rfl]; simp
  have hl : (ocs (os.take i)).length = i * 9 := by rw [ocs_l, List.length_take]; omega
  rw [List.setIfInBounds_toArray, e1, e2, List.set_append_right _ _ (by omega), show i * 9 + j - (ocs (os.take i)).length = j by omega, List.set_append_left _ _ (by show j < 9; omega), he]
/-- an arena's own cells -/
def arL (n : Int) (g : Nat → Int) (v : Value) : List Value := .int .i64 n :: ((seqI g 0 64).map intV ++ [v])
theorem arL_len (n : Int) (g : Nat → Int) (v : Value) : (arL n g v).length = 66 := by unfold arL; simp [seqI_len]
theorem arL_n (n : Int) (g : Nat → Int) (v : Value) : (List.toArray (arL n g v))[0]? = some (.int .i64 n) := rfl
theorem arL_l (n : Int) (g : Nat → Int) (v : Value) : (List.toArray (arL n g v))[65]? = some v := by
  rw [List.getElem?_toArray]; unfold arL
  rw [List.getElem?_cons_succ, List.getElem?_append_right (by simp [seqI_len])]; simp [seqI_len]
theorem arL_g (n : Int) (g : Nat → Int) (v : Value) {j : Nat} (hj : j < 64) : (List.toArray (arL n g v))[1 + j * 1]? = some (.int .i64 (g j)) := by
  rw [List.getElem?_toArray, show 1 + j * 1 = j + 1 by omega]; unfold arL
  rw [List.getElem?_cons_succ, List.getElem?_append_left (by simp [seqI_len]; omega), List.getElem?_map]
  simp [seqI, hj]
theorem arL_setG (n : Int) (g : Nat → Int) (v : Value) {j : Nat} (hj : j < 64) (x : Int) : (List.toArray (arL n g v)).setIfInBounds (1 + j * 1) (.int .i64 x) = List.toArray (arL n (upd g j x) v) := by
  rw [List.setIfInBounds_toArray, show 1 + j * 1 = j + 1 by omega]; unfold arL
  rw [List.set_cons_succ, List.set_append_left _ _ (by simp [seqI_len]; omega)]
  congr 3
  apply List.ext_getElem?
  intro k
  rw [List.getElem?_set]
  by_cases hk : k < 64
  · by_cases e : j = k
    · subst e
      rw [if_pos rfl, if_pos (by simp [seqI_len]; omega)]
      simp [seqI, hk, upd_same]
    · rw [if_neg e]
      simp [seqI, hk, upd_other _ _ _ _ (fun h => e h.symm)]
  · rw [if_neg (by omega)]
    rw [List.getElem?_eq_none (by simp [seqI_len]; omega), List.getElem?_eq_none (by simp [seqI_len]; omega)]
theorem arL_setL (n : Int) (g : Nat → Int) (v u : Value) : (List.toArray (arL n g v)).setIfInBounds 65 u = List.toArray (arL n g u) := by
  rw [List.setIfInBounds_toArray]; unfold arL
  rw [List.set_cons_succ, List.set_append_right _ _ (by simp [seqI_len])]
  simp [seqI_len]
abbrev arC (b : Nat) (n : Int) (g : Nat → Int) (v : Value) : Chunk := (b, .cells (List.toArray (arL n g v)) 62 (0, 0))
/-- an arena as plain data: how many frames, how many ever began at each, the objects -/
structure ArT where
  n : Int
  g : Nat → Int
  os : OL
structure ArT.Ok (S : ArT) : Prop where
  n1 : 1 ≤ S.n
  n2 : S.n ≤ 64
  g1 : ∀ j, 0 ≤ S.g j ∧ S.g j ≤ 1024
  asc : S.os.Pairwise fun x y => x.id < y.id
  rng : ∀ x ∈ S.os, 1 ≤ x.id ∧ x.id ≤ 65535
  num : ∀ x ∈ S.os, 0 ≤ x.fi ∧ x.fi < S.n ∧ ∃ c : Int, 0 ≤ c ∧ c < S.g x.fi.toNat ∧ x.id = x.fi + 1 + 64 * c
theorem asc_len : ∀ (os : OL) (a : Int), 0 ≤ a → a ≤ 65535 → (os.Pairwise fun x y => x.id < y.id) → (∀ x ∈ os, a < x.id ∧ x.id ≤ 65535) → (os.length : Int) ≤ 65535 - a
  | [], a, h0, ha, _, _ => by simp; omega
  | x :: r, a, h0, ha, h, hr => by
    obtain ⟨h1, h2⟩ := List.pairwise_cons.1 h
    have hx := hr x (.head _)
    have := asc_len r x.id (by omega) (by omega) h2 fun y hy => ⟨h1 y hy, (hr y (.tail _ hy)).2⟩
    simp only [List.length_cons]; omega
theorem ArT.Ok.len {S : ArT} (h : S.Ok) : S.os.length ≤ 65535 := by
  have := asc_len S.os 0 (by omega) (by omega) h.asc fun x hx => by have := h.rng x hx; omega
  omega
structure IsA (b : Nat) (S : ArT) (lq : List Chunk) : Prop where
  ok : S.Ok
  ex : ∃ v cs, lq = arC b S.n S.g v :: cs ∧ OwnSl 40 9 v S.os.length (ocs S.os) cs
end Go.Proofs.Ytmmohklaiffkmaa
