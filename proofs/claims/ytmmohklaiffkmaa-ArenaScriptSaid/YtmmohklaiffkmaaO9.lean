/- Arena: Drop, SetMark, SetPlace as plain data. -/
import Derived.Test.YtmmohklaiffkmaaO7
set_option linter.unusedVariables false
set_option linter.unusedSimpArgs false
namespace Go.Proofs.Ytmmohklaiffkmaa
open Go.RowKit

def dropD (S : ArT) (id : Int) : Int × ArT := match atO S.os id with
  | some k => (0, { S with os := S.os.eraseIdx k })
  | none => (2, S)
def setMa (o : ObT) (m : Int) : ObT := { o with ma := m }
def setPl (o : ObT) (s p v : Int) : ObT := { o with se := s, pg := p, lv := v }
def markD' (S : ArT) (id m : Int) : Int × ArT := match atO S.os id with
  | some k => if (S.os.getD k obO).kd ≠ 1 then (8, S) else if m < 0 ∨ m > (S.os.getD k obO).fr then (3, S) else (0, { S with os := S.os.set k (setMa (S.os.getD k obO) m) })
  | none => (2, S)
abbrev placeOk (s p v : Int) : Prop := (s = 0 ∧ p = 0 ∧ v = 0) ∨ (1 ≤ s ∧ s ≤ 16777215 ∧ 0 ≤ p ∧ p < 512 ∧ 1 ≤ v ∧ v ≤ 2)
def placeD (S : ArT) (id s p v : Int) : Int × ArT := match atO S.os id with
  | some k => if (S.os.getD k obO).kd ≠ 4 then (8, S) else if ¬ placeOk s p v then (3, S) else (0, { S with os := S.os.set k (setPl (S.os.getD k obO) s p v) })
  | none => (2, S)
theorem set_ok {S : ArT} (hS : S.Ok) {k : Nat} {o o' : ObT} (h : S.os[k]? = some o) (h1 : o'.id = o.id) (h2 : o'.fi = o.fi) : ArT.Ok { S with os := S.os.set k o' } := by
  have hk := (List.getElem?_eq_some_iff.1 h).1
  have he := (List.getElem?_eq_some_iff.1 h).2
  have hm : ∀ x ∈ S.os.set k o', ∃ y ∈ S.os, x.id = y.id ∧ x.fi = y.fi := fun x hx => by
    rcases List.mem_or_eq_of_mem_set hx with hx | rfl
    · exact ⟨x, hx, rfl, rfl⟩
    · exact ⟨o, List.mem_of_getElem? h, h1, h2⟩
  refine ⟨hS.n1, hS.n2, hS.g1, ?_, fun x hx => ?_, fun x hx => ?_⟩
  · show (S.os.set k o').Pairwise _
    rw [List.pairwise_iff_getElem]
    intro i j hi hj hij
    rw [List.length_set] at hi hj
    have hP := List.pairwise_iff_getElem.1 hS.asc
    have g : ∀ (i : Nat) (hi : i < S.os.length) (hi' : i < (S.os.set k o').length), ((S.os.set k o')[i]).id = (S.os[i]).id := fun i hi hi' => by
      rw [List.getElem_set]
      split
      · rename_i e; subst e; rw [h1, he]
      · rfl
    rw [g i hi, g j hj]
    exact hP i j hi hj hij
  · obtain ⟨y, hy, e1, e2⟩ := hm x hx
    rw [e1]; exact hS.rng y hy
  · obtain ⟨y, hy, e1, e2⟩ := hm x hx
    show 0 ≤ x.fi ∧ x.fi < S.n ∧ ∃ c : Int, 0 ≤ c ∧ c < S.g x.fi.toNat ∧ x.id = x.fi + 1 + 64 * c
    rw [e1, e2]; exact hS.num y hy
theorem atO_get {os : OL} {id : Int} {k : Nat} (h : atO os id = some k) : os[k]? = some (os.getD k obO) ∧ (os.getD k obO).id = id := by
  obtain ⟨o, h1, h2⟩ := atO_some h
  rw [List.getD, h1]; exact ⟨rfl, h2⟩
theorem drop_ok {S : ArT} (hS : S.Ok) (id : Int) : (dropD S id).2.Ok := by
  unfold dropD
  split
  · rename_i k hk
    have hm : ∀ x ∈ S.os.eraseIdx k, x ∈ S.os := fun x hx => List.mem_of_mem_eraseIdx hx
    exact ⟨hS.n1, hS.n2, hS.g1, hS.asc.sublist (List.eraseIdx_sublist ..), fun x hx => hS.rng x (hm x hx), fun x hx => hS.num x (hm x hx)⟩
  · exact hS
theorem mark_ok {S : ArT} (hS : S.Ok) (id m : Int) : (markD' S id m).2.Ok := by
  unfold markD'
  split
  · rename_i k hk
    split
    · exact hS
    split
    · exact hS
    exact set_ok hS (atO_get hk).1 rfl rfl
  · exact hS
theorem place_ok {S : ArT} (hS : S.Ok) (id s p v : Int) : (placeD S id s p v).2.Ok := by
  unfold placeD
  split
  · rename_i k hk
    split
    · exact hS
    split
    · exact hS
    exact set_ok hS (atO_get hk).1 rfl rfl
  · exact hS
theorem ocs_erase (os : OL) (k : Nat) (hk : k < os.length) : (os.eraseIdx k) = os.take k ++ os.drop (k + 1) := List.eraseIdx_eq_take_drop_succ ..
end Go.Proofs.Ytmmohklaiffkmaa
