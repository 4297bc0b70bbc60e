/- Arena: the plain laws of an arena behind acts. -/
import Derived.Test.YtmmohklaiffkmaaO12
set_option linter.unusedVariables false
set_option linter.unusedSimpArgs false
namespace Go.Proofs.Ytmmohklaiffkmaa
open Go.RowKit

def apO (x y : ObT) : Bool := apartD x.kd x.fi x.fr y
theorem may_sym (a n b k : Int) : mayD a n b k = mayD b k a n := by unfold mayD; congr 1; ext; constructor <;> rintro ⟨h1, h2, h3, h4⟩ <;> exact ⟨h3, h4, h1, h2⟩
theorem meet_sym (a n b k : Int) : meetD a n b k = meetD b k a n := by
  unfold meetD
  rw [may_sym]
  cases mayD b k a n <;> cases decide (n > 0) <;> cases decide (k > 0) <;> cases decide (a < b + k) <;> cases decide (b < a + n) <;> rfl
theorem apO_sym (x y : ObT) : apO x y = apO y x := by
  unfold apO apartD
  rw [meet_sym]
  congr 1
  rw [Bool.or_comm]
structure Geo (S : ArT) (m : Int) : Prop where
  n : S.n = 16
  box : ∀ x ∈ S.os, 0 ≤ x.fi ∧ 1 ≤ x.fr ∧ x.fi + x.fr ≤ S.n ∧ x.fr = framesD x.kd x.sz
  ap : ∀ x ∈ S.os, ∀ y ∈ S.os, x.id ≠ y.id → apO x y = true
  gm : ∀ j, S.g j ≤ m
theorem Geo.mono {S : ArT} {m m' : Int} (h : Geo S m) (hm : m ≤ m') : Geo S m' := ⟨h.n, h.box, h.ap, fun j => by have := h.gm j; omega⟩
theorem Geo.of_map {S : ArT} {m : Int} (h : Geo S m) {os' : OL} (hm : ∀ x ∈ os', ∃ y ∈ S.os, x.id = y.id ∧ x.kd = y.kd ∧ x.sz = y.sz ∧ x.fi = y.fi ∧ x.fr = y.fr) : Geo { S with os := os' } m := by
  refine ⟨h.n, fun x hx => ?_, fun x hx y hy hxy => ?_, h.gm⟩
  · obtain ⟨y, hy, e1, e2, e3, e4, e5⟩ := hm x hx
    rw [e2, e3, e4, e5]; exact h.box y hy
  · obtain ⟨x', hx', e1, e2, e3, e4, e5⟩ := hm x hx
    obtain ⟨y', hy', d1, d2, d3, d4, d5⟩ := hm y hy
    have := h.ap x' hx' y' hy' (by rw [← e1, ← d1]; exact hxy)
    unfold apO apartD at *
    rw [e2, e4, e5, d2, d4, d5]; exact this
theorem geo_set {S : ArT} {m : Int} (h : Geo S m) {k : Nat} {o o' : ObT} (hk : S.os[k]? = some o) (e1 : o'.id = o.id) (e2 : o'.kd = o.kd) (e3 : o'.sz = o.sz) (e4 : o'.fi = o.fi) (e5 : o'.fr = o.fr) : Geo { S with os := S.os.set k o' } m :=
  h.of_map fun x hx => by
    rcases List.mem_or_eq_of_mem_set hx with hx | rfl
    · exact ⟨x, hx, rfl, rfl, rfl, rfl, rfl⟩
    · exact ⟨o, List.mem_of_getElem? hk, e1, e2, e3, e4, e5⟩
theorem geo_add {S : ArT} {m : Int} (hS : S.Ok) (h : Geo S m) (kd sz fi : Int) : Geo (addD S kd sz fi).2 (m + 1) := by
  unfold addD
  split
  · rename_i hE
    obtain ⟨h1, h2, h3, h4, h5⟩ := addE_zero hE
    have hr := frames_rng kd sz
    have hal : ∀ y ∈ S.os, apartD kd fi (framesD kd sz) y = true := by rw [List.all_eq_true] at h4; exact h4
    refine ⟨h.n, fun x hx => ?_, fun x hx y hy hxy => ?_, fun j => ?_⟩
    · rcases ins_mem.1 hx with rfl | hx
      · show 0 ≤ fi ∧ 1 ≤ framesD kd sz ∧ fi + framesD kd sz ≤ S.n ∧ framesD kd sz = framesD kd sz
        exact ⟨by omega, by omega, by omega, rfl⟩
      · exact h.box x hx
    · rcases ins_mem.1 hx with rfl | hx
      · rcases ins_mem.1 hy with rfl | hy
        · exact absurd rfl hxy
        · exact hal y hy
      · rcases ins_mem.1 hy with rfl | hy
        · rw [apO_sym]; exact hal x hx
        · exact h.ap x hx y hy hxy
    · show upd S.g fi.toNat (S.g fi.toNat + 1) j ≤ m + 1
      by_cases e : j = fi.toNat
      · subst e; rw [upd_same]; have := h.gm fi.toNat; omega
      · rw [upd_other _ _ _ _ e]; have := h.gm j; omega
  · exact h.mono (by omega)
theorem geo_drop {S : ArT} {m : Int} (h : Geo S m) (id : Int) : Geo (dropD S id).2 m := by
  unfold dropD
  split
  · exact h.of_map fun x hx => ⟨x, List.mem_of_mem_eraseIdx hx, rfl, rfl, rfl, rfl, rfl⟩
  · exact h
theorem geo_act {S : ArT} {m : Int} (hS : S.Ok) (h : Geo S m) (x : AcT) : Geo (actD S x) (m + 1) := by
  unfold actD
  split
  · exact geo_add hS h _ _ _
  split
  · exact (geo_drop h _).mono (by omega)
  split
  · refine Geo.mono ?_ (show m ≤ m + 1 by omega)
    unfold markD'
    split
    · rename_i k hk
      split
      · exact h
      split
      · exact h
      exact geo_set h (atO_get hk).1 rfl rfl rfl rfl rfl
    · exact h
  split
  · refine Geo.mono ?_ (show m ≤ m + 1 by omega)
    unfold placeD
    split
    · rename_i k hk
      split
      · exact h
      split
      · exact h
      exact geo_set h (atO_get hk).1 rfl rfl rfl rfl rfl
    · exact h
  · exact h.mono (by omega)
theorem act_ok {S : ArT} (hS : S.Ok) (x : AcT) : (actD S x).Ok := by
  unfold actD
  split
  · exact add_ok hS _ _ _
  split
  · exact drop_ok hS _
  split
  · exact mark_ok hS _ _
  split
  · exact place_ok hS _ _ _ _
  · exact hS
theorem ar0_ok {n : Int} (h1 : 1 ≤ n) (h2 : n ≤ 64) : (ar0 n).Ok := ⟨h1, h2, fun j => by simp, .nil, (fun x hx => by cases hx), fun x hx => by cases hx⟩
theorem play_geo : ∀ (acts : List AcT) (S : ArT) (m : Int), S.Ok → Geo S m → (acts.foldl actD S).Ok ∧ Geo (acts.foldl actD S) (m + acts.length)
  | [], S, m, h1, h2 => ⟨h1, h2.mono (by simp)⟩
  | x :: r, S, m, h1, h2 => by
    obtain ⟨a, b⟩ := play_geo r (actD S x) (m + 1) (act_ok h1 x) (geo_act h1 h2 x)
    refine ⟨a, b.mono ?_⟩
    simp only [List.length_cons]; omega
theorem play_ok (acts : List AcT) : (playD acts).Ok ∧ Geo (playD acts) acts.length := by
  have := play_geo acts (ar0 16) 0 (ar0_ok (by decide) (by decide)) ⟨rfl, (fun x hx => by cases hx), (fun x hx => by cases hx), fun j => by simp⟩
  exact ⟨this.1, this.2.mono (by simp)⟩
/-- what an untyped and another one say to each other -/
theorem ap_cases {x y : ObT} (h : apO x y = true) (hm : meetD x.fi x.fr y.fi y.fr = true) : (x.kd = 1 ∧ withinD y.fi y.fr x.fi x.fr = true) ∨ (y.kd = 1 ∧ withinD x.fi x.fr y.fi y.fr = true) := by
  unfold apO apartD at h
  rw [hm] at h
  simp only [Bool.not_true, Bool.false_or, Bool.or_eq_true, Bool.and_eq_true, decide_eq_true_eq] at h
  rcases h with h | h
  · exact .inr h
  · exact .inl h
/-- the place of an object whose number is known -/
theorem at_of {os : OL} (h : os.Pairwise fun x y => x.id < y.id) {k : Nat} {o : ObT} (ho : os[k]? = some o) : atO os o.id = some k := by
  unfold atO
  rw [List.findIdx?_eq_some_iff_getElem]
  obtain ⟨hl, he⟩ := List.getElem?_eq_some_iff.1 ho
  refine ⟨hl, by rw [he]; simp, fun j hj => ?_⟩
  have := asc_get h (List.getElem?_eq_getElem (show j < os.length by omega)) ho hj
  simp; omega
theorem at_no {os : OL} {id : Int} (h : ∀ x ∈ os, x.id ≠ id) : atO os id = none := by
  unfold atO
  rw [List.findIdx?_eq_none_iff]
  intro o ho
  simpa using h o ho
/-- what the law says of an object that is dropped and added again -/
theorem gone_law {S : ArT} {m : Int} (hS : S.Ok) (hG : Geo S m) (hm : m ≤ 900) {k : Nat} {x : ObT} (hx : S.os[k]? = some x) :
    ∃ S1 S2 I, dropD S x.id = (0, S1) ∧ dropD S1 x.id = (2, S1) ∧ (getD' S1 x.id) = (obO, false) ∧ addD S1 x.kd x.sz x.fi = ((I, 0), S2) ∧ I > x.id ∧ S2.os.length = S.os.length ∧
      ∀ y ∈ S.os, y.id ≠ x.id → getD' S2 y.id = (y, true) := by
  have hk := (List.getElem?_eq_some_iff.1 hx).1
  have hxm := List.mem_of_getElem? hx
  have h1 : dropD S x.id = (0, { S with os := S.os.eraseIdx k }) := by unfold dropD; rw [at_of hS.asc hx]
  have hok1 := drop_ok hS x.id
  have hG1 := geo_drop hG x.id
  rw [h1] at hok1 hG1
  obtain ⟨S1, hS1⟩ : ∃ S1 : ArT, { S with os := S.os.eraseIdx k } = S1 := ⟨_, rfl⟩
  have o1 : S1.os = S.os.eraseIdx k := by rw [← hS1]
  have n1 : S1.n = S.n := by rw [← hS1]
  have g1 : S1.g = S.g := by rw [← hS1]
  rw [hS1] at h1 hok1 hG1
  have hne : ∀ y ∈ S1.os, y.id ≠ x.id ∧ y ∈ S.os := by
    intro y hy
    rw [o1] at hy
    refine ⟨?_, List.mem_of_mem_eraseIdx hy⟩
    obtain ⟨j, hj⟩ := List.getElem?_of_mem hy
    rw [List.getElem?_eraseIdx] at hj
    split at hj
    · rename_i hjk; have := asc_get hS.asc hj hx hjk; omega
    · have := asc_get hS.asc hx hj (by omega); omega
  have hat1 := at_no fun y hy => (hne y hy).1
  obtain ⟨b0, b1, b2, b3⟩ := hG.box x hxm
  obtain ⟨a0, a1, c, c0, c1, c2⟩ := hS.num x hxm
  have hn16 := hG.n
  have hgj := hS.g1 x.fi.toNat
  have hgm := hG.gm x.fi.toNat
  have hnx : nextD S1 x.fi = x.fi + 1 + 64 * S.g x.fi.toNat := by
    unfold nextD; rw [if_neg (by omega), if_neg (by omega), g1, if_neg (by omega)]
  have hE : addE S1 x.kd x.sz x.fi = 0 := by
    unfold addE
    rw [← b3, if_neg (by omega), if_neg (by omega), if_neg, if_neg (by omega)]
    have : (S1.os.all fun o => apartD x.kd x.fi x.fr o) = true := by
      rw [List.all_eq_true]
      intro y hy
      exact hG.ap x hxm y (hne y hy).2 fun e => (hne y hy).1 e.symm
    rw [this]; decide
  have hA : addD S1 x.kd x.sz x.fi = ((nextD S1 x.fi, 0), { S1 with g := upd S1.g x.fi.toNat (S1.g x.fi.toNat + 1), os := insD S1.os (newO S1 x.kd x.sz x.fi) }) := add_0 hE
  have hok2 := add_ok hok1 x.kd x.sz x.fi
  refine ⟨S1, _, _, h1, drop_none hat1, by unfold getD'; rw [hat1], hA, by rw [hnx]; omega, ?_, fun y hy hyx => ?_⟩
  · show (insD S1.os (newO S1 x.kd x.sz x.fi)).length = _
    rw [ins_len, o1, List.length_eraseIdx, if_pos hk]; omega
  · rw [hA] at hok2
    have hy1 : y ∈ S1.os := by
      rw [o1]
      obtain ⟨j, hj⟩ := List.getElem?_of_mem hy
      have hjk : j ≠ k := fun e => by subst e; rw [hx] at hj; cases hj; exact hyx rfl
      rcases Nat.lt_or_ge j k with h | h
      · exact List.mem_of_getElem? (i := j) (by rw [List.getElem?_eraseIdx, if_pos h]; exact hj)
      · exact List.mem_of_getElem? (i := j - 1) (by rw [List.getElem?_eraseIdx, if_neg (by omega), show j - 1 + 1 = j by omega]; exact hj)
    have hy2 : y ∈ insD S1.os (newO S1 x.kd x.sz x.fi) := ins_mem.2 (.inr hy1)
    obtain ⟨j, hj⟩ := List.getElem?_of_mem hy2
    have := at_of hok2.asc hj
    unfold getD'
    show (match atO (insD S1.os (newO S1 x.kd x.sz x.fi)) y.id with | some k => ((insD S1.os (newO S1 x.kd x.sz x.fi)).getD k obO, true) | none => (obO, false)) = _
    rw [show atO (insD S1.os (newO S1 x.kd x.sz x.fi)) y.id = some j from this]
    simp only [getD_of hj]
end Go.Proofs.Ytmmohklaiffkmaa
