import Derived.Test.YtaomipfblcndlaaB5
set_option linter.unusedVariables false
set_option linter.unusedSimpArgs false
namespace Go.Proofs.Ytaomipfblcndlaa
open Go.RowKit

/-- a list of numbers that came in -/
def InInts (l : List Chunk) (a : Option Addr) (n : Nat) (g : Nat → Int) : Prop :=
  0 < n → ∃ bB off cs t fz, a = some ⟨bB, off, none⟩ ∧ (bB, Obj.cells cs t fz) ∈ l ∧ ∀ i, i < n → cs[off + i * 1]? = some (.int .i64 (g i))

def sP (k : Nat) : ASt := { ASt.zero with obj := fun p => if p < k then (p : Int) + 1 else 0 }
theorem sP_add (k : Nat) (h : k < 8) : addP (sP k) (1 + k) = ((k : Int), 0, sP (k + 1)) := by
  have h1 : atO (sP k) (1 + k) = none := by
    unfold atO
    rw [if_neg (by omega)]
    refine (firstTo_none _ _).2 fun n hn => ?_
    simp only [sP]
    by_cases hk : n < k
    · simp [hk]; omega
    · simp [hk]; omega
  have h2 : firstTo (fun p => (sP k).obj p == 0 && !(sP k).dead p) 8 = some k := by
    refine firstTo_hit _ _ _ h (by simp [sP, ASt.zero]) ((firstTo_none _ _).2 fun n hn => ?_)
    simp [sP, hn]; omega
  unfold addP
  rw [if_neg (by omega), h1, h2]
  simp only [Option.isSome_none, Bool.false_eq_true, if_false]
  congr 2
  unfold sP
  congr 1
  funext p
  unfold upd
  by_cases hp : p = k
  · subst hp; simp; omega
  · rw [if_neg hp]
    show (if p < k then (p : Int) + 1 else 0) = _
    by_cases hk : p < k
    · rw [if_pos hk, if_pos (by omega)]
    · rw [if_neg hk, if_neg (by omega)]

/-- after some roots: c p of the pool p's numbers are given (0 counts as given) -/
structure AllI (s : ASt) (c : Nat → Nat) (i : Nat) : Prop where
  obj : ∀ p, p < 8 → s.obj p = (p : Int) + 1
  c4 : ∀ p, p < 8 → c p ≤ 4
  c0 : 1 ≤ c 0
  on : ∀ p j, p < 8 → j < 4 → j < c p → 4 * p + j ≠ 0 → 0 < s.root (4 * p + j) ∧ s.root (4 * p + j) < 100 + i ∧ s.ser (4 * p + j) = ((4 * p + j : Nat) : Int)
  off : ∀ p j, p < 8 → j < 4 → c p ≤ j → s.root (4 * p + j) = 0 ∧ s.given (4 * p + j) = 0
  giv : ∀ n, n < 32 → 0 ≤ s.given n ∧ s.given n ≤ 600000
def c00 : Nat → Nat := fun p => if p = 0 then 1 else 0
theorem AllI.start : AllI (sP 8) c00 0 := by
  refine ⟨fun p hp => by simp [sP, hp], fun p _ => ?_, by simp [c00], fun p j hp hj h h0 => ?_, fun p j hp hj h => ⟨rfl, rfl⟩, fun n hn => ⟨Int.le_refl _, by show (0 : Int) ≤ 600000; omega⟩⟩
  · unfold c00; split <;> omega
  · unfold c00 at h; split at h <;> omega
theorem AllI.at_ {s : ASt} {c : Nat → Nat} {i : Nat} (h : AllI s c i) (p : Nat) (hp : p < 8) : atO s (1 + p) = some p := by
  unfold atO
  rw [if_neg (by omega)]
  refine firstTo_hit _ _ _ hp (by simp [h.obj p hp]; omega) ((firstTo_none _ _).2 fun n hn => ?_)
  simp [h.obj n (by omega)]; omega
theorem AllI.new {s : ASt} {c : Nat → Nat} {i : Nat} (h : AllI s c i) : findN s (isRoot (100 + i)) = none := by
  refine (firstTo_none _ _).2 fun n hn => ?_
  obtain ⟨p, j, hp, hj, rfl⟩ : ∃ p j, p < 8 ∧ j < 4 ∧ n = 4 * p + j := ⟨n / 4, n % 4, by omega, by omega, by omega⟩
  by_cases h0 : 4 * p + j = 0
  · simp [h0]
  · by_cases hc : j < c p
    · obtain ⟨h1, h2, _⟩ := h.on p j hp hj hc h0
      simp [ASt.hit, isRoot]; omega
    · obtain ⟨h1, _⟩ := h.off p j hp hj (by omega)
      simp [ASt.hit, h1]
theorem AllI.free {s : ASt} {c : Nat → Nat} {i : Nat} (h : AllI s c i) (p : Nat) (hp : p < 8) (j : Fin 4) (h0 : 4 * p + j.val ≠ 0) : freeO s p j = decide (c p ≤ j.val) := by
  have hj := j.isLt
  unfold freeO
  by_cases hc : j.val < c p
  · obtain ⟨h1, _⟩ := h.on p j.val hp hj hc h0
    rw [decide_eq_false (by omega : ¬ c p ≤ j.val), show (s.root (4 * p + j.val) == 0) = false by simp; omega]
    rfl
  · obtain ⟨h1, h2⟩ := h.off p j.val hp hj (by omega)
    have hs : serO s (4 * p + j.val) ≤ 16777215 := by unfold serO; rw [h2]; omega
    rw [decide_eq_true (by omega : c p ≤ j.val), decide_eq_true hs, h1]
    rfl
theorem AllI.full {s : ASt} {c : Nat → Nat} {i : Nat} (h : AllI s c i) (p : Nat) (hp : p < 8) (hc : c p = 4) : assignP s (1 + p) (100 + i) = (0, 0, 11, s) := by
  have hf : (nums p).find? (freeO s p) = none := List.find?_eq_none.2 fun j hj => by
    rw [h.free p hp j ((mem_nums p j).1 hj), decide_eq_false (by have := j.isLt; omega)]; simp
  unfold assignP
  rw [h.at_ p hp]
  simp only
  rw [if_neg (by omega), h.new, hf]
  simp
theorem AllI.give {s : ASt} {c : Nat → Nat} {i : Nat} (h : AllI s c i) (p : Nat) (hp : p < 8) (hc : c p < 4) (h32 : 4 * p + c p ≠ 0) :
    assignP s (1 + p) (100 + i) = (((4 * p + c p : Nat) : Int), ((4 * p + c p : Nat) : Int), 0, s.give (4 * p + c p) (100 + i)) ∧ AllI (s.give (4 * p + c p) (100 + i)) (upd c p (c p + 1)) (i + 1) ∧ rootP (s.give (4 * p + c p) (100 + i)) ((4 * p + c p : Nat) : Int) = (100 + (i : Int), ((4 * p + c p : Nat) : Int), true) := by
  obtain ⟨hr0, hg0⟩ := h.off p (c p) hp hc (Nat.le_refl _)
  have hser : serO s (4 * p + c p) = ((4 * p + c p : Nat) : Int) := by unfold serO; rw [hg0]; omega
  have hmem : (⟨c p, hc⟩ : Fin 4) ∈ nums p := (mem_nums p _).2 h32
  have hfr : freeO s p ⟨c p, hc⟩ = true := by rw [h.free p hp _ h32]; simp
  have hf : (nums p).find? (freeO s p) = some ⟨c p, hc⟩ := by
    cases e : (nums p).find? (freeO s p) with
    | none => have := List.find?_eq_none.1 e _ hmem; rw [hfr] at this; exact absurd rfl this
    | some k =>
      obtain ⟨hk1, xa, xb, hk2, hk3⟩ := List.find?_eq_some_iff_append.1 e
      have hkm : k ∈ nums p := by rw [hk2]; simp
      have hk0 := (mem_nums p k).1 hkm
      rw [h.free p hp k hk0] at hk1
      have hk4 : c p ≤ k.val := of_decide_eq_true hk1
      by_cases hek : k.val = c p
      · exact congrArg some (Fin.ext hek)
      · exfalso
        have hs := nums_sorted p
        rw [hk2] at hs hmem
        rcases List.mem_append.1 hmem with hm | hm
        · have := hk3 _ hm; rw [hfr] at this; simp at this
        · rcases List.mem_cons.1 hm with hm | hm
          · rw [← hm] at hek; exact hek rfl
          · have := (List.pairwise_cons.1 (List.pairwise_append.1 hs).2.1).1 _ hm
            simp at this; omega
  refine ⟨?_, ?_, ?_⟩
  · unfold assignP
    rw [h.at_ p hp]
    simp only
    rw [if_neg (by omega), h.new, hf]
    simp [hser]
  · refine ⟨h.obj, fun q hq => ?_, ?_, fun q j hq hj hjc h0 => ?_, fun q j hq hj hjc => ?_, fun n hn => ?_⟩
    · unfold upd; split
      · omega
      · exact h.c4 q hq
    · have := h.c0
      unfold upd; split
      · omega
      · exact this
    · simp only [ASt.give]
      by_cases hn : 4 * q + j = 4 * p + c p
      · rw [hn, upd_same, upd_same, hser]; exact ⟨by omega, by omega, rfl⟩
      · rw [upd_other _ _ _ _ hn, upd_other _ _ _ _ hn]
        have hjc' : j < c q := by
          by_cases hqp : q = p
          · subst hqp; rw [upd_same] at hjc; omega
          · rw [upd_other _ _ _ _ hqp] at hjc; exact hjc
        obtain ⟨h1, h2, h3⟩ := h.on q j hq hj hjc' h0
        exact ⟨h1, by omega, h3⟩
    · have hjc' : c q ≤ j ∧ 4 * q + j ≠ 4 * p + c p := by
        by_cases hqp : q = p
        · subst hqp; rw [upd_same] at hjc; omega
        · rw [upd_other _ _ _ _ hqp] at hjc; exact ⟨hjc, by omega⟩
      simp only [ASt.give]
      rw [upd_other _ _ _ _ hjc'.2, upd_other _ _ _ _ hjc'.2]
      exact h.off q j hq hj hjc'.1
    · simp only [ASt.give]
      have := h.giv n hn
      by_cases hne : n = 4 * p + c p
      · subst hne; rw [upd_same, hg0]; omega
      · rw [upd_other _ _ _ _ hne]; exact this
  · have hfind : findN (s.give (4 * p + c p) (100 + i)) (isSer ((4 * p + c p : Nat) : Int)) = some (4 * p + c p) := by
      refine firstTo_hit _ _ _ (by omega) ?_ ((firstTo_none _ _).2 fun n hn => ?_)
      · simp [ASt.hit, ASt.give, upd_same, isSer, hser]; omega
      · obtain ⟨q, j, hq, hj, rfl⟩ : ∃ q j, q < 8 ∧ j < 4 ∧ n = 4 * q + j := ⟨n / 4, n % 4, by omega, by omega, by omega⟩
        have hne : 4 * q + j ≠ 4 * p + c p := by omega
        by_cases h0 : 4 * q + j = 0
        · simp [h0]
        · by_cases hcq : j < c q
          · obtain ⟨h1, h2, h3⟩ := h.on q j hq hj hcq h0
            simp [ASt.hit, ASt.give, upd_other _ _ _ _ hne, isSer, h3]; omega
          · obtain ⟨h1, _⟩ := h.off q j hq hj (by omega)
            simp [ASt.hit, ASt.give, upd_other _ _ _ _ hne, h1]
    unfold rootP
    rw [hfind]
    simp [ASt.give, upd_same]
end Go.Proofs.Ytaomipfblcndlaa
