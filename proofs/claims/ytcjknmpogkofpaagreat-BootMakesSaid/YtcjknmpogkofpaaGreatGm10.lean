/- Laws that the statement's proof leans on (joined out of several texts). -/
import Derived.WalkKit
import Derived.ProofKit
import Derived.Test.YtcjknmpogkofpaaGreatGm3
import Derived.Test.YtcjknmpogkofpaaGreatGm2
import Derived.Test.YtcjknmpogkofpaaGreatGm4
import Derived.Test.YtcjknmpogkofpaaGreatGm5
set_option linter.unusedVariables false
set_option linter.unusedSimpArgs false
namespace Go.Proofs.YtcjknmpogkofpaaGreat.As
open Go.RowKit
set_option maxRecDepth 20000
structure ASt where
  obj : Nat → Int
  dead : Nat → Bool
  root : Nat → Int
  ser : Nat → Int
  given : Nat → Int
def ASt.at (s : ASt) (j : Nat) : Value :=
  if j < 80 then
    (if j % 10 = 0 then .int .i64 (s.obj (j / 10))
     else if j % 10 = 1 then .bool (s.dead (j / 10))
     else if j % 10 < 6 then .int .i64 (s.root (4 * (j / 10) + (j % 10 - 2)))
     else .int .i64 (s.ser (4 * (j / 10) + (j % 10 - 6))))
  else .int .i64 (s.given (j - 80))
def ASt.cells (s : ASt) : Array Value := Array.ofFn (n := 112) fun i => s.at i.val
theorem ASt.cells_get (s : ASt) (j : Nat) (h : j < 112) : s.cells[j]? = some (s.at j) := by simp [ASt.cells, h]
theorem ASt.cells_size (s : ASt) : s.cells.size = 112 := by simp [ASt.cells]
def upd {α : Type} (f : Nat → α) (k : Nat) (v : α) : Nat → α := fun i => if i = k then v else f i
theorem upd_same {α : Type} (f : Nat → α) (k : Nat) (v : α) : upd f k v k = v := by simp [upd]
theorem upd_other {α : Type} (f : Nat → α) (k i : Nat) (v : α) (h : i ≠ k) : upd f k v i = f i := by simp [upd, h]
theorem cells_set (s s' : ASt) (k : Nat) (v : Value) (hk : k < 112) (h1 : s'.at k = v) (h2 : ∀ j, j < 112 → j ≠ k → s'.at j = s.at j) : s.cells.setIfInBounds k v = s'.cells := by
  apply Array.ext
  · simp [ASt.cells]
  · intro j hj1 hj2
    have hj : j < 112 := by simpa [ASt.cells] using hj2
    rw [Array.getElem_setIfInBounds (by simpa [ASt.cells] using hj)]
    by_cases e : k = j
    · subst e; simp [ASt.cells, h1]
    · rw [if_neg e]; simp [ASt.cells, h2 j hj (fun h => e h.symm)]
def firstTo (p : Nat → Bool) (k : Nat) : Option Nat := (List.range k).find? p
theorem firstTo_succ (p : Nat → Bool) (k : Nat) : firstTo p (k + 1) = (firstTo p k).or (if p k then some k else none) := by
  unfold firstTo; rw [List.range_succ, List.find?_append]
  cases h : p k <;> simp [List.find?, h]
theorem firstTo_none (p : Nat → Bool) (k : Nat) : firstTo p k = none ↔ ∀ i, i < k → p i = false := by
  unfold firstTo; simp
theorem firstTo_hit (p : Nat → Bool) (k m : Nat) (hm : m < k) (hp : p m = true) (h : firstTo p m = none) : firstTo p k = some m := by
  have : ∀ d, firstTo p (m + 1 + d) = some m := by
    intro d
    induction d with
    | zero => rw [Nat.add_zero, firstTo_succ, h, hp]; rfl
    | succ d ih => rw [← Nat.add_assoc, firstTo_succ, ih]; rfl
  have := this (k - (m + 1))
  rwa [show m + 1 + (k - (m + 1)) = k by omega] at this
theorem firstTo_some (p : Nat → Bool) (k m : Nat) (h : firstTo p k = some m) : m < k ∧ p m = true ∧ ∀ i, i < m → p i = false := by
  unfold firstTo at h
  have h1 := List.find?_some h
  have h2 := List.mem_of_find?_eq_some h
  refine ⟨by simpa using h2, h1, fun i hi => ?_⟩
  cases hb : p i
  · rfl
  · exfalso
    have hk : m < k := by simpa using h2
    have hf : firstTo p i = none ∨ ∃ q, firstTo p i = some q := by cases firstTo p i <;> simp
    have key : ∀ n, n ≤ k → ∀ q, firstTo p n = some q → firstTo p k = some q := by
      intro n hn q hq
      have : ∀ d, firstTo p (n + d) = some q := by
        intro d
        induction d with
        | zero => exact hq
        | succ d ih => rw [← Nat.add_assoc, firstTo_succ, ih]; rfl
      have := this (k - n)
      rwa [show n + (k - n) = k by omega] at this
    rcases hf with hf | ⟨q, hf⟩
    · have := firstTo_hit p k i (by omega) hb hf
      have e : firstTo p k = some m := h
      rw [this] at e; cases e; omega
    · have := key i (by omega) q hf
      have e : firstTo p k = some m := h
      rw [this] at e
      obtain rfl : q = m := Option.some.inj e
      have : q < i := by unfold firstTo at hf; have := List.mem_of_find?_eq_some hf; simpa using this
      omega
abbrev asA (b : Nat) (s : ASt) : Chunk := (b, .cells s.cells 237 (0, 0))
theorem ASt.c_obj (s : ASt) (p : Nat) (hp : p < 8) : s.cells[p * 10]? = some (.int .i64 (s.obj p)) := by
  rw [s.cells_get _ (by omega)]; unfold ASt.at; rw [if_pos (by omega), if_pos (by omega), show p * 10 / 10 = p by omega]
theorem ASt.c_dead (s : ASt) (p : Nat) (hp : p < 8) : s.cells[p * 10 + 1]? = some (.bool (s.dead p)) := by
  rw [s.cells_get _ (by omega)]; unfold ASt.at; rw [if_pos (by omega), if_neg (by omega), if_pos (by omega), show (p * 10 + 1) / 10 = p by omega]
theorem ASt.c_root (s : ASt) (p i : Nat) (hp : p < 8) (hi : i < 4) : s.cells[p * 10 + 2 + i * 1]? = some (.int .i64 (s.root (4 * p + i))) := by
  rw [s.cells_get _ (by omega)]; unfold ASt.at; rw [if_pos (by omega), if_neg (by omega), if_neg (by omega), if_pos (by omega), show 4 * ((p * 10 + 2 + i * 1) / 10) + ((p * 10 + 2 + i * 1) % 10 - 2) = 4 * p + i by omega]
theorem ASt.c_ser (s : ASt) (p i : Nat) (hp : p < 8) (hi : i < 4) : s.cells[p * 10 + 6 + i * 1]? = some (.int .i64 (s.ser (4 * p + i))) := by
  rw [s.cells_get _ (by omega)]; unfold ASt.at; rw [if_pos (by omega), if_neg (by omega), if_neg (by omega), if_neg (by omega), show 4 * ((p * 10 + 6 + i * 1) / 10) + ((p * 10 + 6 + i * 1) % 10 - 6) = 4 * p + i by omega]
theorem ASt.c_given (s : ASt) (n : Nat) (hn : n < 32) : s.cells[80 + n * 1]? = some (.int .i64 (s.given n)) := by
  rw [s.cells_get _ (by omega)]; unfold ASt.at; rw [if_neg (by omega), show 80 + n * 1 - 80 = n by omega]
def atO (s : ASt) (o : Int) : Option Nat := if o < 1 then none else firstTo (fun p => s.obj p == o) 8
def atI (s : ASt) (o : Int) : Int := match atO s o with | some p => (p : Int) | none => -1
set_option maxHeartbeats 1000000 in
theorem at_any (b : Nat) (s : ASt) (o : Int) (l : List Chunk) (hm : asA b s ∈ l) :
    Fn Tryz.prog 150 [.pointer (some ⟨b, 0, none⟩), .int .i64 o] l fun v l' => v = .int .i64 (atI s o) ∧ l' = l := by
  refine fn_of_body Tryz.func150 rfl rfl fun E => ?_
  simp only [argF, Tryz.ntmps150]
  refine gz ?_
  refine c_if rfl (fun ho => ?_) (fun ho => ?_)
  · refine gz ?_
    refine k_ret [] rfl .refl (by exact zRes) ⟨?_, rfl⟩
    simp [tup, atI, atO, ho]
  · refine gz ?_
    refine k_loop (α := Nat) (fun k => [(0, .pointer (some ⟨b, 0, none⟩)), (1, .int .i64 o), (12, .int .i64 k)]) (fun k => l) (fun k => k ≤ 8 ∧ firstTo (fun p => s.obj p == o) k = none) (fun k => 8 - k) 0 ⟨by omega, rfl⟩ ⟨rfl, rfl, rfl, trivial⟩ .refl ?_
    rintro k ⟨hk, hf⟩
    by_cases hlt : k < 8
    · have hc := s.c_obj k hlt
      refine gz ?_
      refine c_if rfl (fun hq => ?_) (fun hq => ?_)
      · refine gz ?_
        refine k_ret [] rfl .refl (by exact zRes) ⟨?_, rfl⟩
        simp only [tup, atI, atO, if_neg ho]; rw [firstTo_hit _ 8 k hlt (by simp [hq]) hf]
      · refine gz ?_
        exact k_next (k + 1) ⟨by omega, by rw [firstTo_succ, hf]; simp [hq]⟩ (by omega) ⟨rfl, rfl, rfl, trivial⟩ .refl
    · obtain rfl : k = 8 := by omega
      refine gz ?_
      refine k_ret [] rfl .refl (by exact zRes) ⟨?_, rfl⟩
      simp only [tup, atI, atO, if_neg ho]; rw [hf]
def numsTo (p k : Nat) : List (Fin 4) := (List.range k).filterMap fun i => if h : i < 4 then (if 4 * p + i = 0 then none else some ⟨i, h⟩) else none
def nums (p : Nat) : List (Fin 4) := numsTo p 4
theorem numsTo_succ (p k : Nat) (hk : k < 4) : numsTo p (k + 1) = numsTo p k ++ if 4 * p + k = 0 then [] else [⟨k, hk⟩] := by
  unfold numsTo; rw [List.range_succ, List.filterMap_append]; congr 1
  simp only [List.filterMap_cons, List.filterMap_nil, dif_pos hk]
  by_cases h : 4 * p + k = 0 <;> simp only [h, if_true, if_false]
theorem numsTo_pre (p k m : Nat) (h : k ≤ m) (hm : m ≤ 4) : numsTo p k <+: numsTo p m := by
  induction m with
  | zero => obtain rfl : k = 0 := by omega
            exact List.prefix_rfl
  | succ m ih =>
    by_cases hk : k = m + 1
    · subst hk; exact List.prefix_rfl
    · rw [numsTo_succ _ _ (by omega)]; exact (ih (by omega) (by omega)).trans (List.prefix_append _ _)
set_option maxHeartbeats 1000000 in
theorem numbers_any (p : Nat) (l : List Chunk) : Fn Tryz.prog 152 [.int .i64 p] l fun v l' => ∃ B, (∀ c, c ∈ l → c.1 ≠ B) ∧ v = .func (.func 196) #[] #[.pointer (some ⟨B, 0, none⟩)] ∧ l' = (B, .cells #[.int .i64 p] 3 (0, 0)) :: l := by
  refine fn_of_body Tryz.func152 rfl rfl fun E => ?_
  simp only [argF, Tryz.ntmps152]
  refine gz ?_
  refine t_e (e_box1 rfl rfl) rfl rfl rfl ?_
  rintro _ _ ⟨B, hB, rfl, rfl⟩
  refine gz ?_
  exact k_ret [] rfl .refl (by exact zRes) ⟨B, hB, rfl, rfl⟩
set_option maxHeartbeats 1000000 in
theorem numbers1_iter (B p : Nat) (hp : p < 8) : IterS Tryz.prog 196 [.pointer (some ⟨B, 0, none⟩)] (fun i : Fin 4 => [.int .i64 ((4 * p + i.val : Nat) : Int), .int .i64 (i.val : Nat)]) (fun xs => xs = nums p) (fun pre => pre <+: nums p)
    (fun _ l => (B, .cells #[.int .i64 p] 3 (0, 0)) ∈ l) := by
  refine ⟨fun r I Ix G0 hneed hY l G hG h0 => ?_⟩
  refine fn_of_body Tryz.func196 rfl rfl fun E => ?_
  simp only [argF, Tryz.ntmps196]
  refine gz ?_
  refine k_loop (α := Nat × List Chunk) (fun x => [(0, .func (.yield r) #[] #[]), (1, .pointer (some ⟨B, 0, none⟩)), (5, .int .i64 x.1)]) (fun x => x.2 ++ G) (fun x => x.1 ≤ 4 ∧ I (numsTo p x.1) x.2) (fun x => 4 - x.1) (0, l) ⟨by simp, h0⟩ ⟨rfl, rfl, rfl, trivial⟩ .refl ?_
  rintro ⟨k, l⟩ ⟨hk, hI⟩
  simp only at hk hI ⊢
  by_cases hlt : k < 4
  · have hm := hneed _ _ G hG hI
    by_cases hz : 4 * p + k = 0
    · have e1 : numsTo p (k + 1) = numsTo p k := by rw [numsTo_succ _ _ hlt, if_pos hz]; simp
      refine gz ?_
      exact k_next (k + 1, l) ⟨by simp; omega, by simp only; rw [e1]; exact hI⟩ (by simp; omega) ⟨rfl, rfl, rfl, trivial⟩ .refl
    · have e1 : numsTo p (k + 1) = numsTo p k ++ [⟨k, hlt⟩] := by rw [numsTo_succ _ _ hlt, if_neg hz]
      have hsp : numsTo p k ++ [⟨k, hlt⟩] <+: nums p := by rw [← e1]; exact numsTo_pre _ _ _ (by omega) (by omega)
      have hy := hY (numsTo p k) ⟨k, hlt⟩ l G hG hI hsp
      rw [← e1] at hy
      refine gz ?_
      refine t_e (e_yield rfl rfl hy) rfl rfl rfl ?_
      rintro v l' ⟨l1, rfl, ⟨rfl, hI'⟩ | ⟨rfl, hx⟩⟩
      · refine gz ?_
        exact k_next (k + 1, l1) ⟨by simp; omega, hI'⟩ (by simp; omega) ⟨rfl, rfl, rfl, trivial⟩ .refl
      · refine gz ?_
        exact k_ret [] rfl .refl (by exact zRes) ⟨l1, rfl, .inr ⟨_, by rw [e1]; exact hsp, hx⟩⟩
  · obtain rfl : k = 4 := by omega
    refine gz ?_
    exact k_ret [] rfl .refl (by exact zRes) ⟨l, rfl, .inl ⟨_, rfl, hI⟩⟩
def ASt.hit (s : ASt) (P : Int → Int → Bool) (n : Nat) : Bool := decide (s.root n ≠ 0) && P (s.root n) (s.ser n)
def findN (s : ASt) (P : Int → Int → Bool) : Option Nat := firstTo (fun n => decide (n ≠ 0) && s.hit P n) 32
def foundV : Option Nat → List Value
  | none => [.int .i64 0, .int .i64 0, .int .i64 0]
  | some n => [.int .i64 (n : Nat), .int .i64 ((n / 4 : Nat) : Int), .int .i64 ((n % 4 : Nat) : Int)]
theorem mem_nums (p : Nat) (i : Fin 4) : i ∈ nums p ↔ 4 * p + i.val ≠ 0 := by
  unfold nums numsTo
  rw [List.mem_filterMap]
  constructor
  · rintro ⟨j, hj, h⟩
    have hj4 : j < 4 := by simpa using hj
    rw [dif_pos hj4] at h
    by_cases h0 : 4 * p + j = 0
    · rw [if_pos h0] at h; cases h
    · rw [if_neg h0] at h; cases h; exact h0
  · intro h
    exact ⟨i.val, by simp, by rw [dif_pos i.isLt, if_neg h]⟩
theorem nums_sorted (p : Nat) : (nums p).Pairwise fun a b => a.val < b.val := by
  have key : ∀ k, k ≤ 4 → (numsTo p k).Pairwise (fun a b => a.val < b.val) ∧ ∀ a ∈ numsTo p k, a.val < k := by
    intro k
    induction k with
    | zero => intro _; exact ⟨List.Pairwise.nil, by simp [numsTo]⟩
    | succ k ih =>
      intro hk
      obtain ⟨h1, h2⟩ := ih (by omega)
      rw [numsTo_succ _ _ (by omega)]
      by_cases h0 : 4 * p + k = 0
      · rw [if_pos h0, List.append_nil]; exact ⟨h1, fun a ha => by have := h2 a ha; omega⟩
      · rw [if_neg h0]
        refine ⟨List.pairwise_append.2 ⟨h1, by simp, fun a ha b hb => ?_⟩, fun a ha => ?_⟩
        · simp at hb; subst hb; exact h2 a ha
        · rcases List.mem_append.1 ha with ha | ha
          · have := h2 a ha; omega
          · simp at ha; subst ha; simp
  exact (key 4 (by omega)).1
theorem nums_before (p : Nat) (pre : List (Fin 4)) (i : Fin 4) (h : pre ++ [i] <+: nums p) : 4 * p + i.val ≠ 0 ∧ ∀ j : Fin 4, j.val < i.val → 4 * p + j.val ≠ 0 → j ∈ pre := by
  obtain ⟨rest, hr⟩ := h
  refine ⟨(mem_nums p i).1 (by rw [← hr]; simp), fun j hj h0 => ?_⟩
  have hm := (mem_nums p j).2 h0
  have hs := nums_sorted p
  rw [← hr] at hm hs
  rcases List.mem_append.1 hm with hm | hm
  · rcases List.mem_append.1 hm with hm | hm
    · exact hm
    · simp at hm; subst hm; omega
  · have := (List.pairwise_append.1 hs).2.2 i (by simp) j hm
    omega
set_option maxHeartbeats 400000 in
theorem find_any (b rb gf : Nat) [EN Tryz.prog gf] (s : ASt) (x : Int) (PP : Int → Int → Bool) (l : List Chunk) (hA : asA b s ∈ l) (hx : (rb, Obj.cells #[.int .i64 x] 3 (0, 0)) ∈ l)
    (hg : ∀ (r q : Int) l, (rb, Obj.cells #[.int .i64 x] 3 (0, 0)) ∈ l → Fn Tryz.prog gf [.int .i64 r, .int .i64 q, .pointer (some ⟨rb, 0, none⟩)] l fun v l' => v = .bool (PP r q) ∧ l' = l) :
    Fn Tryz.prog 133 [.pointer (some ⟨b, 0, none⟩), .func (.func gf) #[] #[.pointer (some ⟨rb, 0, none⟩)]] l fun v l' => v = .tuple #[.agg (List.toArray (foundV (findN s PP))), .bool (findN s PP).isSome] ∧ l' = l := by
  refine fn_of_body Tryz.func133 rfl rfl fun E => ?_
  simp only [argF, Tryz.ntmps133]
  refine gz ?_
  (first | refine t_e (e_box1 rfl rfl) rfl rfl rfl ?_ | refine t_e (e_boxA rfl) rfl rfl rfl ?_); rintro _ _ ⟨b2, _, rfl, rfl⟩
  refine gz ?_
  (first | refine t_e (e_box1 rfl rfl) rfl rfl rfl ?_ | refine t_e (e_boxA rfl) rfl rfl rfl ?_); rintro _ _ ⟨b3, _, rfl, rfl⟩
  refine gz ?_
  refine t_e e_alloc rfl rfl rfl ?_; rintro _ _ ⟨b4, _, rfl, rfl⟩
  refine gz ?_
  refine t_e e_alloc rfl rfl rfl ?_; rintro _ _ ⟨b6, _, rfl, rfl⟩
  refine gz ?_
  refine t_e e_alloc rfl rfl rfl ?_; rintro _ _ ⟨b7, _, rfl, rfl⟩
  refine gz ?_
  refine d_loop (α := Nat × List Nat) (fun x => [(2, .pointer (some ⟨b2, 0, none⟩)), (3, .pointer (some ⟨b3, 0, none⟩)), (4, .pointer (some ⟨b4, 0, none⟩)), (6, .pointer (some ⟨b6, 0, none⟩)), (7, .pointer (some ⟨b7, 0, none⟩)), (16, .int .i64 x.1)]) (fun x => x.2.map markD)
    (fun x => (b2, .cells #[.pointer (some ⟨b, 0, none⟩)] 124 (0, 0)) :: (b3, .cells #[.func (.func gf) #[] #[.pointer (some ⟨rb, 0, none⟩)]] 182 (0, 0)) :: (b4, .cells #[.int .i64 0, .int .i64 0, .int .i64 0] 257 (0, 0)) :: (b6, .cells #[.int .i64 0, .int .i64 0, .int .i64 0] 257 (0, 0)) :: (b7, .cells #[.bool false] 4 (0, 0)) :: (x.2.map markC ++ l))
    (fun x => x.1 ≤ 8 ∧ ∀ n, n < 4 * x.1 → (decide (n ≠ 0) && s.hit PP n) = false) (fun x => 8 - x.1) (0, []) ⟨by simp, by simp⟩ ⟨rfl, rfl, rfl, rfl, rfl, rfl, trivial⟩ rfl (by exact zKeep) ?_
  rintro ⟨k, Ds⟩ ⟨hk, hn⟩
  simp only at hk hn ⊢
  have hA' : asA b s ∈ Ds.map markC ++ l := List.mem_append_right _ hA
  have hx' : (rb, Obj.cells #[.int .i64 x] 3 (0, 0)) ∈ Ds.map markC ++ l := List.mem_append_right _ hx
  by_cases hlt : k < 8
  · refine gz ?_
    refine t_e e_alloc rfl rfl rfl ?_; rintro _ _ ⟨b8, _, rfl, rfl⟩
    refine gz ?_
    refine t_e (e_call0 rfl rfl (numbers_any k _)) rfl rfl rfl ?_
    rintro v l' ⟨B, hB, rfl, rfl⟩
    refine gz ?_
    refine c_range (α := Fin 4) (ps := [21, 22]) (lb := [.pointer (some ⟨B, 0, none⟩)]) rfl (numbers1_iter B k hlt) (fun _ => rfl) rfl
      (fun pre l => l = [(B, .cells #[.int .i64 (k : Nat)] 3 (0, 0)), (b8, .cells #[.int .i64 (k : Nat)] 3 (0, 0)), (b2, .cells #[.pointer (some ⟨b, 0, none⟩)] 124 (0, 0)), (b3, .cells #[.func (.func gf) #[] #[.pointer (some ⟨rb, 0, none⟩)]] 182 (0, 0)), (b4, .cells #[.int .i64 0, .int .i64 0, .int .i64 0] 257 (0, 0)), (b6, .cells #[.int .i64 0, .int .i64 0, .int .i64 0] 257 (0, 0)), (b7, .cells #[.bool false] 4 (0, 0))] ∧ ∀ j ∈ pre, s.hit PP (4 * k + j.val) = false)
      (fun c pre l => c = .exit 0 ∧ ∃ (pre' : List (Fin 4)) (i : Fin 4), pre = pre' ++ [i] ∧ (∀ j ∈ pre', s.hit PP (4 * k + j.val) = false) ∧ s.hit PP (4 * k + i.val) = true ∧ l = [(b4, .cells #[.int .i64 0, .int .i64 0, .int .i64 0] 257 (0, 0)), (b6, .cells #[.int .i64 ((4 * k + i.val : Nat) : Int), .int .i64 (k : Nat), .int .i64 (i.val : Nat)] 257 (0, 0)), (b7, .cells #[.bool true] 4 (0, 0))])
      _ (Ds.map markC ++ l) (fun pre l X _ h => by rw [h.1]; exact List.Mem.head _) (by exact zKeep) ⟨rfl, by simp⟩ ?_ ?_ ?_
    · rintro E r rec pre y l' T ⟨fn, tmps, D, rfl⟩ hT ⟨rfl, hp⟩ hsp
      have hAT := hT _ hA'
      have hxT := hT _ hx'
      have hy4 := y.isLt
      have qr := s.c_root k y.val hlt hy4
      have qs := s.c_ser k y.val hlt hy4
      simp only [putPs, List.cons_append, List.nil_append]
      refine gz ?_
      refine p_begin (by exact zUpd) ?_
      refine gz ?_
      refine c_draw [(0, true), (1, true), (2, true), (3, true), (4, true), (5, true), (6, true), (7, true), (8, true), (9, true)] [[], [], [], [0], [0, 3], [0, 1, 3, 4], [0, 1, 3, 4, 5], [0, 1, 2, 3, 4, 5, 6], [0, 1, 2, 3, 4, 5, 6, 7], [0, 1, 2, 3, 4, 5, 6, 7, 8]] _ (by kernel_rfl) (by kernel_rfl) zAtt (fun _ h => h) ?_
      refine pz ?_
      have hsel : s.hit PP (4 * k + y.val) = (decide (s.root (4 * k + y.val) ≠ 0) && PP (s.root (4 * k + y.val)) (s.ser (4 * k + y.val))) := rfl
      by_cases hr : s.root (4 * k + y.val) = 0
      · refine gz ?_
        refine c_draw [(0, true), (1, true), (2, true), (3, true), (4, true), (5, true), (6, true), (7, true), (8, true), (9, true), (10, true), (11, true), (12, true), (13, true), (14, true), (15, true)] [[], [0], [0, 1], [0, 1, 2], [0, 1, 2], [0, 1, 2], [0, 1, 2], [0, 1, 2], [0, 1, 2, 5], [0, 1, 2, 5, 8], [0, 1, 2, 5, 6, 8, 9], [0, 1, 2, 5, 6, 8, 9, 10], [0, 1, 2, 5, 6, 7, 8, 9, 10, 11], [0, 1, 2, 5, 6, 7, 8, 9, 10, 11, 12], [0, 1, 2, 3, 4, 5, 6, 7, 8, 9, 10, 11, 12, 13], [0, 1, 2, 3, 4, 5, 6, 7, 8, 9, 10, 11, 12, 13, 14]] _ (by kernel_rfl) (by kernel_rfl) zAtt (fun _ h => h) ?_
        refine pz ?_
        refine gz ?_
        refine p_round [(B, .cells #[.int .i64 (k : Nat)] 3 (0, 0)), (b8, .cells #[.int .i64 (k : Nat)] 3 (0, 0)), (b2, .cells #[.pointer (some ⟨b, 0, none⟩)] 124 (0, 0)), (b3, .cells #[.func (.func gf) #[] #[.pointer (some ⟨rb, 0, none⟩)]] 182 (0, 0)), (b4, .cells #[.int .i64 0, .int .i64 0, .int .i64 0] 257 (0, 0)), (b6, .cells #[.int .i64 0, .int .i64 0, .int .i64 0] 257 (0, 0)), (b7, .cells #[.bool false] 4 (0, 0))] (by exact zKeep) ⟨rfl, ?_⟩
        intro j hj
        rcases List.mem_append.1 hj with hj | hj
        · exact hp j hj
        · simp at hj; subst hj; rw [hsel, decide_eq_false (by simp [hr])]; rfl
      · refine gz ?_
        refine c_draw [(0, true), (1, true), (2, true), (3, true), (4, true), (5, true), (6, true), (7, true), (8, true), (9, true), (10, true), (11, true), (12, true), (13, true), (14, true), (15, true)] [[], [0], [0, 1], [0, 1, 2], [0, 1, 2], [0, 1, 2], [0, 1, 2], [0, 1, 2], [0, 1, 2, 5], [0, 1, 2, 5, 8], [0, 1, 2, 5, 6, 8, 9], [0, 1, 2, 5, 6, 8, 9, 10], [0, 1, 2, 5, 6, 7, 8, 9, 10, 11], [0, 1, 2, 5, 6, 7, 8, 9, 10, 11, 12], [0, 1, 2, 3, 4, 5, 6, 7, 8, 9, 10, 11, 12, 13], [0, 1, 2, 3, 4, 5, 6, 7, 8, 9, 10, 11, 12, 13, 14]] _ (by kernel_rfl) (by kernel_rfl) zAtt (fun _ h => h) ?_
        refine pz ?_
        apply pl_gq
        · exact q_callC (fs := []) rfl rfl (fun l hl => hg _ _ l (hl _ (by exact zMem)))
        all_goals try rfl
        refine pz ?_
        refine gz ?_
        refine c_ifb rfl (fun hP => ?_) (fun hP => ?_)
        · refine gz ?_
          refine p_round_exit [(b4, .cells #[.int .i64 0, .int .i64 0, .int .i64 0] 257 (0, 0)), (b6, .cells #[.int .i64 ((4 * k + y.val : Nat) : Int), .int .i64 (k : Nat), .int .i64 (y.val : Nat)] 257 (0, 0)), (b7, .cells #[.bool true] 4 (0, 0))] (by exact zKeep) ⟨rfl, pre, y, rfl, hp, by rw [hsel, hP, decide_eq_true hr]; rfl, rfl⟩
        · refine gz ?_
          refine p_round [(B, .cells #[.int .i64 (k : Nat)] 3 (0, 0)), (b8, .cells #[.int .i64 (k : Nat)] 3 (0, 0)), (b2, .cells #[.pointer (some ⟨b, 0, none⟩)] 124 (0, 0)), (b3, .cells #[.func (.func gf) #[] #[.pointer (some ⟨rb, 0, none⟩)]] 182 (0, 0)), (b4, .cells #[.int .i64 0, .int .i64 0, .int .i64 0] 257 (0, 0)), (b6, .cells #[.int .i64 0, .int .i64 0, .int .i64 0] 257 (0, 0)), (b7, .cells #[.bool false] 4 (0, 0))] (by exact zKeep) ⟨rfl, ?_⟩
          intro j hj
          rcases List.mem_append.1 hj with hj | hj
          · exact hp j hj
          · simp at hj; subst hj; rw [hsel, hP, Bool.and_false]
    · rintro D xs l' rfl ⟨rfl, hp⟩
      refine gz ?_
      refine d_next (k + 1, D :: Ds) ⟨by simp; omega, ?_⟩ (by simp; omega) ⟨rfl, rfl, rfl, rfl, rfl, rfl, trivial⟩ rfl (by exact zKeep)
      intro n h
      simp only at h
      by_cases h4 : n < 4 * k
      · exact hn n h4
      · obtain ⟨j, hj, rfl⟩ : ∃ j, j < 4 ∧ n = 4 * k + j := ⟨n - 4 * k, by omega, by omega⟩
        by_cases h0 : 4 * k + j = 0
        · simp [h0]
        · have := hp ⟨j, hj⟩ ((mem_nums k ⟨j, hj⟩).2 h0)
          simp only at this
          rw [this, Bool.and_false]
    · rintro D c pre l' hsp ⟨rfl, pre', i, rfl, hp', hi, rfl⟩
      have hi4 := i.isLt
      obtain ⟨hi0, hbef⟩ := nums_before k pre' i hsp
      have hf : findN s PP = some (4 * k + i.val) := by
        refine firstTo_hit _ _ _ (by omega) (by rw [hi]; simp; omega) ((firstTo_none _ _).2 fun n h => ?_)
        by_cases h4 : n < 4 * k
        · exact hn n h4
        · obtain ⟨j, hj, rfl⟩ : ∃ j, j < 4 ∧ n = 4 * k + j := ⟨n - 4 * k, by omega, by omega⟩
          by_cases h0 : 4 * k + j = 0
          · simp [h0]
          · have := hp' ⟨j, hj⟩ (hbef ⟨j, hj⟩ (by simp only; omega) h0)
            simp only at this
            rw [this, Bool.and_false]
      simp only [List.cons_append, List.nil_append]
      refine gz ?_
      refine c_draw [(0, true), (1, true), (2, false), (3, true)] [[], [], [0], [0, 1, 2]] ([(b6, .cells #[.int .i64 ((4 * k + i.val : Nat) : Int), .int .i64 (k : Nat), .int .i64 (i.val : Nat)] 257 (0, 0)), (b7, .cells #[.bool true] 4 (0, 0))]) (by kernel_rfl) (by kernel_rfl) zAtt zHR ?_
      refine pz ?_
      refine gz ?_
      refine k_ret2 (D :: Ds) ((b4, .cells #[.int .i64 ((4 * k + i.val : Nat) : Int), .int .i64 (k : Nat), .int .i64 (i.val : Nat)] 257 (0, 0)) :: l) rfl (l' := l) (by (apply Keep.mid; exact zKeep)) (by exact zRes) (by exact zKeep) ⟨?_, rfl⟩
      rw [hf]
      simp only [tup, foundV, Option.isSome_some]
      rw [show (4 * k + i.val) / 4 = k by omega, show (4 * k + i.val) % 4 = i.val by omega]
  · obtain rfl : k = 8 := by omega
    have hf : findN s PP = none := (firstTo_none _ _).2 fun n h => hn n (by omega)
    refine gz ?_
    refine c_draw [(0, true), (1, true), (2, false), (3, true)] [[], [], [0], [0, 1, 2]] ([(b6, .cells #[.int .i64 0, .int .i64 0, .int .i64 0] 257 (0, 0)), (b7, .cells #[.bool false] 4 (0, 0))]) (by kernel_rfl) (by kernel_rfl) zAtt zHR ?_
    refine pz ?_
    refine gz ?_
    refine k_ret2 Ds ((b4, .cells #[.int .i64 0, .int .i64 0, .int .i64 0] 257 (0, 0)) :: l) rfl (l' := l) (by (apply Keep.mid; exact zKeep)) (by exact zRes) (by exact zKeep) ⟨?_, rfl⟩
    rw [hf]
    rfl
theorem find_some (b rb gf : Nat) [EN Tryz.prog gf] (s : ASt) (x : Int) (PP : Int → Int → Bool) (n : Nat) (hf : findN s PP = some n) (l : List Chunk) (hA : asA b s ∈ l) (hx : (rb, Obj.cells #[.int .i64 x] 3 (0, 0)) ∈ l)
    (hg : ∀ (r q : Int) l, (rb, Obj.cells #[.int .i64 x] 3 (0, 0)) ∈ l → Fn Tryz.prog gf [.int .i64 r, .int .i64 q, .pointer (some ⟨rb, 0, none⟩)] l fun v l' => v = .bool (PP r q) ∧ l' = l) :
    Fn Tryz.prog 133 [.pointer (some ⟨b, 0, none⟩), .func (.func gf) #[] #[.pointer (some ⟨rb, 0, none⟩)]] l fun v l' => v = .tuple #[.agg #[.int .i64 (n : Nat), .int .i64 ((n / 4 : Nat) : Int), .int .i64 ((n % 4 : Nat) : Int)], .bool true] ∧ l' = l := by
  have := find_any b rb gf s x PP l hA hx hg
  rw [hf] at this
  exact this
theorem find_none (b rb gf : Nat) [EN Tryz.prog gf] (s : ASt) (x : Int) (PP : Int → Int → Bool) (hf : findN s PP = none) (l : List Chunk) (hA : asA b s ∈ l) (hx : (rb, Obj.cells #[.int .i64 x] 3 (0, 0)) ∈ l)
    (hg : ∀ (r q : Int) l, (rb, Obj.cells #[.int .i64 x] 3 (0, 0)) ∈ l → Fn Tryz.prog gf [.int .i64 r, .int .i64 q, .pointer (some ⟨rb, 0, none⟩)] l fun v l' => v = .bool (PP r q) ∧ l' = l) :
    Fn Tryz.prog 133 [.pointer (some ⟨b, 0, none⟩), .func (.func gf) #[] #[.pointer (some ⟨rb, 0, none⟩)]] l fun v l' => v = .tuple #[.agg #[.int .i64 0, .int .i64 0, .int .i64 0], .bool false] ∧ l' = l := by
  have := find_any b rb gf s x PP l hA hx hg
  rw [hf] at this
  exact this
def isRoot (x : Int) : Int → Int → Bool := fun r _ => decide (r = x)
theorem root_1 (rb : Nat) (x r q : Int) (l : List Chunk) (hx : (rb, Obj.cells #[.int .i64 x] 3 (0, 0)) ∈ l) : Fn Tryz.prog 151 [.int .i64 r, .int .i64 q, .pointer (some ⟨rb, 0, none⟩)] l fun v l' => v = .bool (isRoot x r q) ∧ l' = l := by
  refine fn_of_body Tryz.func151 rfl rfl fun E => ?_
  simp only [argF, Tryz.ntmps151]
  refine gz ?_
  exact k_ret [] rfl .refl (by exact zRes) ⟨rfl, rfl⟩
def ofP (s : ASt) (r : Int) : Int × Int × Bool := match findN s (isRoot r) with | some n => ((n : Int), s.ser n, true) | none => (0, 0, false)
theorem ASt.s_obj (s : ASt) (p : Nat) (hp : p < 8) (v : Int) : s.cells.setIfInBounds (p * 10) (.int .i64 v) = ({ s with obj := upd s.obj p v } : ASt).cells := by
  refine cells_set _ _ _ _ (by omega) ?_ fun j hj hne => ?_
  · unfold ASt.at; rw [if_pos (by omega), if_pos (by omega), show p * 10 / 10 = p by omega]; exact congrArg _ (upd_same _ _ _)
  · unfold ASt.at
    simp only
    by_cases h0 : j % 10 = 0
    · rw [if_pos h0, if_pos h0]
      by_cases h8 : j < 80
      · rw [if_pos h8, if_pos h8, upd_other _ _ _ _ (by omega)]
      · rw [if_neg h8, if_neg h8]
    · rw [if_neg h0, if_neg h0]
theorem ASt.s_root (s : ASt) (p i : Nat) (hp : p < 8) (hi : i < 4) (v : Int) : s.cells.setIfInBounds (p * 10 + 2 + i * 1) (.int .i64 v) = ({ s with root := upd s.root (4 * p + i) v } : ASt).cells := by
  refine cells_set _ _ _ _ (by omega) ?_ fun j hj hne => ?_
  · unfold ASt.at; rw [if_pos (by omega), if_neg (by omega), if_neg (by omega), if_pos (by omega), show 4 * ((p * 10 + 2 + i * 1) / 10) + ((p * 10 + 2 + i * 1) % 10 - 2) = 4 * p + i by omega]; exact congrArg _ (upd_same _ _ _)
  · unfold ASt.at
    simp only
    by_cases h8 : j < 80
    · rw [if_pos h8, if_pos h8]
      by_cases h0 : j % 10 = 0
      · rw [if_pos h0, if_pos h0]
      · rw [if_neg h0, if_neg h0]
        by_cases h1 : j % 10 = 1
        · rw [if_pos h1, if_pos h1]
        · rw [if_neg h1, if_neg h1]
          by_cases h6 : j % 10 < 6
          · rw [if_pos h6, if_pos h6, upd_other _ _ _ _ (by omega)]
          · rw [if_neg h6, if_neg h6]
    · rw [if_neg h8, if_neg h8]
theorem ASt.s_ser (s : ASt) (p i : Nat) (hp : p < 8) (hi : i < 4) (v : Int) : s.cells.setIfInBounds (p * 10 + 6 + i * 1) (.int .i64 v) = ({ s with ser := upd s.ser (4 * p + i) v } : ASt).cells := by
  refine cells_set _ _ _ _ (by omega) ?_ fun j hj hne => ?_
  · unfold ASt.at; rw [if_pos (by omega), if_neg (by omega), if_neg (by omega), if_neg (by omega), show 4 * ((p * 10 + 6 + i * 1) / 10) + ((p * 10 + 6 + i * 1) % 10 - 6) = 4 * p + i by omega]; exact congrArg _ (upd_same _ _ _)
  · unfold ASt.at
    simp only
    by_cases h8 : j < 80
    · rw [if_pos h8, if_pos h8]
      by_cases h0 : j % 10 = 0
      · rw [if_pos h0, if_pos h0]
      · rw [if_neg h0, if_neg h0]
        by_cases h1 : j % 10 = 1
        · rw [if_pos h1, if_pos h1]
        · rw [if_neg h1, if_neg h1]
          by_cases h6 : j % 10 < 6
          · rw [if_pos h6, if_pos h6]
          · rw [if_neg h6, if_neg h6, upd_other _ _ _ _ (by omega)]
    · rw [if_neg h8, if_neg h8]
theorem ASt.s_given (s : ASt) (n : Nat) (hn : n < 32) (v : Int) : s.cells.setIfInBounds (80 + n * 1) (.int .i64 v) = ({ s with given := upd s.given n v } : ASt).cells := by
  refine cells_set _ _ _ _ (by omega) ?_ fun j hj hne => ?_
  · unfold ASt.at; rw [if_neg (by omega), show 80 + n * 1 - 80 = n by omega]; exact congrArg _ (upd_same _ _ _)
  · unfold ASt.at
    simp only
    by_cases h8 : j < 80
    · rw [if_pos h8, if_pos h8]
    · rw [if_neg h8, if_neg h8, upd_other _ _ _ _ (by omega)]
theorem setFrom_get (vs : List Value) : ∀ (cs : Array Value) (off j : Nat), off + vs.length ≤ cs.size → (setFrom cs off vs)[j]? = if off ≤ j ∧ j < off + vs.length then vs[j - off]? else cs[j]? := by
  induction vs with
  | nil => intro cs off j h; rw [if_neg (by simp only [List.length_nil]; omega)]; rfl
  | cons v vs ih =>
    intro cs off j h
    simp only [List.length_cons] at h
    rw [setFrom, ih _ _ _ (by simp; omega)]
    by_cases h1 : off = j
    · subst h1
      rw [if_neg (by omega), if_pos (by simp), Nat.sub_self, Array.getElem?_setIfInBounds_self_of_lt (by omega)]
      rfl
    · by_cases h2 : off + 1 ≤ j ∧ j < off + 1 + vs.length
      · rw [if_pos h2, if_pos (by simp; omega), show j - off = (j - (off + 1)) + 1 by omega]; rfl
      · rw [if_neg h2, if_neg (by simp only [List.length_cons]; omega), Array.getElem?_setIfInBounds_ne h1]
def ASt.zero : ASt := ⟨fun _ => 0, fun _ => false, fun _ => 0, fun _ => 0, fun _ => 0⟩
theorem zero_cells : ASt.zero.cells = List.toArray [.int .i64 0, .bool false, .int .i64 0, .int .i64 0, .int .i64 0, .int .i64 0, .int .i64 0, .int .i64 0, .int .i64 0, .int .i64 0, .int .i64 0, .bool false, .int .i64 0, .int .i64 0, .int .i64 0, .int .i64 0, .int .i64 0, .int .i64 0, .int .i64 0, .int .i64 0, .int .i64 0, .bool false, .int .i64 0, .int .i64 0, .int .i64 0, .int .i64 0, .int .i64 0, .int .i64 0, .int .i64 0, .int .i64 0, .int .i64 0, .bool false, .int .i64 0, .int .i64 0, .int .i64 0, .int .i64 0, .int .i64 0, .int .i64 0, .int .i64 0, .int .i64 0, .int .i64 0, .bool false, .int .i64 0, .int .i64 0, .int .i64 0, .int .i64 0, .int .i64 0, .int .i64 0, .int .i64 0, .int .i64 0, .int .i64 0, .bool false, .int .i64 0, .int .i64 0, .int .i64 0, .int .i64 0, .int .i64 0, .int .i64 0, .int .i64 0, .int .i64 0, .int .i64 0, .bool false, .int .i64 0, .int .i64 0, .int .i64 0, .int .i64 0, .int .i64 0, .int .i64 0, .int .i64 0, .int .i64 0, .int .i64 0, .bool false, .int .i64 0, .int .i64 0, .int .i64 0, .int .i64 0, .int .i64 0, .int .i64 0, .int .i64 0, .int .i64 0, .int .i64 0, .int .i64 0, .int .i64 0, .int .i64 0, .int .i64 0, .int .i64 0, .int .i64 0, .int .i64 0, .int .i64 0, .int .i64 0, .int .i64 0, .int .i64 0, .int .i64 0, .int .i64 0, .int .i64 0, .int .i64 0, .int .i64 0, .int .i64 0, .int .i64 0, .int .i64 0, .int .i64 0, .int .i64 0, .int .i64 0, .int .i64 0, .int .i64 0, .int .i64 0, .int .i64 0, .int .i64 0, .int .i64 0, .int .i64 0, .int .i64 0, .int .i64 0] := by kernel_rfl
set_option maxHeartbeats 1000000 in
theorem new_any (l : List Chunk) : Fn Tryz.prog 68 [] l fun v l' => ∃ b, (∀ c, c ∈ l → c.1 ≠ b) ∧ v = .pointer (some ⟨b, 0, none⟩) ∧ l' = asA b ASt.zero :: l := by
  refine fn_of_body Tryz.func68 rfl rfl fun E => ?_
  simp only [argF, Tryz.ntmps68]
  refine gz ?_
  refine t_e (e_boxA rfl) rfl rfl rfl ?_
  rintro _ _ ⟨b, hb, rfl, rfl⟩
  refine gz ?_
  exact k_ret [] rfl .refl (by exact zRes) ⟨b, hb, rfl, by rw [asA, zero_cells]⟩
def addP (s : ASt) (o : Int) : Int × Int × ASt :=
  if o < 1 then (0, 2, s) else if (atO s o).isSome then (0, 16, s) else
  match firstTo (fun p => s.obj p == 0 && !s.dead p) 8 with
  | some p => ((p : Int), 0, { s with obj := upd s.obj p o })
  | none => (0, 11, s)
theorem at_any' (b : Nat) (s : ASt) (o i : Int) (h : atI s o = i) (l : List Chunk) (hm : asA b s ∈ l) :
    Fn Tryz.prog 150 [.pointer (some ⟨b, 0, none⟩), .int .i64 o] l fun v l' => v = .int .i64 i ∧ l' = l := by rw [← h]; exact at_any b s o l hm
set_option maxHeartbeats 1000000 in
theorem addPool_any (b : Nat) (s : ASt) (o : Int) (F : List Chunk) :
    Fn Tryz.prog 87 [.pointer (some ⟨b, 0, none⟩), .int .i64 o] (asA b s :: F) fun v l' => v = .tuple #[.int .i64 (addP s o).1, .int .i64 (addP s o).2.1] ∧ l' = asA b (addP s o).2.2 :: F := by
  refine fn_of_body Tryz.func87 rfl rfl fun E => ?_
  simp only [argF, Tryz.ntmps87]
  refine gz ?_
  refine c_if rfl (fun ho => ?_) (fun ho => ?_)
  · refine gz ?_
    exact k_ret [] rfl .refl (by exact zRes) ⟨by simp [tup, addP, ho], by simp [addP, ho]⟩
  · refine gz ?_
    cases hq : atO s o with
    | some q =>
      refine t_q (q_call rfl rfl (fun l hl => at_any' b s o q (by simp [atI, hq]) l (hl _ (by exact zMem)))) rfl rfl rfl ?_
      refine gz ?_
      exact k_ret [] rfl .refl (by exact zRes) ⟨by simp [tup, addP, ho, hq], by simp [addP, ho, hq]⟩
    | none =>
      refine t_q (q_call rfl rfl (fun l hl => at_any' b s o (-1) (by simp [atI, hq]) l (hl _ (by exact zMem)))) rfl rfl rfl ?_
      refine gz ?_
      refine k_loop (α := Nat) (fun k => [(0, .pointer (some ⟨b, 0, none⟩)), (1, .int .i64 o), (18, .int .i64 k)]) (fun k => asA b s :: F) (fun k => k ≤ 8 ∧ firstTo (fun p => s.obj p == 0 && !s.dead p) k = none) (fun k => 8 - k) 0 ⟨by omega, rfl⟩ ⟨rfl, rfl, rfl, trivial⟩ .refl ?_
      rintro k ⟨hk, hf⟩
      by_cases hlt : k < 8
      · have hc := s.c_obj k hlt
        have hd := s.c_dead k hlt
        by_cases hz : s.obj k = 0
        · cases hdd : s.dead k with
          | true =>
            rw [hdd] at hd
            refine gz ?_
            exact k_next (k + 1) ⟨by omega, by rw [firstTo_succ, hf]; simp [hz, hdd]⟩ (by omega) ⟨rfl, rfl, rfl, trivial⟩ .refl
          | false =>
            rw [hdd] at hd
            refine gz ?_
            refine t_n (e_store (cs := s.cells) rfl rfl rfl (by exact zUpd) (by rw [s.cells_size]; omega)) rfl rfl ?_
            rintro _ _ ⟨rfl, rfl⟩
            rw [s.s_obj k hlt]
            refine gz ?_
            have hft := firstTo_hit (fun p => s.obj p == 0 && !s.dead p) 8 k hlt (by simp [hz, hdd]) hf
            exact k_ret [] rfl .refl (by exact zRes) ⟨by simp [tup, addP, ho, hq, hft], by simp [addP, ho, hq, hft]⟩
        · refine gz ?_
          exact k_next (k + 1) ⟨by omega, by rw [firstTo_succ, hf]; simp [hz]⟩ (by omega) ⟨rfl, rfl, rfl, trivial⟩ .refl
      · obtain rfl : k = 8 := by omega
        refine gz ?_
        exact k_ret [] rfl .refl (by exact zRes) ⟨by simp [tup, addP, ho, hq, hf], by simp [addP, ho, hq, hf]⟩
def serO (s : ASt) (n : Nat) : Int := (n : Int) + 32 * s.given n
def freeO (s : ASt) (p : Nat) (i : Fin 4) : Bool := s.root (4 * p + i.val) == 0 && decide (serO s (4 * p + i.val) ≤ 16777215)
def ASt.give (s : ASt) (n : Nat) (r : Int) : ASt := { s with root := upd s.root n r, ser := upd s.ser n (serO s n), given := upd s.given n (s.given n + 1) }
def assignP (s : ASt) (o r : Int) : Int × Int × Int × ASt :=
  match atO s o with
  | none => (0, 0, 2, s)
  | some p => if r < 1 then (0, 0, 2, s) else if (findN s (isRoot r)).isSome then (0, 0, 13, s) else
    match (nums p).find? (freeO s p) with
    | some i => ((4 * p + i.val : Nat), serO s (4 * p + i.val), 0, s.give (4 * p + i.val) r)
    | none => (0, 0, 11, s)
theorem find_prefix {α : Type} (f : α → Bool) (pre l : List α) (i : α) (h : pre ++ [i] <+: l) (hp : ∀ j ∈ pre, f j = false) (hi : f i = true) : l.find? f = some i := by
  obtain ⟨rest, rfl⟩ := h
  rw [List.append_assoc, List.find?_append, List.find?_eq_none.2 (fun j hj => by simp [hp j hj])]
  simp [hi]
theorem atO_lt (s : ASt) (o : Int) (p : Nat) (h : atO s o = some p) : p < 8 := by
  unfold atO at h
  split at h
  · cases h
  · exact (firstTo_some _ _ _ h).1
set_option maxHeartbeats 400000 in
theorem assign_any (b : Nat) (s : ASt) (o r : Int) (F : List Chunk) (hg : ∀ n, n < 32 → 0 ≤ s.given n ∧ s.given n ≤ 600000) :
    Fn Tryz.prog 88 [.pointer (some ⟨b, 0, none⟩), .int .i64 o, .int .i64 r] (asA b s :: F) fun v l' => v = .tuple #[.int .i64 (assignP s o r).1, .int .i64 (assignP s o r).2.1, .int .i64 (assignP s o r).2.2.1] ∧ l' = asA b (assignP s o r).2.2.2 :: F := by
  refine fn_of_body Tryz.func88 rfl rfl fun E => ?_
  simp only [argF, Tryz.ntmps88]
  refine gz ?_
  (first | refine t_e (e_box1 rfl rfl) rfl rfl rfl ?_ | refine t_e (e_boxA rfl) rfl rfl rfl ?_); rintro _ _ ⟨b3, _, rfl, rfl⟩
  refine gz ?_
  (first | refine t_e (e_box1 rfl rfl) rfl rfl rfl ?_ | refine t_e (e_boxA rfl) rfl rfl rfl ?_); rintro _ _ ⟨b5, _, rfl, rfl⟩
  refine gz ?_
  refine t_e e_alloc rfl rfl rfl ?_; rintro _ _ ⟨b6, _, rfl, rfl⟩
  refine gz ?_
  refine t_e e_alloc rfl rfl rfl ?_; rintro _ _ ⟨b7, _, rfl, rfl⟩
  refine gz ?_
  refine t_e e_alloc rfl rfl rfl ?_; rintro _ _ ⟨b8, _, rfl, rfl⟩
  refine gz ?_
  cases hq : atO s o with
  | none =>
    refine t_q (q_call rfl rfl (fun l hl => at_any' b s o (-1) (by simp [atI, hq]) l (hl _ (by exact zMem)))) rfl rfl rfl ?_
    refine gz ?_
    refine t_e e_alloc rfl rfl rfl ?_; rintro _ _ ⟨b9, _, rfl, rfl⟩
    refine gz ?_
    exact k_ret2 [] ((b6, .cells #[.int .i64 0] 3 (0, 0)) :: (b7, .cells #[.int .i64 0] 3 (0, 0)) :: (b8, .cells #[.int .i64 2] 26 (0, 0)) :: asA b s :: F) rfl (l' := asA b s :: F) (by exact zKeep) (by exact zRes) (by exact zKeep) ⟨by simp [tup, assignP, hq], by simp [assignP, hq]⟩
  | some p =>
    have hp := atO_lt s o p hq
    refine t_q (q_call rfl rfl (fun l hl => at_any' b s o p (by simp [atI, hq]) l (hl _ (by exact zMem)))) rfl rfl rfl ?_
    refine gz ?_
    refine t_e e_alloc rfl rfl rfl ?_; rintro _ _ ⟨b9, _, rfl, rfl⟩
    refine gz ?_
    refine c_if rfl (fun hr => ?_) (fun hr => ?_)
    · refine gz ?_
      exact k_ret2 [] ((b6, .cells #[.int .i64 0] 3 (0, 0)) :: (b7, .cells #[.int .i64 0] 3 (0, 0)) :: (b8, .cells #[.int .i64 2] 26 (0, 0)) :: asA b s :: F) rfl (l' := asA b s :: F) (by exact zKeep) (by exact zRes) (by exact zKeep) ⟨by simp [tup, assignP, hq, hr], by simp [assignP, hq, hr]⟩
    · refine gz ?_
      cases hf : findN s (isRoot r) with
      | some n =>
        refine t_q (q_call rfl rfl (fun l hl => find_some b b5 _ s r (isRoot r) n hf l (hl _ (by exact zMem)) (hl _ (by exact zMem)) (fun r' q l h => root_1 b5 r r' q l h))) rfl rfl rfl ?_
        refine gz ?_
        refine t_e e_alloc rfl rfl rfl ?_; rintro _ _ ⟨b10, _, rfl, rfl⟩
        refine gz ?_
        exact k_ret2 [] ((b6, .cells #[.int .i64 0] 3 (0, 0)) :: (b7, .cells #[.int .i64 0] 3 (0, 0)) :: (b8, .cells #[.int .i64 13] 26 (0, 0)) :: asA b s :: F) rfl (l' := asA b s :: F) (by exact zKeep) (by exact zRes) (by exact zKeep) ⟨by simp [tup, assignP, hq, hr, hf], by simp [assignP, hq, hr, hf]⟩
      | none =>
        refine t_q (q_call rfl rfl (fun l hl => find_none b b5 _ s r (isRoot r) hf l (hl _ (by exact zMem)) (hl _ (by exact zMem)) (fun r' q l h => root_1 b5 r r' q l h))) rfl rfl rfl ?_
        refine gz ?_
        refine t_e e_alloc rfl rfl rfl ?_; rintro _ _ ⟨b10, _, rfl, rfl⟩
        refine gz ?_
        refine t_e (e_call0 rfl rfl (numbers_any p _)) rfl rfl rfl ?_
        rintro v l' ⟨B, hB, rfl, rfl⟩
        refine gz ?_
        refine c_range (α := Fin 4) (ps := [37, 38]) (lb := [.pointer (some ⟨B, 0, none⟩)]) rfl (numbers1_iter B p hp) (fun _ => rfl) rfl
          (fun pre l => l = [(B, .cells #[.int .i64 (p : Nat)] 3 (0, 0)), (b9, .cells #[.int .i64 (p : Nat)] 3 (0, 0)), (b3, .cells #[.pointer (some ⟨b, 0, none⟩)] 124 (0, 0)), (b5, .cells #[.int .i64 r] 3 (0, 0)), (b6, .cells #[.int .i64 0] 3 (0, 0)), (b7, .cells #[.int .i64 0] 3 (0, 0)), (b8, .cells #[.int .i64 0] 26 (0, 0)), asA b s] ∧ ∀ j ∈ pre, freeO s p j = false)
          (fun c pre l => c = .ret ∧ ∃ (pre' : List (Fin 4)) (i : Fin 4), pre = pre' ++ [i] ∧ (∀ j ∈ pre', freeO s p j = false) ∧ freeO s p i = true ∧ l = [(b6, .cells #[.int .i64 ((4 * p + i.val : Nat) : Int)] 3 (0, 0)), (b7, .cells #[.int .i64 (serO s (4 * p + i.val))] 3 (0, 0)), (b8, .cells #[.int .i64 0] 26 (0, 0)), asA b (s.give (4 * p + i.val) r)])
          _ F (fun pre l X _ h => by rw [h.1]; exact List.Mem.head _) (by exact zKeep) ⟨rfl, by simp⟩ ?_ ?_ ?_
        · rintro E r0 rec pre y l' T ⟨fn, tmps, D, rfl⟩ hT ⟨rfl, hpre⟩ hsp
          have hy4 := y.isLt
          have hgn := hg (4 * p + y.val) (by omega)
          have qr := s.c_root p y.val hp hy4
          have qg := s.c_given (4 * p + y.val) (by omega)
          simp only [putPs, List.cons_append, List.nil_append]
          refine gz ?_
          refine p_begin (by exact zUpd) ?_
          refine gz ?_
          have hsel : freeO s p y = (s.root (4 * p + y.val) == 0 && decide (serO s (4 * p + y.val) ≤ 16777215)) := rfl
          have hso : serO s (4 * p + y.val) = ((4 * p + y.val : Nat) : Int) + 32 * s.given (4 * p + y.val) := rfl
          have hno : freeO s p y = false → ∀ j ∈ pre ++ [y], freeO s p j = false := by
            intro h j hj
            rcases List.mem_append.1 hj with hj | hj
            · exact hpre j hj
            · simp at hj; subst hj; exact h
          rw [← hso]
          obtain ⟨q, hqe⟩ : ∃ q, serO s (4 * p + y.val) = q := ⟨_, rfl⟩
          have e1 := s.s_given (4 * p + y.val) (by omega) (s.given (4 * p + y.val) + 1)
          obtain ⟨s1, hs1⟩ : ∃ s1 : ASt, { s with given := upd s.given (4 * p + y.val) (s.given (4 * p + y.val) + 1) } = s1 := ⟨_, rfl⟩
          rw [hs1] at e1
          have e2 := s1.s_root p y.val hp hy4 r
          obtain ⟨s2, hs2⟩ : ∃ s2 : ASt, { s1 with root := upd s1.root (4 * p + y.val) r } = s2 := ⟨_, rfl⟩
          rw [hs2] at e2
          have e3 := s2.s_ser p y.val hp hy4 q
          obtain ⟨s3, hs3⟩ : ∃ s3 : ASt, { s2 with ser := upd s2.ser (4 * p + y.val) q } = s3 := ⟨_, rfl⟩
          rw [hs3] at e3
          have hs3 : s3 = s.give (4 * p + y.val) r := by rw [← hs3, ← hs2, ← hs1, ← hqe]; rfl
          rw [hqe] at hsel hso ⊢
          by_cases hr0 : s.root (4 * p + y.val) = 0
          · refine c_draw [(0, true), (1, true), (2, true), (3, true), (4, true), (5, true), (6, true), (7, true), (8, true), (9, true), (10, true), (11, true), (12, true), (13, true)] [[], [], [], [0], [0, 3], [0, 1, 3, 4], [0, 1, 3, 4, 5], [0, 1, 2, 3, 4, 5, 6], [0, 1, 2, 3, 4, 5, 6, 7], [0, 1, 2, 3, 4, 5, 6, 7, 8], [0, 1, 2, 3, 4, 5, 6, 7, 8, 9], [0, 1, 2, 3, 4, 5, 6, 7, 8, 9, 10], [0, 1, 2, 3, 4, 5, 6, 7, 8, 9, 10, 11], [0, 1, 2, 3, 4, 5, 6, 7, 8, 9, 10, 11, 12]] _ (by kernel_rfl) (by kernel_rfl) zAtt (fun _ h => h) ?_
            refine pz ?_
            by_cases hq0 : 16777215 < q
            · refine gz ?_
              refine p_round [(B, .cells #[.int .i64 (p : Nat)] 3 (0, 0)), (b9, .cells #[.int .i64 (p : Nat)] 3 (0, 0)), (b3, .cells #[.pointer (some ⟨b, 0, none⟩)] 124 (0, 0)), (b5, .cells #[.int .i64 r] 3 (0, 0)), (b6, .cells #[.int .i64 0] 3 (0, 0)), (b7, .cells #[.int .i64 0] 3 (0, 0)), (b8, .cells #[.int .i64 0] 26 (0, 0)), asA b s] (by exact zKeep) ⟨rfl, hno (by rw [hsel]; simp [hr0]; omega)⟩
            · refine gz ?_
              refine c_draw [(0, true), (1, true), (2, true), (3, true), (4, true), (7, true), (8, true), (5, false), (6, true), (9, true), (10, false)] [[], [], [0], [0, 2], [0, 1, 2, 3], [0, 1, 2, 3, 4], [0, 1, 2, 3, 4, 5], [0], [0, 7], [0, 1, 2, 3, 4, 5, 6, 7, 8], [0, 1, 2, 3, 4, 5, 6, 7, 8, 9]] ([(B, .cells #[.int .i64 (p : Nat)] 3 (0, 0)), (b9, .cells #[.int .i64 (p : Nat)] 3 (0, 0)), (b3, .cells #[.pointer (some ⟨b, 0, none⟩)] 124 (0, 0)), (b5, .cells #[.int .i64 r] 3 (0, 0))]) (by kernel_rfl) (by kernel_rfl) zAtt zHR ?_
              refine pz ?_
              apply pl_n
              · exact e_store (cs := s.cells) rfl rfl rfl (by exact zUpd) (by rw [ASt.cells_size]; omega)
              · rfl
              · rfl
              · rintro _ _ ⟨rfl, rfl⟩; exact (List.Sublist.subset (by exact zSubl))
              rintro _ _ ⟨rfl, rfl⟩
              rw [e1]
              refine pz ?_
              refine gz ?_
              refine c_draw [(0, true), (1, true), (2, true), (3, true), (4, true), (5, true), (6, true), (7, true), (8, true), (9, true), (10, true), (11, true), (12, true), (14, true), (15, true), (16, true), (17, true), (13, false), (18, true), (19, false)] [[], [], [], [], [], [], [], [], [0], [0, 8], [0, 1, 8, 9], [0, 1, 8, 9, 10], [0, 1, 2, 6, 8, 9, 10, 11], [0, 1, 2, 6, 8, 9, 10, 11, 12], [3], [3, 14], [3, 4, 14, 15], [3, 4, 14, 15, 16], [0, 1, 2, 3, 4, 5, 6, 7, 8, 9, 10, 11, 12, 13, 14, 15, 16, 17], [0, 1, 2, 3, 4, 5, 6, 7, 8, 9, 10, 11, 12, 13, 14, 15, 16, 17, 18]] ([(B, .cells #[.int .i64 (p : Nat)] 3 (0, 0)), (b9, .cells #[.int .i64 (p : Nat)] 3 (0, 0)), (b3, .cells #[.pointer (some ⟨b, 0, none⟩)] 124 (0, 0)), (b5, .cells #[.int .i64 r] 3 (0, 0))]) (by kernel_rfl) (by kernel_rfl) zAtt zHR ?_
              refine pz ?_
              apply pl_n
              · exact e_store (cs := s1.cells) rfl rfl rfl (by exact zUpd) (by rw [ASt.cells_size]; omega)
              · rfl
              · rfl
              · rintro _ _ ⟨rfl, rfl⟩; exact (List.Sublist.subset (by exact zSubl))
              rintro _ _ ⟨rfl, rfl⟩
              rw [e2]
              refine pz ?_
              apply pl_n
              · exact e_store (cs := s2.cells) rfl rfl rfl (by exact zUpd) (by rw [ASt.cells_size]; omega)
              · rfl
              · rfl
              · rintro _ _ ⟨rfl, rfl⟩; exact (List.Sublist.subset (by exact zSubl))
              rintro _ _ ⟨rfl, rfl⟩
              rw [e3]
              refine pz ?_
              refine gz ?_
              refine p_round_ret [(b6, .cells #[.int .i64 ((4 * p + y.val : Nat) : Int)] 3 (0, 0)), (b7, .cells #[.int .i64 q] 3 (0, 0)), (b8, .cells #[.int .i64 0] 26 (0, 0)), asA b s3] (by exact zKeep) ⟨rfl, pre, y, rfl, hpre, by rw [hsel]; simp [hr0]; omega, ?_⟩
              rw [hs3, hqe]
          · refine c_draw [(0, true), (1, true), (2, true), (3, true), (4, true), (5, true), (6, true), (7, true), (8, true), (9, true), (10, true), (11, true), (12, true), (13, true)] [[], [], [], [0], [0, 3], [0, 1, 3, 4], [0, 1, 3, 4, 5], [0, 1, 2, 3, 4, 5, 6], [0, 1, 2, 3, 4, 5, 6, 7], [0, 1, 2, 3, 4, 5, 6, 7, 8], [0, 1, 2, 3, 4, 5, 6, 7, 8, 9], [0, 1, 2, 3, 4, 5, 6, 7, 8, 9, 10], [0, 1, 2, 3, 4, 5, 6, 7, 8, 9, 10, 11], [0, 1, 2, 3, 4, 5, 6, 7, 8, 9, 10, 11, 12]] _ (by kernel_rfl) (by kernel_rfl) zAtt (fun _ h => h) ?_
            refine pz ?_
            refine gz ?_
            refine p_round [(B, .cells #[.int .i64 (p : Nat)] 3 (0, 0)), (b9, .cells #[.int .i64 (p : Nat)] 3 (0, 0)), (b3, .cells #[.pointer (some ⟨b, 0, none⟩)] 124 (0, 0)), (b5, .cells #[.int .i64 r] 3 (0, 0)), (b6, .cells #[.int .i64 0] 3 (0, 0)), (b7, .cells #[.int .i64 0] 3 (0, 0)), (b8, .cells #[.int .i64 0] 26 (0, 0)), asA b s] (by exact zKeep) ⟨rfl, hno (by rw [hsel]; simp [hr0])⟩
        · rintro D xs l' rfl ⟨rfl, hpre⟩
          have hno : (nums p).find? (freeO s p) = none := List.find?_eq_none.2 fun j hj => by simp [hpre j hj]
          simp only [List.cons_append, List.nil_append]
          refine gz ?_
          exact k_ret2 [D] ((b6, .cells #[.int .i64 0] 3 (0, 0)) :: (b7, .cells #[.int .i64 0] 3 (0, 0)) :: (b8, .cells #[.int .i64 11] 26 (0, 0)) :: asA b s :: F) rfl (l' := asA b s :: F) (by exact zKeep) (by exact zRes) (by exact zKeep) ⟨by simp [tup, assignP, hq, hr, hf, hno], by simp [assignP, hq, hr, hf, hno]⟩
        · rintro D c pre l' hsp ⟨rfl, pre', i, rfl, hp', hi, rfl⟩
          have hfd := find_prefix (freeO s p) pre' _ i hsp hp' hi
          simp only [List.cons_append, List.nil_append]
          refine gz ?_
          exact k_ret2 [D] ((b6, .cells #[.int .i64 ((4 * p + i.val : Nat) : Int)] 3 (0, 0)) :: (b7, .cells #[.int .i64 (serO s (4 * p + i.val))] 3 (0, 0)) :: (b8, .cells #[.int .i64 0] 26 (0, 0)) :: asA b (s.give (4 * p + i.val) r) :: F) rfl (l' := asA b (s.give (4 * p + i.val) r) :: F) (by exact zKeep) (by exact zRes) (by exact zKeep) ⟨by simp [tup, assignP, hq, hr, hf, hfd], by simp [assignP, hq, hr, hf, hfd]⟩
end Go.Proofs.YtcjknmpogkofpaaGreat.As
namespace Go.Proofs.YtcjknmpogkofpaaGreat
open Go.RowKit
set_option maxRecDepth 20000
def IntSl (l : List Chunk) (v : Value) (xs : List Int) : Prop :=
  ∃ a cap, v = .slice a xs.length cap ∧ (0 < xs.length → ∃ b off cs t fz, a = some ⟨b, off, none⟩ ∧ (b, Obj.cells cs t fz) ∈ l ∧ ∀ i x, xs[i]? = some x → cs[off + i * 1]? = some (.int .i64 x))
def intQ (x : Int) : Value := .int .i64 x
theorem OwnSl.intsQ {e : Nat} {v : Value} {xs : List Int} {cs l : List Chunk} (h : OwnSl e 1 v xs.length (xs.map intQ) cs) (hs : ∀ c, c ∈ cs → c ∈ l) : IntSl l v xs := by
  rcases h.2 with ⟨rfl, h0, rfl⟩ | ⟨b, cap, sp, rfl, rfl, _⟩
  · exact ⟨none, 0, by rw [h0], fun h => by omega⟩
  · refine ⟨_, cap, rfl, fun h0 => ⟨b, 0, _, e, (0, 0), rfl, hs _ List.mem_cons_self, fun i x hx => ?_⟩⟩
    have hlt := (List.getElem?_eq_some_iff.1 hx).1
    rw [Nat.zero_add, Nat.mul_one, List.getElem?_toArray, List.getElem?_append_left (by simpa using hlt), List.getElem?_map, hx]; rfl
set_option maxHeartbeats 400000 in
theorem sameInts_any (v u : Value) (xs ys : List Int) (l : List Chunk) (h1 : IntSl l v xs) (h2 : IntSl l u ys) (hx : xs.length ≤ 1000000) :
    Fn Tryz.prog 10 [v, u] l fun r l' => r = .bool (decide (xs = ys)) ∧ l' = l := by
  obtain ⟨a, ca, rfl, h1⟩ := h1
  obtain ⟨a', ca', rfl, h2⟩ := h2
  refine fn_of_body Tryz.func10 rfl rfl fun E => ?_
  simp only [argF, Tryz.ntmps10]
  by_cases hl : xs.length = ys.length
  · refine gz ?_
    refine k_loop (α := Nat) (fun k => [(0, .slice a xs.length ca), (1, .slice a' ys.length ca'), (5, .int .i64 k)]) (fun k => l) (fun k => k ≤ xs.length ∧ ∀ j, j < k → xs[j]? = ys[j]?) (fun k => xs.length - k) 0 ⟨Nat.zero_le _, fun j h => by omega⟩ ⟨rfl, rfl, rfl, trivial⟩ .refl ?_
    rintro k ⟨hk, hj⟩
    by_cases hlt : k < xs.length
    · obtain ⟨b, off, cs, t, fz, rfl, hm, hc⟩ := h1 (by omega)
      obtain ⟨b', off', cs', t', fz', rfl, hm', hc'⟩ := h2 (by omega)
      have g1 := hc k _ (List.getElem?_eq_getElem hlt)
      have g2 := hc' k _ (List.getElem?_eq_getElem (show k < ys.length by omega))
      obtain ⟨x, hx0⟩ : ∃ x, xs[k] = x := ⟨_, rfl⟩
      obtain ⟨y, hy0⟩ : ∃ y, ys[k]'(by omega) = y := ⟨_, rfl⟩
      rw [hx0] at g1
      rw [hy0] at g2
      have e1 : xs[k]? = some x := by rw [List.getElem?_eq_getElem hlt, hx0]
      have e2 : ys[k]? = some y := by rw [List.getElem?_eq_getElem (show k < ys.length by omega), hy0]
      refine gz ?_
      refine c_draw [(0, true), (1, true), (2, true), (3, true), (4, true), (5, true), (6, true), (7, true), (8, true)] [[], [], [0, 1], [0, 1, 2], [], [], [4, 5], [4, 5, 6], [0, 1, 2, 3, 4, 5, 6, 7]] _ (by kernel_rfl) (by kernel_rfl) zAtt (fun _ h => h) ?_
      refine pz ?_
      by_cases hxy : x = y
      · refine gz ?_
        exact k_next (k + 1) ⟨by omega, fun j hjk => by
          by_cases e : j = k
          · subst e; rw [e1, e2, hxy]
          · exact hj j (by omega)⟩ (by omega) ⟨rfl, rfl, rfl, trivial⟩ .refl
      · refine gz ?_
        refine k_ret [] rfl .refl (by exact zRes) ⟨?_, rfl⟩
        rw [show decide (xs = ys) = false from decide_eq_false fun e => by subst e; rw [e1] at e2; exact hxy (by cases e2; rfl)]; rfl
    · obtain rfl : k = xs.length := by omega
      refine gz ?_
      refine k_ret [] rfl .refl (by exact zRes) ⟨?_, rfl⟩
      rw [show decide (xs = ys) = true from decide_eq_true (List.ext_getElem? fun j => by
        by_cases h : j < xs.length
        · exact hj j h
        · rw [List.getElem?_eq_none (by omega), List.getElem?_eq_none (by omega)])]; rfl
  · refine gz ?_
    refine k_ret [] rfl .refl (by exact zRes) ⟨?_, rfl⟩
    rw [show decide (xs = ys) = false from decide_eq_false fun e => hl (by rw [e])]; rfl
set_option maxHeartbeats 400000 in
theorem overInts_any (v : Value) (n : Nat) (xs : List Value) (cs F : List Chunk) (h : OwnSl 3 1 v n xs cs) (hn : n ≤ 1000000) :
    Fn Tryz.prog 12 [v] (cs ++ F) fun r l' => r = .tuple #[] ∧ ∃ X, l' = X ++ F := by
  refine fn_of_body Tryz.func12 rfl rfl fun E => ?_
  simp only [argF, Tryz.ntmps12]
  obtain ⟨hlen, h⟩ := h
  rcases h with ⟨rfl, rfl, rfl⟩ | ⟨gb, cap, sp, rfl, rfl, hnc, hcm, hcl⟩
  · refine gz ?_
    refine k_loop (α := Unit) (fun k => [(0, .slice none 0 0), (2, .int .i64 0)]) (fun k => F) (fun k => True) (fun k => 0) () trivial ⟨rfl, rfl, trivial⟩ .refl ?_
    rintro _ _
    refine gz ?_
    refine t_e (e_lit1 rfl rfl) rfl rfl rfl ?_
    rintro _ _ ⟨bl, _, rfl, rfl⟩
    apply t_e
    · apply ce_append (xs := []) (news := [.int .i64 (-999)]) (zs := [.int .i64 0]) (cs := []) (n := 0)
      · rfl
      · rfl
      · rfl
      · exact OwnSl.nil _ _
      · exact List.mem_cons_self
      · intro j u hj; simpa using hj
      · rfl
      · simp [Value.oneCell']
      · unfold maxLen; omega
      · omega
    · rfl
    · rfl
    · rfl
    rintro v' _ ⟨cs', hown', rfl⟩
    have hv1 : v'.oneCell' = true := hown'.one
    refine gz ?_
    exact k_ret [] rfl .refl (by exact zRes) ⟨rfl, cs' ++ [(bl, _)], by simp; rfl⟩
  · simp only [List.cons_append, List.nil_append]
    refine gz ?_
    refine k_loop (α := Nat × List Value) (fun x => [(0, .slice (some ⟨gb, 0, none⟩) n cap), (2, .int .i64 x.1)]) (fun x => (gb, .cells (List.toArray x.2) 3 (0, 0)) :: F) (fun x => x.1 ≤ n ∧ x.2.length = cap * 1) (fun x => n - x.1) (0, xs ++ sp) ⟨Nat.zero_le _, hcl⟩ ⟨rfl, rfl, trivial⟩ .refl ?_
    rintro ⟨k, ys⟩ ⟨hk, hy⟩
    simp only at hk hy ⊢
    by_cases hlt : k < n
    · refine gz ?_
      refine t_n (e_store (cs := List.toArray ys) rfl rfl rfl (by exact zUpd) (by simp; omega)) rfl rfl ?_
      rintro _ _ ⟨rfl, rfl⟩
      rw [List.setIfInBounds_toArray]
      refine gz ?_
      exact k_next (k + 1, ys.set (k * 1) (.int .i64 (-999))) ⟨by simp only; omega, by simp only [List.length_set]; exact hy⟩ (by simp only; omega) ⟨rfl, rfl, trivial⟩ .refl
    · obtain rfl : k = n := by omega
      refine gz ?_
      refine t_e (e_lit1 rfl rfl) rfl rfl rfl ?_
      rintro _ _ ⟨bl, _, rfl, rfl⟩
      refine s_keep (Keep.of_perm (List.Perm.swap _ _ _)) ?_
      apply t_e
      · apply ce_append (xs := ys.take k) (news := [.int .i64 (-999)]) (zs := [.int .i64 0]) (cs := [(gb, _)]) (n := k)
        · rfl
        · rfl
        · rfl
        · exact ⟨by simp; omega, .inr ⟨gb, cap, ys.drop k, rfl, by rw [List.take_append_drop], hnc, hcm, by rw [List.take_append_drop]; exact hy⟩⟩
        · exact List.mem_cons_of_mem _ List.mem_cons_self
        · intro j u hj; simpa using hj
        · rfl
        · simp [Value.oneCell']
        · unfold maxLen; omega
        · omega
      · rfl
      · rfl
      · rfl
      rintro v' _ ⟨cs', hown', rfl⟩
      have hv1 : v'.oneCell' = true := hown'.one
      refine gz ?_
      exact k_ret [] rfl .refl (by exact zRes) ⟨rfl, cs' ++ [(bl, _)], by simp; rfl⟩
end Go.Proofs.YtcjknmpogkofpaaGreat
namespace Go.Proofs.YtcjknmpogkofpaaGreat.As
open Go.RowKit
set_option maxRecDepth 20000
abbrev rfA (b : Nat) (s : ASt) : Chunk := (b, .cells s.cells 152 (0, 0))
structure Fit (s : ASt) : Prop where
  obj : ∀ p, p < 8 → 0 ≤ s.obj p
  r0 : s.root 0 = 0
  rs : ∀ n, n < 32 → (s.root n = 0 ↔ s.ser n = 0)
  emp : ∀ n, n < 32 → s.obj (n / 4) = 0 → s.root n = 0
theorem ASt.s_pool (s t : ASt) (p : Nat) (hp : p < 8) (ho : ∀ q, q ≠ p → t.obj q = s.obj q) (hd : ∀ q, q ≠ p → t.dead q = s.dead q) (hr : ∀ n, n / 4 ≠ p → t.root n = s.root n) (hs : ∀ n, n / 4 ≠ p → t.ser n = s.ser n) (hg : t.given = s.given) :
    setFrom s.cells (p * 10) [.int .i64 (t.obj p), .bool (t.dead p), .int .i64 (t.root (4 * p + 0)), .int .i64 (t.root (4 * p + 1)), .int .i64 (t.root (4 * p + 2)), .int .i64 (t.root (4 * p + 3)), .int .i64 (t.ser (4 * p + 0)), .int .i64 (t.ser (4 * p + 1)), .int .i64 (t.ser (4 * p + 2)), .int .i64 (t.ser (4 * p + 3))] = t.cells := by
  apply Array.ext_getElem?
  intro j
  rw [setFrom_get _ _ _ _ (by rw [s.cells_size]; simp; omega)]
  by_cases hj : j < 112
  · rw [t.cells_get j hj, s.cells_get j hj]
    simp only [List.length_cons, List.length_nil]
    by_cases hin : p * 10 ≤ j ∧ j < p * 10 + 10
    · rw [if_pos (by omega)]
      obtain ⟨i, hi, rfl⟩ : ∃ i, i < 10 ∧ j = p * 10 + i := ⟨j - p * 10, by omega, by omega⟩
      rw [show p * 10 + i - p * 10 = i by omega]
      unfold ASt.at
      have h80 : p * 10 + i < 80 := by omega
      have hdv : (p * 10 + i) / 10 = p := by omega
      have hm : (p * 10 + i) % 10 = i := by omega
      rw [if_pos h80, hdv, hm]
      match i, hi with
      | 0, _ => rfl
      | 1, _ => rfl
      | 2, _ => rfl
      | 3, _ => rfl
      | 4, _ => rfl
      | 5, _ => rfl
      | 6, _ => rfl
      | 7, _ => rfl
      | 8, _ => rfl
      | 9, _ => rfl
    · rw [if_neg (by omega)]
      congr 1
      unfold ASt.at
      by_cases h80 : j < 80
      · rw [if_pos h80, if_pos h80]
        have hq : j / 10 ≠ p := by omega
        rw [ho _ hq, hd _ hq]
        by_cases h0 : j % 10 = 0
        · rw [if_pos h0, if_pos h0]
        · rw [if_neg h0, if_neg h0]
          by_cases h1 : j % 10 = 1
          · rw [if_pos h1, if_pos h1]
          · rw [if_neg h1, if_neg h1]
            by_cases h6 : j % 10 < 6
            · rw [if_pos h6, if_pos h6, hr _ (by omega)]
            · rw [if_neg h6, if_neg h6, hs _ (by omega)]
      · rw [if_neg h80, if_neg h80, hg]
  · rw [if_neg (by simp; omega), Array.getElem?_eq_none (by rw [s.cells_size]; omega), Array.getElem?_eq_none (by rw [t.cells_size]; omega)]
set_option maxHeartbeats 400000
theorem rat_any (b : Nat) (s : ASt) (o : Int) (l : List Chunk) (hm : rfA b s ∈ l) (hF : Fit s) :
    Fn Tryz.prog 106 [.pointer (some ⟨b, 0, none⟩), .int .i64 o] l fun v l' => v = .int .i64 (atI s o) ∧ l' = l := by
  refine fn_of_body Tryz.func106 rfl rfl fun E => ?_
  simp only [argF, Tryz.ntmps106]
  refine gz ?_
  refine k_loop (α := Nat) (fun k => [(0, .pointer (some ⟨b, 0, none⟩)), (1, .int .i64 o), (5, .int .i64 k)]) (fun k => l) (fun k => k ≤ 8 ∧ (o ≠ 0 → firstTo (fun p => s.obj p == o) k = none)) (fun k => 8 - k) 0 ⟨by omega, fun _ => rfl⟩ ⟨rfl, rfl, rfl, trivial⟩ .refl ?_
  rintro k ⟨hk, hf⟩
  by_cases hlt : k < 8
  · have hc := s.c_obj k hlt
    have h0 := hF.obj k hlt
    by_cases ho : o = 0
    · refine gz ?_
      exact k_next (k + 1) ⟨by omega, fun h => absurd ho h⟩ (by omega) ⟨rfl, rfl, rfl, trivial⟩ .refl
    · by_cases hq : s.obj k = o
      · refine gz ?_
        refine k_ret [] rfl .refl (by exact zRes) ⟨?_, rfl⟩
        have h1 : ¬ o < 1 := by omega
        simp only [tup, atI, atO, if_neg h1]; rw [firstTo_hit _ 8 k hlt (by simp [hq]) (hf ho)]
      · refine gz ?_
        exact k_next (k + 1) ⟨by omega, fun h => by rw [firstTo_succ, hf h]; simp [hq]⟩ (by omega) ⟨rfl, rfl, rfl, trivial⟩ .refl
  · obtain rfl : k = 8 := by omega
    refine gz ?_
    refine k_ret [] rfl .refl (by exact zRes) ⟨?_, rfl⟩
    by_cases h1 : o < 1
    · simp [tup, atI, atO, h1]
    · simp only [tup, atI, atO, if_neg h1]; rw [hf (by omega)]
theorem rat_any' (b : Nat) (s : ASt) (o i : Int) (h : atI s o = i) (l : List Chunk) (hm : rfA b s ∈ l) (hF : Fit s) :
    Fn Tryz.prog 106 [.pointer (some ⟨b, 0, none⟩), .int .i64 o] l fun v l' => v = .int .i64 i ∧ l' = l := by rw [← h]; exact rat_any b s o l hm hF
theorem raddPool_any (b : Nat) (s : ASt) (o : Int) (F : List Chunk) (hF : Fit s) :
    Fn Tryz.prog 35 [.pointer (some ⟨b, 0, none⟩), .int .i64 o] (rfA b s :: F) fun v l' => v = .tuple #[.int .i64 (addP s o).1, .int .i64 (addP s o).2.1] ∧ l' = rfA b (addP s o).2.2 :: F := by
  refine fn_of_body Tryz.func35 rfl rfl fun E => ?_
  simp only [argF, Tryz.ntmps35]
  refine gz ?_
  refine c_if rfl (fun ho => ?_) (fun ho => ?_)
  · refine gz ?_
    exact k_ret [] rfl .refl (by exact zRes) ⟨by simp [tup, addP, ho], by simp [addP, ho]⟩
  · refine gz ?_
    cases hq : atO s o with
    | some q =>
      refine t_q (q_call rfl rfl (fun l hl => rat_any' b s o q (by simp [atI, hq]) l (hl _ (by exact zMem)) hF)) rfl rfl rfl ?_
      refine gz ?_
      exact k_ret [] rfl .refl (by exact zRes) ⟨by simp [tup, addP, ho, hq], by simp [addP, ho, hq]⟩
    | none =>
      refine t_q (q_call rfl rfl (fun l hl => rat_any' b s o (-1) (by simp [atI, hq]) l (hl _ (by exact zMem)) hF)) rfl rfl rfl ?_
      refine gz ?_
      refine k_loop (α := Nat) (fun k => [(0, .pointer (some ⟨b, 0, none⟩)), (1, .int .i64 o), (6, .int .i64 k)]) (fun k => rfA b s :: F) (fun k => k ≤ 8 ∧ firstTo (fun p => s.obj p == 0 && !s.dead p) k = none) (fun k => 8 - k) 0 ⟨by omega, rfl⟩ ⟨rfl, rfl, rfl, trivial⟩ .refl ?_
      rintro k ⟨hk, hf⟩
      by_cases hlt : k < 8
      · have hc := s.c_obj k hlt
        have hd := s.c_dead k hlt
        by_cases hz : s.obj k = 0
        · cases hdd : s.dead k with
          | true =>
            rw [hdd] at hd
            refine gz ?_
            exact k_next (k + 1) ⟨by omega, by rw [firstTo_succ, hf]; simp [hz, hdd]⟩ (by omega) ⟨rfl, rfl, rfl, trivial⟩ .refl
          | false =>
            rw [hdd] at hd
            have hro : ∀ i, i < 4 → s.root (4 * k + i) = 0 := fun i hi => hF.emp _ (by omega) (by rw [show (4 * k + i) / 4 = k by omega]; exact hz)
            have hse : ∀ i, i < 4 → s.ser (4 * k + i) = 0 := fun i hi => (hF.rs _ (by omega)).1 (hro i hi)
            have e1 := s.s_pool { s with obj := upd s.obj k o } k hlt (fun q h => upd_other _ _ _ _ h) (fun q h => rfl) (fun q h => rfl) (fun q h => rfl) rfl
            simp only [upd_same, hdd, hro 0 (by omega), hro 1 (by omega), hro 2 (by omega), hro 3 (by omega), hse 0 (by omega), hse 1 (by omega), hse 2 (by omega), hse 3 (by omega)] at e1
            refine gz ?_
            apply t_n
            · apply e_storeA (cs := s.cells)
              · rfl
              · rfl
              · rfl
              · simp [Value.oneCell']
              · exact zUpd
              · rw [s.cells_size]; omega
            · rfl
            · rfl
            rintro _ _ ⟨rfl, rfl⟩
            rw [List.toList_toArray, e1]
            refine gz ?_
            have hft := firstTo_hit (fun p => s.obj p == 0 && !s.dead p) 8 k hlt (by simp [hz, hdd]) hf
            exact k_ret [] rfl .refl (by exact zRes) ⟨by simp [tup, addP, ho, hq, hft], by simp [addP, ho, hq, hft]⟩
        · refine gz ?_
          exact k_next (k + 1) ⟨by omega, by rw [firstTo_succ, hf]; simp [hz]⟩ (by omega) ⟨rfl, rfl, rfl, trivial⟩ .refl
      · obtain rfl : k = 8 := by omega
        refine gz ?_
        exact k_ret [] rfl .refl (by exact zRes) ⟨by simp [tup, addP, ho, hq, hf], by simp [addP, ho, hq, hf]⟩
theorem rof_any (b : Nat) (s : ASt) (r : Int) (l : List Chunk) (hA : rfA b s ∈ l) (hF : Fit s) : Fn Tryz.prog 107 [.pointer (some ⟨b, 0, none⟩), .int .i64 r] l fun v l' => v = .tuple #[.int .i64 (ofP s r).1, .int .i64 (ofP s r).2.1, .bool (ofP s r).2.2] ∧ l' = l := by
  obtain ⟨g, hg⟩ : ∃ g : Nat → Bool, (fun n => decide (n ≠ 0) && s.hit (isRoot r) n) = g := ⟨_, rfl⟩
  have hgn : ∀ n, g n = (decide (n ≠ 0) && (decide (s.root n ≠ 0) && decide (s.root n = r))) := fun n => by rw [← hg]; rfl
  have hfN : findN s (isRoot r) = firstTo g 32 := by rw [← hg]; rfl
  refine fn_of_body Tryz.func107 rfl rfl fun E => ?_
  simp only [argF, Tryz.ntmps107]
  refine gz ?_
  refine k_loop (α := Nat) (fun p => [(0, .pointer (some ⟨b, 0, none⟩)), (1, .int .i64 r), (7, .int .i64 p)]) (fun k => l) (fun p => p ≤ 8 ∧ firstTo g (4 * p) = none) (fun k => 8 - k) 0 ⟨by omega, rfl⟩ ⟨rfl, rfl, rfl, trivial⟩ .refl ?_
  rintro p ⟨hp, hf⟩
  by_cases hp8 : p < 8
  · refine gz ?_
    refine k_loop (α := Nat) (fun i => [(0, .pointer (some ⟨b, 0, none⟩)), (1, .int .i64 r), (7, .int .i64 p), (8, .int .i64 i)]) (fun k => l) (fun i => i ≤ 4 ∧ firstTo g (4 * p + i) = none) (fun k => 4 - k) 0 ⟨by omega, hf⟩ ⟨rfl, rfl, rfl, rfl, trivial⟩ .refl ?_
    rintro i ⟨hi, hfi⟩
    by_cases hi4 : i < 4
    · have hc := s.c_root p i hp8 hi4
      have hs := s.c_ser p i hp8 hi4
      by_cases hr0 : r = 0
      · refine gz ?_
        refine k_next (i + 1) ⟨by omega, ?_⟩ (by omega) ⟨rfl, rfl, rfl, rfl, trivial⟩ .refl
        rw [← Nat.add_assoc, firstTo_succ, hfi, hgn]
        simp; intro _ h1 h2; omega
      by_cases hh : s.root (4 * p + i) = r
      · have hn0 : 4 * p + i ≠ 0 := fun h => by rw [h, hF.r0] at hh; omega
        refine gz ?_
        refine c_draw [(0, true), (1, true), (2, true), (3, true), (4, true), (5, true), (6, true), (7, true), (8, true), (9, true), (10, true), (11, true), (12, true), (13, true), (14, true), (15, true)] [[], [0], [], [0, 1, 2], [], [], [], [4], [4, 7], [4, 5, 7, 8], [4, 5, 7, 8, 9], [4, 5, 6, 7, 8, 9, 10], [4, 5, 6, 7, 8, 9, 10, 11], [0, 1, 2, 3], [0, 1, 2, 3, 4, 5, 6, 7, 8, 9, 10, 11, 12, 13], [0, 1, 2, 3, 4, 5, 6, 7, 8, 9, 10, 11, 12, 13, 14]] _ (by kernel_rfl) (by kernel_rfl) zAtt (fun _ h => h) ?_
        refine pz ?_
        refine gz ?_
        refine k_ret [] rfl .refl (by exact zRes) ⟨?_, rfl⟩
        have hft := firstTo_hit g 32 (4 * p + i) (by omega) (by rw [hgn]; simp [hh, hr0, hn0]; omega) hfi
        unfold ofP
        rw [hfN, hft]
        simp [tup]
      · refine gz ?_
        refine k_next (i + 1) ⟨by omega, ?_⟩ (by omega) ⟨rfl, rfl, rfl, rfl, trivial⟩ .refl
        rw [← Nat.add_assoc, firstTo_succ, hfi, hgn]
        simp [hh]
    · obtain rfl : i = 4 := by omega
      refine gz ?_
      exact k_next (p + 1) ⟨by omega, by rw [show 4 * (p + 1) = 4 * p + 4 by omega]; exact hfi⟩ (by omega) ⟨rfl, rfl, rfl, trivial⟩ .refl
  · obtain rfl : p = 8 := by omega
    refine gz ?_
    refine k_ret [] rfl .refl (by exact zRes) ⟨?_, rfl⟩
    unfold ofP
    rw [hfN, hf]
    simp [tup]
theorem rassign_any (b : Nat) (s : ASt) (o r : Int) (F : List Chunk) (hF : Fit s) (hg : ∀ n, n < 32 → 0 ≤ s.given n ∧ s.given n ≤ 600000) :
    Fn Tryz.prog 36 [.pointer (some ⟨b, 0, none⟩), .int .i64 o, .int .i64 r] (rfA b s :: F) fun v l' => v = .tuple #[.int .i64 (assignP s o r).1, .int .i64 (assignP s o r).2.1, .int .i64 (assignP s o r).2.2.1] ∧ l' = rfA b (assignP s o r).2.2.2 :: F := by
  refine fn_of_body Tryz.func36 rfl rfl fun E => ?_
  simp only [argF, Tryz.ntmps36]
  refine gz ?_
  have H := fun l h => rof_any b s r l h hF
  cases hq : atO s o with
  | none =>
    refine t_q (q_call rfl rfl (fun l hl => rat_any' b s o (-1) (by simp [atI, hq]) l (hl _ (by exact zMem)) hF)) rfl rfl rfl ?_
    refine gz ?_
    exact k_ret [] rfl .refl (by exact zRes) ⟨by simp [tup, assignP, hq], by simp [assignP, hq]⟩
  | some p =>
    have hp := atO_lt s o p hq
    refine t_q (q_call rfl rfl (fun l hl => rat_any' b s o p (by simp [atI, hq]) l (hl _ (by exact zMem)) hF)) rfl rfl rfl ?_
    by_cases hr : r < 1
    · refine gz ?_
      exact k_ret [] rfl .refl (by exact zRes) ⟨by simp [tup, assignP, hq, hr], by simp [assignP, hq, hr]⟩
    · refine gz ?_
      cases hf : findN s (isRoot r) with
      | some n =>
        have e : ofP s r = ((n : Int), s.ser n, true) := by unfold ofP; rw [hf]
        rw [e] at H
        dsimp only at H
        refine t_q (q_call rfl rfl (fun l hl => H l (hl _ (by exact zMem)))) rfl rfl rfl ?_
        refine gz ?_
        exact k_ret [] rfl .refl (by exact zRes) ⟨by simp [tup, assignP, hq, hr, hf], by simp [assignP, hq, hr, hf]⟩
      | none =>
        have e : ofP s r = (0, 0, false) := by unfold ofP; rw [hf]
        rw [e] at H
        dsimp only at H
        refine t_q (q_call rfl rfl (fun l hl => H l (hl _ (by exact zMem)))) rfl rfl rfl ?_
        refine gz ?_
        refine k_loop (α := Nat) (fun k => [(0, .pointer (some ⟨b, 0, none⟩)), (2, .int .i64 r), (9, .int .i64 p), (13, .int .i64 k)]) (fun k => rfA b s :: F) (fun k => k ≤ 4 ∧ ∀ j ∈ numsTo p k, freeO s p j = false) (fun k => 4 - k) 0 ⟨by omega, by simp [numsTo]⟩ ⟨rfl, rfl, rfl, rfl, trivial⟩ .refl ?_
        rintro k ⟨hk, hpre⟩
        by_cases hlt : k < 4
        · have hgn := hg (4 * p + k) (by omega)
          have qr := s.c_root p k hp hlt
          have qg := s.c_given (4 * p + k) (by omega)
          rw [show 80 + (4 * p + k) * 1 = 80 + (4 * (p : Int) + k).toNat * 1 by omega] at qg
          have hsel : freeO s p ⟨k, hlt⟩ = (s.root (4 * p + k) == 0 && decide (serO s (4 * p + k) ≤ 16777215)) := rfl
          have hso : serO s (4 * p + k) = ((4 * p + k : Nat) : Int) + 32 * s.given (4 * p + k) := rfl
          have hno : (4 * p + k ≠ 0 → freeO s p ⟨k, hlt⟩ = false) → ∀ j ∈ numsTo p (k + 1), freeO s p j = false := by
            intro h j hj
            rw [numsTo_succ _ _ hlt] at hj
            rcases List.mem_append.1 hj with hj | hj
            · exact hpre j hj
            · by_cases h0 : 4 * p + k = 0
              · rw [if_pos h0] at hj; simp at hj
              · rw [if_neg h0] at hj; simp at hj; subst hj; exact h h0
          have hnext : ∀ (Hn : 4 * p + k ≠ 0 → freeO s p ⟨k, hlt⟩ = false), k + 1 ≤ 4 ∧ ∀ j ∈ numsTo p (k + 1), freeO s p j = false := fun Hn => ⟨by omega, hno Hn⟩
          by_cases hr0 : s.root (4 * p + k) = 0
          · by_cases hn0 : 4 * p + k = 0
            · refine gz ?_
              exact k_next (k + 1) (hnext fun h => absurd hn0 h) (by omega) ⟨rfl, rfl, rfl, rfl, trivial⟩ .refl
            · by_cases hq0 : 16777215 < serO s (4 * p + k)
              · refine gz ?_
                exact k_next (k + 1) (hnext fun h => by rw [hsel]; simp; intro _; omega) (by omega) ⟨rfl, rfl, rfl, rfl, trivial⟩ .refl
              · have e1 := s.s_given (4 * p + k) (by omega) (s.given (4 * p + k) + 1)
                obtain ⟨s1, hs1⟩ : ∃ s1 : ASt, { s with given := upd s.given (4 * p + k) (s.given (4 * p + k) + 1) } = s1 := ⟨_, rfl⟩
                rw [hs1] at e1
                have e2 := s1.s_root p k hp hlt r
                obtain ⟨s2, hs2⟩ : ∃ s2 : ASt, { s1 with root := upd s1.root (4 * p + k) r } = s2 := ⟨_, rfl⟩
                rw [hs2] at e2
                have e3 := s2.s_ser p k hp hlt (4 * (p : Int) + k + 32 * s.given (4 * p + k))
                obtain ⟨s3, hs3⟩ : ∃ s3 : ASt, { s2 with ser := upd s2.ser (4 * p + k) (4 * (p : Int) + k + 32 * s.given (4 * p + k)) } = s3 := ⟨_, rfl⟩
                rw [hs3] at e3
                have hso' : serO s (4 * p + k) = 4 * (p : Int) + k + 32 * s.given (4 * p + k) := by rw [hso]; omega
                have hs3 : s3 = s.give (4 * p + k) r := by rw [← hs3, ← hs2, ← hs1, ← hso']; rfl
                refine gz ?_
                refine c_draw [(0, true), (1, true), (2, true), (3, true), (4, true), (7, true), (8, true), (5, false), (6, true), (9, true), (10, false)] [[], [], [0], [0, 2], [0, 1, 2, 3], [0, 1, 2, 3, 4], [0, 1, 2, 3, 4, 5], [0], [0, 7], [0, 1, 2, 3, 4, 5, 6, 7, 8], [0, 1, 2, 3, 4, 5, 6, 7, 8, 9]] ([]) (by kernel_rfl) (by kernel_rfl) zAtt zHR ?_
                refine pz ?_
                apply pl_n
                · exact e_store (cs := s.cells) (b := b) (off := 80 + (4 * p + k) * 1) (ptr_off rfl (by omega)) rfl rfl (by exact zUpd) (by rw [ASt.cells_size]; omega)
                · rfl
                · rfl
                · rintro _ _ ⟨rfl, rfl⟩; exact (List.Sublist.subset (by exact zSubl))
                rintro _ _ ⟨rfl, rfl⟩
                rw [e1]
                refine pz ?_
                refine gz ?_
                refine t_n (e_store (cs := s1.cells) rfl rfl rfl (by exact zUpd) (by rw [ASt.cells_size]; omega)) rfl rfl ?_
                rintro _ _ ⟨rfl, rfl⟩
                rw [e2]
                refine gz ?_
                refine t_n (e_store (cs := s2.cells) rfl rfl rfl (by exact zUpd) (by rw [ASt.cells_size]; omega)) rfl rfl ?_
                rintro _ _ ⟨rfl, rfl⟩
                rw [e3]
                refine gz ?_
                have hfd := find_prefix (freeO s p) (numsTo p k) (nums p) ⟨k, hlt⟩ (by
                  have h := numsTo_pre p (k + 1) 4 (by omega) (by omega)
                  rw [numsTo_succ _ _ hlt, if_neg hn0] at h; exact h) hpre (by rw [hsel]; simp [hr0]; omega)
                refine k_ret [] rfl .refl (by exact zRes) ⟨?_, ?_⟩
                · simp [tup, assignP, hq, hr, hf, hfd, hso']
                · simp [assignP, hq, hr, hf, hfd, hs3]
          · refine gz ?_
            exact k_next (k + 1) (hnext fun h => by rw [hsel]; simp [hr0]) (by omega) ⟨rfl, rfl, rfl, rfl, trivial⟩ .refl
        · obtain rfl : k = 4 := by omega
          refine gz ?_
          have hnone : (nums p).find? (freeO s p) = none := List.find?_eq_none.2 fun j hj => by simp [hpre j hj]
          exact k_ret [] rfl .refl (by exact zRes) ⟨by simp [tup, assignP, hq, hr, hf, hnone], by simp [assignP, hq, hr, hf, hnone]⟩
theorem setFrom_all (cs vs : List Value) (h : vs.length = cs.length) : setFrom (List.toArray cs) 0 vs = List.toArray vs := by
  apply Array.ext_getElem?
  intro j
  rw [setFrom_get _ _ _ _ (by simp [h])]
  by_cases hj : j < vs.length
  · rw [if_pos (by omega)]; simp
  · rw [if_neg (by omega)]; simp; rw [List.getElem?_eq_none (by omega), List.getElem?_eq_none (by omega)]
theorem LSub.of_all {n : Nat} (ws : List Value) (h : ws.length = n) : LSub ws 0 n ws := by
  subst h
  induction ws with
  | nil => exact .done
  | cons w ws ih => exact .take ih
theorem pools_any (b : Nat) (s : ASt) (ws : List Value) (hw : s.cells.extract 0 80 = List.toArray ws) (hl : ws.length = 80) (h1 : ∀ v, v ∈ ws → v.oneCell' = true) (l : List Chunk) (hm : asA b s ∈ l) : Fn Tryz.prog 51 [.pointer (some ⟨b, 0, none⟩)] l fun v l' => v = .agg (List.toArray ws) ∧ l' = l := by
  refine fn_of_body Tryz.func51 rfl rfl fun E => ?_
  simp only [argF, Tryz.ntmps51]
  refine gz ?_
  refine t_e e_alloc rfl rfl rfl ?_; rintro _ _ ⟨b2, _, rfl, rfl⟩
  refine gz ?_
  refine t_q (q_loadA (cs := s.cells) (n := 80) rfl (by exact zMem) (by rw [s.cells_size]; omega) hw) rfl rfl rfl ?_
  refine gz ?_
  apply t_n
  · apply e_storeA (n := 80)
    · rfl
    · rfl
    · simpa using hl
    · exact h1
    · exact .here
    · simp
  · rfl
  · rfl
  rintro _ _ ⟨rfl, rfl⟩
  rw [List.toList_toArray, setFrom_all _ _ (by rw [hl]; rfl)]
  refine gz ?_
  refine k_ret2 [] ((b2, .cells (List.toArray ws) 47 (0, 0)) :: l) rfl (l' := l) (by exact zKeep) (rs_cellA rfl (by exact zMem) (LSub.of_all (n := 80) _ hl) .nil) (by exact zKeep) ⟨rfl, rfl⟩
theorem Fit.zero : Fit ASt.zero := ⟨fun _ _ => Int.le_refl _, rfl, fun _ _ => Iff.rfl, fun _ _ _ => rfl⟩
theorem Fit.add {s : ASt} (h : Fit s) (o : Int) : Fit (addP s o).2.2 := by
  unfold addP
  split
  · exact h
  · rename_i ho
    split
    · exact h
    · split
      · rename_i p hp
        refine ⟨fun q hq => ?_, h.r0, h.rs, fun n hn h0 => ?_⟩
        · by_cases e : q = p
          · subst e; simp only [upd_same]; omega
          · simp only [upd_other _ _ _ _ e]; exact h.obj q hq
        · by_cases e : n / 4 = p
          · simp only [e, upd_same] at h0; omega
          · simp only [upd_other _ _ _ _ e] at h0; exact h.emp n hn h0
      · exact h
theorem Fit.assign {s : ASt} (h : Fit s) (o r : Int) (hg : ∀ n, n < 32 → 0 ≤ s.given n ∧ s.given n ≤ 600000) : Fit (assignP s o r).2.2.2 := by
  unfold assignP
  split
  · exact h
  · rename_i p hp
    split
    · exact h
    · rename_i hr
      split
      · exact h
      · split
        · rename_i i hi
          have hp8 := atO_lt s o p hp
          have hmem := List.mem_of_find?_eq_some hi
          have hn0 : 4 * p + i.val ≠ 0 := by
            unfold nums numsTo at hmem
            simp only [List.mem_filterMap, List.mem_range] at hmem
            obtain ⟨j, hj, he⟩ := hmem
            rw [dif_pos hj] at he
            by_cases h0 : 4 * p + j = 0
            · rw [if_pos h0] at he; cases he
            · rw [if_neg h0] at he; cases he; exact h0
          have hi4 := i.isLt
          have hob : s.obj p = o ∧ 1 ≤ o := by
            unfold atO at hp
            split at hp
            · cases hp
            · have := (firstTo_some _ _ _ hp).2.1
              simp at this
              exact ⟨this, by omega⟩
          have hgn := hg (4 * p + i.val) (by omega)
          refine ⟨h.obj, ?_, fun n hn => ?_, fun n hn h0 => ?_⟩
          · simp only [ASt.give]; rw [upd_other _ _ _ _ (by omega)]; exact h.r0
          · simp only [ASt.give]
            by_cases e : n = 4 * p + i.val
            · subst e; rw [upd_same, upd_same]
              constructor
              · intro hh; omega
              · intro hh; unfold serO at hh; omega
            · rw [upd_other _ _ _ _ e, upd_other _ _ _ _ e]; exact h.rs n hn
          · simp only [ASt.give] at h0 ⊢
            by_cases e : n = 4 * p + i.val
            · subst e
              rw [show (4 * p + i.val) / 4 = p by omega] at h0
              omega
            · rw [upd_other _ _ _ _ e]; exact h.emp n hn h0
        · exact h
end Go.Proofs.YtcjknmpogkofpaaGreat.As
namespace Go.Proofs.YtcjknmpogkofpaaGreat.Th
open Go.RowKit
set_option maxRecDepth 20000
structure ThT where
  id : Int
  st : Int
  pr : Int
  m0 : Int
  m1 : Int
  m2 : Int
  m3 : Int
  bd : Int
  got : Bool
  ca : Int
  wa : Int
  o0 : Int
  o1 : Int
  o2 : Int
  o3 : Int
  ob : Int
  gv : Int
  inn : Int
  cl : Bool
  fa : Bool
  hs : Bool
  wr : Bool
  va : Int
  vl : Int
abbrev encH (t : ThT) : List Value := [.int .i64 t.id, .int .i64 t.st, .int .i64 t.pr, .int .u64 t.m0, .int .u64 t.m1, .int .u64 t.m2, .int .u64 t.m3, .int .u64 t.bd, .bool t.got, .int .i64 t.ca, .int .i64 t.wa, .int .u64 t.o0, .int .u64 t.o1, .int .u64 t.o2, .int .u64 t.o3, .int .u64 t.ob, .int .i64 t.gv, .int .i64 t.inn, .bool t.cl, .bool t.fa, .bool t.hs, .bool t.wr, .int .u64 t.va, .int .u64 t.vl]
abbrev thK : List (Option IntKind) := [some .i64, some .i64, some .i64, some .u64, some .u64, some .u64, some .u64, some .u64, none, some .i64, some .i64, some .u64, some .u64, some .u64, some .u64, some .u64, some .i64, some .i64, none, none, none, none, some .u64, some .u64]
theorem encH_k (t : ThT) : AllK thK (encH t) := ⟨_, _, rfl, ⟨_, rfl⟩, _, _, rfl, ⟨_, rfl⟩, _, _, rfl, ⟨_, rfl⟩, _, _, rfl, ⟨_, rfl⟩, _, _, rfl, ⟨_, rfl⟩, _, _, rfl, ⟨_, rfl⟩, _, _, rfl, ⟨_, rfl⟩, _, _, rfl, ⟨_, rfl⟩, _, _, rfl, ⟨_, rfl⟩, _, _, rfl, ⟨_, rfl⟩, _, _, rfl, ⟨_, rfl⟩, _, _, rfl, ⟨_, rfl⟩, _, _, rfl, ⟨_, rfl⟩, _, _, rfl, ⟨_, rfl⟩, _, _, rfl, ⟨_, rfl⟩, _, _, rfl, ⟨_, rfl⟩, _, _, rfl, ⟨_, rfl⟩, _, _, rfl, ⟨_, rfl⟩, _, _, rfl, ⟨_, rfl⟩, _, _, rfl, ⟨_, rfl⟩, _, _, rfl, ⟨_, rfl⟩, _, _, rfl, ⟨_, rfl⟩, _, _, rfl, ⟨_, rfl⟩, _, _, rfl, ⟨_, rfl⟩, rfl⟩
theorem encH_inj : ∀ x y, encH x = encH y → x = y := fun x y h => by
  cases x; cases y
  simp only [encH, List.cons.injEq, Value.int.injEq, Value.bool.injEq, true_and, and_true] at h
  simp only [ThT.mk.injEq]
  exact h
instance : EQ Tryz.prog 76 thK := ⟨by kernel_rfl⟩
abbrev thZ : ThT := ⟨0, 0, 0, 0, 0, 0, 0, 0, false, 0, 0, 0, 0, 0, 0, 0, 0, 0, false, false, false, false, 0, 0⟩
abbrev thNew (id : Int) : ThT := ⟨id, 0, 0, 0, 0, 0, 0, 0, false, 0, 0, 0, 0, 0, 0, 0, 4096, 4096, false, false, false, false, 0, 0⟩
def mayH (t : ThT) : Bool := decide (1 ≤ t.id) && decide (0 ≤ t.st) && decide (t.st ≤ 4) && decide (0 ≤ t.pr) && decide (t.pr ≤ 7) && decide (0 ≤ t.ca) && decide (0 ≤ t.wa) && decide (0 ≤ t.gv) && decide (t.gv ≤ 4096) && decide (0 ≤ t.inn) && decide (t.inn ≤ 4096)
abbrev TL := List ThT
def findH (L : TL) (a : Int) : Option ThT := L.find? fun t => decide (t.id = a)
theorem findE_S (a : Int) : ∀ (es : List Ent) (i : Nat), findE a es i = findS a es i
  | [], i => rfl
  | e :: es, i => by unfold findE findS; rw [findE_S a es (i + 1)]
theorem getE_S (a : Int) (es : List Ent) : getE a es = getS a es := by unfold getE getS; rw [findE_S]
theorem setE_S (a : Int) (v : Value) (clock : Nat) (es : List Ent) : setE a v clock es = setS a v clock es := by unfold setE setS; rw [findE_S]; rfl
theorem getS_key {a : Int} {es : List Ent} : a ∈ es.map (·.1) ↔ (getS a es).isSome = true := by
  unfold getS
  cases h : findS a es 0 with
  | none =>
    simp only [Option.map_none, Option.isSome_none, Bool.false_eq_true, iff_false]
    exact fun hm => by
      obtain ⟨e, he, h2⟩ := List.mem_map.1 hm
      exact findS_none.1 h e he h2
  | some p =>
    obtain ⟨A, e, B, rfl, _, h1, _⟩ := findS_some (k := p.1) (v := p.2) h
    simp [h1]
structure XB (L : TL) (es : List Ent) (clock : Nat) : Prop where
  ok : KeysOk es clock
  get : ∀ a, getE a es = (findH L a).map fun t => .agg (List.toArray (encH t))
  asc : L.Pairwise fun x y => x.id < y.id
theorem XB.zero : XB [] [] 0 := ⟨⟨by simp, by simp, by simp⟩, fun a => rfl, by simp⟩
theorem findH_some {L : TL} {a : Int} {t : ThT} (h : findH L a = some t) : t ∈ L ∧ t.id = a := ⟨List.mem_of_find?_eq_some h, by simpa using List.find?_some h⟩
theorem findH_none {L : TL} {a : Int} : findH L a = none ↔ ∀ t, t ∈ L → t.id ≠ a := by unfold findH; rw [List.find?_eq_none]; simp
theorem XB.nd {L : TL} {es : List Ent} {clock : Nat} (h : XB L es clock) : (L.map ThT.id).Nodup := by
  refine (List.pairwise_map.2 (h.asc.imp fun hxy => ?_))
  omega
theorem XB.keys {L : TL} {es : List Ent} {clock : Nat} (h : XB L es clock) : (es.map (·.1)).Perm (L.map ThT.id) := by
  refine (List.perm_ext_iff_of_nodup h.ok.keys h.nd).2 fun a => ?_
  rw [getS_key, ← getE_S, h.get]
  cases hf : findH L a with
  | none =>
    simp only [Option.map_none, Option.isSome_none, Bool.false_eq_true, false_iff]
    exact fun hm => by
      obtain ⟨t, ht, h2⟩ := List.mem_map.1 hm
      exact findH_none.1 hf t ht h2
  | some t => obtain ⟨h1, h2⟩ := findH_some hf; simp only [Option.map_some, Option.isSome_some, true_iff]; exact List.mem_map.2 ⟨t, h1, h2⟩
theorem XB.len {L : TL} {es : List Ent} {clock : Nat} (h : XB L es clock) : es.length = L.length := by simpa using h.keys.length_eq
theorem XB.at_ {L : TL} {es : List Ent} {clock : Nat} (h : XB L es clock) {t : ThT} (ht : t ∈ L) : findH L t.id = some t := by
  cases hf : findH L t.id with
  | none => exact absurd rfl (findH_none.1 hf t ht)
  | some u => obtain ⟨h1, h2⟩ := findH_some hf; rw [nd_stamp h.nd h1 ht h2]
def insH (L : TL) (t : ThT) : TL := L.takeWhile (fun x => decide (x.id < t.id)) ++ t :: L.dropWhile fun x => decide (x.id < t.id)
def addD (L : TL) (id : Int) : Int × TL := if id < 1 then (2, L) else if (findH L id).isSome = true then (11, L) else (0, insH L (thNew id))
def putH (L : TL) (t : ThT) : TL := L.map fun x => if x.id = t.id then t else x
def setD (L : TL) (t : ThT) : Int × TL := if (findH L t.id).isSome = true ∧ mayH t = true then (0, putH L t) else (2, L)
theorem find_append {α : Type} (p : α → Bool) : ∀ (A B : List α), (A ++ B).find? p = (A.find? p).or (B.find? p)
  | [], B => rfl
  | x :: A, B => by
    rw [List.cons_append, List.find?_cons, List.find?_cons]
    cases p x with
    | true => rfl
    | false => exact find_append p A B
theorem XB.add {L : TL} {es : List Ent} {clock : Nat} (h : XB L es clock) {t : ThT} (hn : findH L t.id = none) : XB (insH L t) (setE t.id (.agg (List.toArray (encH t))) clock es).1 (setE t.id (.agg (List.toArray (encH t))) clock es).2 := by
  have hne := findH_none.1 hn
  have hall : ∀ x, x ∈ L.takeWhile (fun x => decide (x.id < t.id)) → x.id < t.id := fun x hx => by simpa using List.all_eq_true.1 (List.all_takeWhile (l := L) (p := fun x => decide (x.id < t.id))) x hx
  have hL : L.takeWhile (fun x => decide (x.id < t.id)) ++ L.dropWhile (fun x => decide (x.id < t.id)) = L := List.takeWhile_append_dropWhile ..
  have hs := h.asc
  rw [← hL, List.pairwise_append] at hs
  have hgt : ∀ x, x ∈ L.dropWhile (fun x => decide (x.id < t.id)) → t.id < x.id := fun x hx => by
    cases hd : L.dropWhile (fun x => decide (x.id < t.id)) with
    | nil => rw [hd] at hx; cases hx
    | cons y r =>
      have hy : ¬ y.id < t.id := by
        have := List.head?_dropWhile_not (fun x : ThT => decide (x.id < t.id)) L
        rw [hd] at this; simpa using this
      have hyL : y ∈ L := (List.dropWhile_sublist _).subset (by rw [hd]; exact List.mem_cons_self)
      have := hne y hyL
      rw [hd] at hx
      rcases List.mem_cons.1 hx with rfl | hx
      · omega
      · have h2 := hs.2.1
        rw [hd] at h2
        have := (List.pairwise_cons.1 h2).1 x hx
        omega
  rw [setE_S]
  refine ⟨h.ok.set _ _, fun a => ?_, ?_⟩
  · rw [getE_S, getS_set, ← getE_S, h.get]
    unfold insH findH
    rw [find_append, List.find?_cons]
    have e0 : L.find? (fun t => decide (t.id = a)) = ((L.takeWhile (fun x => decide (x.id < t.id))).find? (fun t => decide (t.id = a))).or ((L.dropWhile (fun x => decide (x.id < t.id))).find? (fun t => decide (t.id = a))) := by rw [← find_append, hL]
    rw [e0]
    by_cases ha : a = t.id
    · subst ha
      rw [if_pos rfl, decide_eq_true rfl]
      have : (L.takeWhile (fun x => decide (x.id < t.id))).find? (fun x => decide (x.id = t.id)) = none := List.find?_eq_none.2 fun x hx => by have := hall x hx; simp; omega
      rw [this]; rfl
    · rw [if_neg ha, decide_eq_false fun e => ha e.symm]
  · unfold insH
    refine List.pairwise_append.2 ⟨hs.1, List.pairwise_cons.2 ⟨fun x hx => hgt x hx, hs.2.1⟩, fun x hx y hy => ?_⟩
    have h1 := hall x hx
    rcases List.mem_cons.1 hy with rfl | hy
    · exact h1
    · have := hgt y hy; omega
theorem putH_ids (L : TL) (t : ThT) : (putH L t).map ThT.id = L.map ThT.id := by
  unfold putH; rw [List.map_map]
  apply List.map_congr_left
  intro x _
  show (if x.id = t.id then t else x).id = x.id
  split
  · rename_i h; exact h.symm
  · rfl
theorem find_put (L : TL) (t : ThT) (a : Int) : findH (putH L t) a = if a = t.id then (findH L a).map fun _ => t else findH L a := by
  unfold findH putH
  induction L with
  | nil => split <;> rfl
  | cons x L ih =>
    rw [List.map_cons, List.find?_cons, List.find?_cons]
    by_cases hx : x.id = t.id
    · rw [if_pos hx, hx]
      by_cases ha : t.id = a
      · rw [decide_eq_true ha, if_pos ha.symm]; rfl
      · rw [decide_eq_false ha, if_neg fun e => ha e.symm]
        rw [if_neg fun e => ha e.symm] at ih
        exact ih
    · rw [if_neg hx]
      by_cases ha : x.id = a
      · rw [decide_eq_true ha, if_neg fun e => hx (ha.trans e)]
      · rw [decide_eq_false ha]; exact ih
theorem XB.put {L : TL} {es : List Ent} {clock : Nat} (h : XB L es clock) {t : ThT} (hn : (findH L t.id).isSome = true) : XB (putH L t) (setE t.id (.agg (List.toArray (encH t))) clock es).1 (setE t.id (.agg (List.toArray (encH t))) clock es).2 := by
  rw [setE_S]
  refine ⟨h.ok.set _ _, fun a => ?_, ?_⟩
  · rw [getE_S, getS_set, ← getE_S, h.get, find_put]
    by_cases ha : a = t.id
    · rw [if_pos ha, if_pos ha, ha]
      obtain ⟨u, hu⟩ := Option.isSome_iff_exists.1 hn
      rw [hu]; rfl
    · rw [if_neg ha, if_neg ha]
  · have h2 : (L.map ThT.id).Pairwise (fun x y => x < y) := List.pairwise_map.2 h.asc
    rw [← putH_ids L t] at h2
    exact List.pairwise_map.1 h2
abbrev xC (b m : Nat) : Chunk := (b, .cells (List.toArray [.map (some m)]) 170 (0, 0))
def IsX (b : Nat) (L : TL) (lq : List Chunk) : Prop := ∃ m es clock, lq = [xC b m, (m, mapO .i64 es clock)] ∧ XB L es clock
abbrev thV (t : ThT) : Value := .agg (List.toArray (encH t))
abbrev thC (B : Nat) (t : ThT) : Chunk := (B, .cells (List.toArray (encH t)) 76 (0, 0))
set_option maxHeartbeats 400000
theorem new_any (l : List Chunk) : Fn Tryz.prog 69 [] l fun v l' => ∃ b, v = .pointer (some ⟨b, 0, none⟩) ∧ ∃ lq, IsX b [] lq ∧ l' = lq ++ l := by
  refine fn_of_body Tryz.func69 rfl rfl fun E => ?_
  simp only [argF, Tryz.ntmps69]
  refine gz ?_
  refine t_e e_makeMap rfl rfl rfl ?_
  rintro _ _ ⟨m, hm, rfl, rfl⟩
  refine gz ?_
  (first | refine t_e (e_box1 rfl rfl) rfl rfl rfl ?_ | refine t_e (e_boxA rfl) rfl rfl rfl ?_); rintro _ _ ⟨b, _, rfl, rfl⟩
  refine gz ?_
  exact k_ret [] rfl .refl (by exact zRes) ⟨b, rfl, _, ⟨m, [], 0, rfl, XB.zero⟩, rfl⟩
theorem may_any (t : ThT) (l : List Chunk) : Fn Tryz.prog 90 [thV t] l fun v l' => v = .bool (mayH t) ∧ l' = l := by
  refine fn_of_body Tryz.func90 rfl rfl fun E => ?_
  simp only [argF, Tryz.ntmps90]
  refine gz ?_
  (first | refine t_e (e_box1 rfl rfl) rfl rfl rfl ?_ | refine t_e (e_boxA rfl) rfl rfl rfl ?_); rintro _ _ ⟨b, _, rfl, rfl⟩
  by_cases h0 : 1 ≤ t.id
  case neg =>
    have e : mayH t = false := by unfold mayH; rw [decide_eq_false h0]; simp
    rw [e]
    refine gz ?_
    exact k_ret [] rfl (.drop .refl) (by exact zRes) ⟨rfl, rfl⟩
  by_cases h1 : 0 ≤ t.st
  case neg =>
    have e : mayH t = false := by unfold mayH; rw [decide_eq_false h1]; simp
    rw [e]
    refine gz ?_
    exact k_ret [] rfl (.drop .refl) (by exact zRes) ⟨rfl, rfl⟩
  by_cases h2 : t.st ≤ 4
  case neg =>
    have e : mayH t = false := by unfold mayH; rw [decide_eq_false h2]; simp
    rw [e]
    refine gz ?_
    exact k_ret [] rfl (.drop .refl) (by exact zRes) ⟨rfl, rfl⟩
  by_cases h3 : 0 ≤ t.pr
  case neg =>
    have e : mayH t = false := by unfold mayH; rw [decide_eq_false h3]; simp
    rw [e]
    refine gz ?_
    exact k_ret [] rfl (.drop .refl) (by exact zRes) ⟨rfl, rfl⟩
  by_cases h4 : t.pr ≤ 7
  case neg =>
    have e : mayH t = false := by unfold mayH; rw [decide_eq_false h4]; simp
    rw [e]
    refine gz ?_
    exact k_ret [] rfl (.drop .refl) (by exact zRes) ⟨rfl, rfl⟩
  by_cases h5 : 0 ≤ t.ca
  case neg =>
    have e : mayH t = false := by unfold mayH; rw [decide_eq_false h5]; simp
    rw [e]
    refine gz ?_
    exact k_ret [] rfl (.drop .refl) (by exact zRes) ⟨rfl, rfl⟩
  by_cases h6 : 0 ≤ t.wa
  case neg =>
    have e : mayH t = false := by unfold mayH; rw [decide_eq_false h6]; simp
    rw [e]
    refine gz ?_
    exact k_ret [] rfl (.drop .refl) (by exact zRes) ⟨rfl, rfl⟩
  by_cases h7 : 0 ≤ t.gv
  case neg =>
    have e : mayH t = false := by unfold mayH; rw [decide_eq_false h7]; simp
    rw [e]
    refine gz ?_
    exact k_ret [] rfl (.drop .refl) (by exact zRes) ⟨rfl, rfl⟩
  by_cases h8 : t.gv ≤ 4096
  case neg =>
    have e : mayH t = false := by unfold mayH; rw [decide_eq_false h8]; simp
    rw [e]
    refine gz ?_
    exact k_ret [] rfl (.drop .refl) (by exact zRes) ⟨rfl, rfl⟩
  by_cases h9 : 0 ≤ t.inn
  case neg =>
    have e : mayH t = false := by unfold mayH; rw [decide_eq_false h9]; simp
    rw [e]
    refine gz ?_
    exact k_ret [] rfl (.drop .refl) (by exact zRes) ⟨rfl, rfl⟩
  have e : mayH t = decide (t.inn ≤ 4096) := by unfold mayH; rw [decide_eq_true h0, decide_eq_true h1, decide_eq_true h2, decide_eq_true h3, decide_eq_true h4, decide_eq_true h5, decide_eq_true h6, decide_eq_true h7, decide_eq_true h8, decide_eq_true h9]; simp
  rw [e]
  refine gz ?_
  exact k_ret [] rfl (.drop .refl) (by exact zRes) ⟨rfl, rfl⟩
theorem XB.look {L : TL} {es : List Ent} {clock : Nat} (h : XB L es clock) (a : Int) : (getE a es).getD (thV thZ) = thV ((findH L a).getD thZ) := by rw [h.get]; cases findH L a <;> rfl
theorem XB.has {L : TL} {es : List Ent} {clock : Nat} (h : XB L es clock) (a : Int) : (getE a es).isSome = (findH L a).isSome := by rw [h.get]; cases findH L a <;> rfl
theorem add_any (b : Nat) (L : TL) (lq : List Chunk) (hq : IsX b L lq) (id : Int) (G : List Chunk) :
    Fn Tryz.prog 80 [.pointer (some ⟨b, 0, none⟩), .int .i64 id] (lq ++ G) fun v l' => v = .int .i64 (addD L id).1 ∧ ∃ lq', IsX b (addD L id).2 lq' ∧ l' = lq' ++ G := by
  have hq0 := hq
  obtain ⟨m, es, clock, rfl, hX⟩ := hq
  refine fn_of_body Tryz.func80 rfl rfl fun E => ?_
  simp only [argF, Tryz.ntmps80]
  by_cases h1 : id < 1
  · rw [show addD L id = (2, L) by unfold addD; rw [if_pos h1]]
    refine gz ?_
    exact k_ret [] rfl .refl (by exact zRes) ⟨rfl, _, hq0, rfl⟩
  simp only [List.cons_append, List.nil_append]
  refine gz ?_
  rw [hX.look, hX.has]
  refine gz ?_
  refine t_e e_alloc rfl rfl rfl ?_; rintro _ _ ⟨b5, _, rfl, rfl⟩
  iterate 4 refine gzS ?_
  cases hf : findH L id with
  | some t =>
    rw [show addD L id = (11, L) by unfold addD; rw [if_neg h1, hf]; rfl]
    refine gz ?_
    exact k_ret [] rfl (.drop .refl) (by exact zRes) ⟨rfl, _, hq0, rfl⟩
  | none =>
    rw [show addD L id = (0, insH L (thNew id)) by unfold addD; rw [if_neg h1, hf]; rfl]
    refine gz ?_
    refine t_n (e_mapUpdate (a := id) (es := es) (clock := clock) rfl rfl rfl (by exact zUpd)) rfl rfl ?_
    rintro _ _ ⟨rfl, rfl⟩
    refine gz ?_
    exact k_ret [] rfl (.drop .refl) (by exact zRes) ⟨rfl, _, ⟨m, _, _, rfl, hX.add (t := thNew id) hf⟩, rfl⟩
theorem get_any (b : Nat) (L : TL) (lq : List Chunk) (hq : IsX b L lq) (id : Int) (l : List Chunk) (hsub : ∀ c, c ∈ lq → c ∈ l) :
    Fn Tryz.prog 23 [.pointer (some ⟨b, 0, none⟩), .int .i64 id] l fun v l' => v = .tuple #[thV ((findH L id).getD thZ), .bool (findH L id).isSome] ∧ l' = l := by
  obtain ⟨m, es, clock, rfl, hX⟩ := hq
  have hm1 := hsub _ (.head _)
  have hm2 := hsub _ (.tail _ (.head _))
  refine fn_of_body Tryz.func23 rfl rfl fun E => ?_
  simp only [argF, Tryz.ntmps23]
  refine gz ?_
  refine t_e e_alloc rfl rfl rfl ?_; rintro _ _ ⟨b4, _, rfl, rfl⟩
  refine gz ?_
  rw [hX.look, hX.has]
  refine gz ?_
  refine t_e e_alloc rfl rfl rfl ?_; rintro _ _ ⟨b6, _, rfl, rfl⟩
  refine gz ?_
  exact k_ret2 [] (thC b6 ((findH L id).getD thZ) :: thC b4 ((findH L id).getD thZ) :: l) rfl (l' := l) .refl (by exact zRes) (.drop (.drop .refl)) ⟨rfl, rfl⟩
theorem set_any (b : Nat) (L : TL) (lq : List Chunk) (hq : IsX b L lq) (t : ThT) (G : List Chunk) :
    Fn Tryz.prog 29 [.pointer (some ⟨b, 0, none⟩), thV t] (lq ++ G) fun v l' => v = .int .i64 (setD L t).1 ∧ ∃ lq', IsX b (setD L t).2 lq' ∧ l' = lq' ++ G := by
  have hq0 := hq
  obtain ⟨m, es, clock, rfl, hX⟩ := hq
  refine fn_of_body Tryz.func29 rfl rfl fun E => ?_
  simp only [argF, Tryz.ntmps29]
  simp only [List.cons_append, List.nil_append]
  refine gz ?_
  (first | refine t_e (e_box1 rfl rfl) rfl rfl rfl ?_ | refine t_e (e_boxA rfl) rfl rfl rfl ?_); rintro _ _ ⟨b3, _, rfl, rfl⟩
  refine gz ?_
  refine c_draw [(0, true), (1, true), (2, true), (3, true), (4, true), (5, true), (6, true), (7, true), (8, true), (9, true), (10, false), (11, false), (12, true)] [[], [0], [0, 1], [0, 1, 2], [], [4], [0, 1, 2, 3, 4, 5], [0, 1, 2, 3, 4, 5, 6], [0, 1, 2, 3, 4, 5, 6, 7], [0, 1, 2, 3, 4, 5, 6, 7], [], [0, 1, 2, 3, 4, 5, 6, 7, 8, 10], [0, 1, 2, 3, 4, 5, 6, 7, 8, 9, 10, 11]] _ (by kernel_rfl) (by kernel_rfl) zAtt (fun _ h => h) ?_
  refine pz ?_
  rw [hX.look, hX.has]
  refine pz ?_
  apply pl_e
  · exact e_alloc
  · rfl
  · rfl
  · rfl
  · rintro _ _ ⟨b5, _, _, rfl⟩ c hc; exact .tail _ hc
  rintro _ _ ⟨b5, _, rfl, rfl⟩
  refine pz ?_
  cases hf : findH L t.id with
  | none =>
    rw [show setD L t = (2, L) by unfold setD; rw [hf]; simp]
    refine gz ?_
    exact k_ret [] rfl (.drop (.drop .refl)) (by exact zRes) ⟨rfl, _, hq0, rfl⟩
  | some u =>
    cases hM : mayH t with
    | false =>
      rw [show setD L t = (2, L) by unfold setD; rw [hf, hM]; simp]
      refine gz ?_
      refine t_h (q_call rfl rfl fun l2 hl => may_any t l2) rfl rfl rfl ?_
      rw [hM]
      refine gz ?_
      exact k_ret [] rfl (.drop (.drop .refl)) (by exact zRes) ⟨rfl, _, hq0, rfl⟩
    | true =>
      rw [show setD L t = (0, putH L t) by unfold setD; rw [hf, hM]; simp]
      refine gz ?_
      refine t_h (q_call rfl rfl fun l2 hl => may_any t l2) rfl rfl rfl ?_
      rw [hM]
      refine gz ?_
      refine c_draw [(0, true), (1, true), (2, true), (3, true), (4, true), (5, true), (6, true), (7, false)] [[], [0], [0, 1], [0, 1, 2], [], [4], [], [0, 1, 2, 3, 4, 5, 6]] ([thC b3 t, xC b m]) (by kernel_rfl) (by kernel_rfl) zAtt zHR ?_
      refine pz ?_
      apply pl_n
      · exact e_mapUpdate (a := t.id) (es := es) (clock := clock) rfl rfl rfl (by exact zUpd)
      · rfl
      · rfl
      · rintro _ _ ⟨rfl, rfl⟩; exact List.Sublist.subset (by exact zSubl)
      rintro _ _ ⟨rfl, rfl⟩
      refine pz ?_
      refine gz ?_
      exact k_ret [] rfl (.drop (.drop .refl)) (by exact zRes) ⟨rfl, _, ⟨m, _, _, rfl, hX.put (by rw [hf]; rfl)⟩, rfl⟩
abbrev xB (B : Nat) (v : Value) : Chunk := (B, .cells #[v] 78 (0, 0))
theorem each_any (v : Value) (h1 : v.oneCell' = true) (l : List Chunk) : Fn Tryz.prog 129 [v] l fun r l' => ∃ B, r = .func (.func 178) #[] #[.pointer (some ⟨B, 0, none⟩)] ∧ l' = xB B v :: l := by
  refine fn_of_body Tryz.func129 rfl rfl fun E => ?_
  simp only [argF, Tryz.ntmps129]
  refine gz ?_
  refine t_e (e_box1 rfl h1) rfl rfl rfl ?_
  rintro _ _ ⟨B, hB, rfl, rfl⟩
  refine gz ?_
  exact k_ret [] rfl .refl (by exact zRes) ⟨B, rfl, rfl⟩
def thcs (L : TL) : List Value := L.flatMap encH
theorem thcs_snoc (L : TL) (t : ThT) : thcs (L ++ [t]) = thcs L ++ encH t := by simp [thcs]
theorem appendT_any (gf : Nat) [EN Tryz.prog gf] (lb : List Value) (S Sp : TL → Prop) (Need : TL → List Chunk → Prop) (hit : IterS Tryz.prog gf lb (fun t : ThT => [thV t]) S Sp Need) (n : Nat) (hsp : ∀ pre, Sp pre → pre.length ≤ n) (hn : n ≤ 900000) (l : List Chunk) (hneed : ∀ pre l2, (∀ c, c ∈ l → c ∈ l2) → Need pre l2) :
    Fn Tryz.prog 177 [.slice none 0 0, .func (.func gf) #[] lb.toArray] l fun v l' => ∃ xs cs, S xs ∧ OwnSl 76 24 v xs.length (thcs xs) cs ∧ l' = cs ++ l := by
  refine fn_of_body Tryz.func177 rfl rfl fun E => ?_
  simp only [argF, Tryz.ntmps177]
  refine gz ?_
  refine t_e (e_box1 rfl rfl) rfl rfl rfl ?_
  rintro _ _ ⟨b2, hb2, rfl, rfl⟩
  refine gz ?_
  refine c_range (α := ThT) (ps := [7]) (lb := lb) rfl hit (fun _ => rfl) rfl
    (fun pre l => ∃ v cs, OwnSl 76 24 v pre.length (thcs pre) cs ∧ l = [(b2, .cells #[v] 43 (0, 0))] ++ cs)
    (fun c pre l => False)
    _ l (fun pre l2 X2 hX h => by obtain ⟨v, cs, _, rfl⟩ := h; exact hneed _ _ fun c hc => List.mem_append_right _ (hX _ hc)) (by exact zKeep) ⟨_, [], OwnSl.nil _ _, rfl⟩ ?_ ?_ ?_
  · rintro E r0 rec pre y l' T ⟨fn, tmps, Dd, rfl⟩ hT0 ⟨v, cs', hown, rfl⟩ hsp0
    have hpl := hsp _ hsp0
    rw [List.length_append] at hpl
    simp only [putPs, List.cons_append, List.nil_append]
    refine gz ?_
    refine t_e e_alloc rfl rfl rfl ?_; rintro _ _ ⟨b5, _, rfl, rfl⟩
    refine gz ?_
    refine p_begin (.there (.there (upd_mid _ _ _ _ _))) ?_
    generalize hX1 : (r0, Obj.loop (recOf fn tmps _ _ _ Dd .busy none)) :: T = X1
    refine gz ?_
    refine t_e (e_litA (k := 24) rfl rfl rfl (by decide) (by decide)) rfl rfl rfl ?_
    rintro _ _ ⟨bl, _, rfl, rfl⟩
    refine t_e (e_appX (k := 24) (X := [thC b5 y, (b2, .cells #[v] 43 (0, 0))]) (cs := cs') (F := X1) (xs := thcs pre) (n := pre.length) (ws := encH y) rfl rfl rfl hown rfl (by simp [Value.oneCell']) (by omega) (by decide)) rfl rfl rfl ?_
    rintro v' _ ⟨c2, ho2, rfl⟩
    have hv1 : v'.oneCell' = true := ho2.one
    simp only [List.cons_append, List.nil_append]
    refine gz ?_
    rw [← hX1]
    refine p_round _ (.drop .refl) ⟨v', c2, ?_, rfl⟩
    rw [List.length_append, thcs_snoc]; exact ho2
  · rintro Dd xs l' hS ⟨v, cs', hown, rfl⟩
    have hv1 : v.oneCell' = true := hown.one
    simp only [List.cons_append, List.nil_append]
    refine gz ?_
    refine k_ret2 [Dd] (cs' ++ l) rfl (l' := cs' ++ l) (by exact zKeep) (by exact zRes) .refl ?_
    exact ⟨xs, cs', hS, hown, rfl⟩
  · rintro Dd c pre l' hsp h
    exact h.elim
theorem collectT_any (gf : Nat) [EN Tryz.prog gf] (lb : List Value) (S Sp : TL → Prop) (Need : TL → List Chunk → Prop) (hit : IterS Tryz.prog gf lb (fun t : ThT => [thV t]) S Sp Need) (n : Nat) (hsp : ∀ pre, Sp pre → pre.length ≤ n) (hn : n ≤ 900000) (l : List Chunk) (hneed : ∀ pre l2, (∀ c, c ∈ l → c ∈ l2) → Need pre l2) :
    Fn Tryz.prog 128 [.func (.func gf) #[] lb.toArray] l fun v l' => ∃ xs cs, S xs ∧ OwnSl 76 24 v xs.length (thcs xs) cs ∧ l' = cs ++ l := by
  refine fn_of_body Tryz.func128 rfl rfl fun E => ?_
  simp only [argF, Tryz.ntmps128]
  refine gz ?_
  refine t_e (e_call0 rfl rfl (appendT_any gf lb S Sp Need hit n hsp hn l hneed)) rfl rfl rfl ?_
  rintro v _ ⟨xs, cs, hS, ho, rfl⟩
  have hv1 : v.oneCell' = true := ho.one
  refine gz ?_
  refine k_ret [] rfl .refl (by exact zRes) ?_
  exact ⟨xs, cs, hS, ho, rfl⟩
end Go.Proofs.YtcjknmpogkofpaaGreat.Th
